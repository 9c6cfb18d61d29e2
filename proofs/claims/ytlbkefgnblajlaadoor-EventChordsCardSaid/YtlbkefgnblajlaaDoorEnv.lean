/- The environment of this seat: its types, its listed variables, its functions. -/
import Derived.Test.YtlbkefgnblajlaaDoorWords
import Derived.Test.YtlbkefgnblajlaaDoorVmE
import Derived.KernelRfl
import Derived.Test.YtlbkefgnblajlaaDoorProg
open Go
namespace Vm
abbrev kI : K := .int .i64
abbrev rI : Ks := .cons kI .nil
abbrev rB : Ks := .cons .bool .nil
abbrev rPitch : Ks := .cons kI (.cons kI (.cons kI .nil))
abbrev rEvent : Ks := .cons kI (.cons (.sl rPitch) (.cons (.sl rB) (.cons kI (.cons kI (.cons kI (.cons kI (.cons (.sl rI) (.cons .str .nil))))))))
abbrev rVal : Ks := .cons kI (.cons kI (.cons kI (.cons kI .nil)))
abbrev rS : Ks := .cons .str .nil
abbrev k8 : K := .int .u8
end Vm
open Go
namespace Vm.S6b
def tys : List (Nat × TI) := [
 (1, Vm.TI.mk Vm.TK.func false 1 8 [] [] 0 Vm.Ks.nil [Vm.V.nilfn] false Vm.Ks.nil false),
 (2, Vm.TI.mk (Vm.TK.int IntKind.i64) false 1 8 [] [] 0 (Vm.Ks.cons (Vm.K.int IntKind.i64) Vm.Ks.nil) [Vm.V.int IntKind.i64 (Int.ofNat 0)] false Vm.Ks.nil false),
 (3, Vm.TI.mk (Vm.TK.int IntKind.i64) false 1 8 [] [] 0 (Vm.Ks.cons (Vm.K.int IntKind.i64) Vm.Ks.nil) [Vm.V.int IntKind.i64 (Int.ofNat 0)] false Vm.Ks.nil false),
 (4, Vm.TI.mk Vm.TK.bool false 1 1 [] [] 0 (Vm.Ks.cons Vm.K.bool Vm.Ks.nil) [Vm.V.bool false] false Vm.Ks.nil false),
 (5, Vm.TI.mk (Vm.TK.int IntKind.u8) false 1 1 [] [] 0 (Vm.Ks.cons (Vm.K.int IntKind.u8) Vm.Ks.nil) [Vm.V.int IntKind.u8 (Int.ofNat 0)] false Vm.Ks.nil false),
 (6, Vm.TI.mk (Vm.TK.int IntKind.u8) false 1 1 [] [] 0 (Vm.Ks.cons (Vm.K.int IntKind.u8) Vm.Ks.nil) [Vm.V.int IntKind.u8 (Int.ofNat 0)] false Vm.Ks.nil false),
 (7, Vm.TI.mk Vm.TK.struct true 4 24 [0, 1, 2, 3] [2, 3, 4, 6] 0 (Vm.Ks.cons (Vm.K.int IntKind.i64) (Vm.Ks.cons (Vm.K.int IntKind.i64) (Vm.Ks.cons Vm.K.bool (Vm.Ks.cons (Vm.K.int IntKind.u8) Vm.Ks.nil)))) [Vm.V.int IntKind.i64 (Int.ofNat 0), Vm.V.int IntKind.i64 (Int.ofNat 0), Vm.V.bool false, Vm.V.int IntKind.u8 (Int.ofNat 0)] true Vm.Ks.nil false),
 (8, Vm.TI.mk Vm.TK.struct true 4 24 [0, 1, 2, 3] [2, 3, 4, 6] 0 (Vm.Ks.cons (Vm.K.int IntKind.i64) (Vm.Ks.cons (Vm.K.int IntKind.i64) (Vm.Ks.cons Vm.K.bool (Vm.Ks.cons (Vm.K.int IntKind.u8) Vm.Ks.nil)))) [Vm.V.int IntKind.i64 (Int.ofNat 0), Vm.V.int IntKind.i64 (Int.ofNat 0), Vm.V.bool false, Vm.V.int IntKind.u8 (Int.ofNat 0)] true Vm.Ks.nil false),
 (9, Vm.TI.mk Vm.TK.str false 1 16 [] [] 0 (Vm.Ks.cons Vm.K.str Vm.Ks.nil) [Vm.V.str []] false Vm.Ks.nil false),
 (10, Vm.TI.mk Vm.TK.str false 1 16 [] [] 0 (Vm.Ks.cons Vm.K.str Vm.Ks.nil) [Vm.V.str []] false Vm.Ks.nil false),
 (11, Vm.TI.mk Vm.TK.str false 1 16 [] [] 0 (Vm.Ks.cons Vm.K.str Vm.Ks.nil) [Vm.V.str []] false Vm.Ks.nil false),
 (12, Vm.TI.mk (Vm.TK.int IntKind.u64) false 1 8 [] [] 0 (Vm.Ks.cons (Vm.K.int IntKind.u64) Vm.Ks.nil) [Vm.V.int IntKind.u64 (Int.ofNat 0)] false Vm.Ks.nil false),
 (13, Vm.TI.mk Vm.TK.struct true 2 24 [0, 1] [9, 12] 0 (Vm.Ks.cons Vm.K.str (Vm.Ks.cons (Vm.K.int IntKind.u64) Vm.Ks.nil)) [Vm.V.str [], Vm.V.int IntKind.u64 (Int.ofNat 0)] false Vm.Ks.nil false),
 (14, Vm.TI.mk Vm.TK.struct true 2 24 [0, 1] [9, 12] 0 (Vm.Ks.cons Vm.K.str (Vm.Ks.cons (Vm.K.int IntKind.u64) Vm.Ks.nil)) [Vm.V.str [], Vm.V.int IntKind.u64 (Int.ofNat 0)] false Vm.Ks.nil false),
 (15, Vm.TI.mk Vm.TK.ptr false 1 8 [] [] 0 Vm.Ks.nil [Vm.V.nilp] false Vm.Ks.nil false),
 (16, Vm.TI.mk Vm.TK.ptr false 1 8 [] [] 0 Vm.Ks.nil [Vm.V.nilp] false Vm.Ks.nil false),
 (17, Vm.TI.mk Vm.TK.ptr false 1 8 [] [] 0 Vm.Ks.nil [Vm.V.nilp] false Vm.Ks.nil false),
 (18, Vm.TI.mk Vm.TK.struct true 1 8 [0] [17] 0 Vm.Ks.nil [Vm.V.nilp] false Vm.Ks.nil false),
 (19, Vm.TI.mk Vm.TK.struct true 1 8 [0] [17] 0 Vm.Ks.nil [Vm.V.nilp] false Vm.Ks.nil false),
 (20, Vm.TI.mk Vm.TK.iface false 1 16 [] [] 0 Vm.Ks.nil [Vm.V.nilif] false Vm.Ks.nil false),
 (21, Vm.TI.mk (Vm.TK.int IntKind.i32) false 1 4 [] [] 0 (Vm.Ks.cons (Vm.K.int IntKind.i32) Vm.Ks.nil) [Vm.V.int IntKind.i32 (Int.ofNat 0)] false Vm.Ks.nil false),
 (22, Vm.TI.mk Vm.TK.slice false 1 24 [] [] 31 (Vm.Ks.cons (Vm.K.sl (Vm.Ks.cons (Vm.K.int IntKind.i64) (Vm.Ks.cons (Vm.K.sl (Vm.Ks.cons (Vm.K.int IntKind.i64) (Vm.Ks.cons (Vm.K.int IntKind.i64) (Vm.Ks.cons (Vm.K.int IntKind.i64) Vm.Ks.nil)))) (Vm.Ks.cons (Vm.K.sl (Vm.Ks.cons Vm.K.bool Vm.Ks.nil)) (Vm.Ks.cons (Vm.K.int IntKind.i64) (Vm.Ks.cons (Vm.K.int IntKind.i64) (Vm.Ks.cons (Vm.K.int IntKind.i64) (Vm.Ks.cons (Vm.K.int IntKind.i64) (Vm.Ks.cons (Vm.K.sl (Vm.Ks.cons (Vm.K.int IntKind.i64) Vm.Ks.nil)) (Vm.Ks.cons Vm.K.str Vm.Ks.nil)))))))))) Vm.Ks.nil) [Vm.V.nilsl] false Vm.Ks.nil false),
 (23, Vm.TI.mk Vm.TK.func false 1 8 [] [] 0 Vm.Ks.nil [Vm.V.nilfn] false Vm.Ks.nil false),
 (24, Vm.TI.mk Vm.TK.func false 1 8 [] [] 0 Vm.Ks.nil [Vm.V.nilfn] false Vm.Ks.nil false),
 (25, Vm.TI.mk Vm.TK.slice false 1 24 [] [] 38 (Vm.Ks.cons (Vm.K.sl (Vm.Ks.cons (Vm.K.int IntKind.i64) (Vm.Ks.cons (Vm.K.int IntKind.i64) (Vm.Ks.cons (Vm.K.int IntKind.i64) Vm.Ks.nil)))) Vm.Ks.nil) [Vm.V.nilsl] false Vm.Ks.nil false),
 (26, Vm.TI.mk Vm.TK.slice false 1 24 [] [] 4 (Vm.Ks.cons (Vm.K.sl (Vm.Ks.cons Vm.K.bool Vm.Ks.nil)) Vm.Ks.nil) [Vm.V.nilsl] false Vm.Ks.nil false),
 (27, Vm.TI.mk Vm.TK.struct true 4 32 [0, 1, 2, 3] [3, 3, 3, 3] 0 (Vm.Ks.cons (Vm.K.int IntKind.i64) (Vm.Ks.cons (Vm.K.int IntKind.i64) (Vm.Ks.cons (Vm.K.int IntKind.i64) (Vm.Ks.cons (Vm.K.int IntKind.i64) Vm.Ks.nil)))) [Vm.V.int IntKind.i64 (Int.ofNat 0), Vm.V.int IntKind.i64 (Int.ofNat 0), Vm.V.int IntKind.i64 (Int.ofNat 0), Vm.V.int IntKind.i64 (Int.ofNat 0)] true Vm.Ks.nil false),
 (28, Vm.TI.mk Vm.TK.struct true 4 32 [0, 1, 2, 3] [3, 3, 3, 3] 0 (Vm.Ks.cons (Vm.K.int IntKind.i64) (Vm.Ks.cons (Vm.K.int IntKind.i64) (Vm.Ks.cons (Vm.K.int IntKind.i64) (Vm.Ks.cons (Vm.K.int IntKind.i64) Vm.Ks.nil)))) [Vm.V.int IntKind.i64 (Int.ofNat 0), Vm.V.int IntKind.i64 (Int.ofNat 0), Vm.V.int IntKind.i64 (Int.ofNat 0), Vm.V.int IntKind.i64 (Int.ofNat 0)] true Vm.Ks.nil false),
 (29, Vm.TI.mk Vm.TK.slice false 1 24 [] [] 3 (Vm.Ks.cons (Vm.K.sl (Vm.Ks.cons (Vm.K.int IntKind.i64) Vm.Ks.nil)) Vm.Ks.nil) [Vm.V.nilsl] false Vm.Ks.nil false),
 (30, Vm.TI.mk Vm.TK.struct true 9 128 [0, 1, 2, 3, 7, 8] [3, 25, 26, 28, 29, 9] 0 (Vm.Ks.cons (Vm.K.int IntKind.i64) (Vm.Ks.cons (Vm.K.sl (Vm.Ks.cons (Vm.K.int IntKind.i64) (Vm.Ks.cons (Vm.K.int IntKind.i64) (Vm.Ks.cons (Vm.K.int IntKind.i64) Vm.Ks.nil)))) (Vm.Ks.cons (Vm.K.sl (Vm.Ks.cons Vm.K.bool Vm.Ks.nil)) (Vm.Ks.cons (Vm.K.int IntKind.i64) (Vm.Ks.cons (Vm.K.int IntKind.i64) (Vm.Ks.cons (Vm.K.int IntKind.i64) (Vm.Ks.cons (Vm.K.int IntKind.i64) (Vm.Ks.cons (Vm.K.sl (Vm.Ks.cons (Vm.K.int IntKind.i64) Vm.Ks.nil)) (Vm.Ks.cons Vm.K.str Vm.Ks.nil))))))))) [Vm.V.int IntKind.i64 (Int.ofNat 0), Vm.V.nilsl, Vm.V.nilsl, Vm.V.int IntKind.i64 (Int.ofNat 0), Vm.V.int IntKind.i64 (Int.ofNat 0), Vm.V.int IntKind.i64 (Int.ofNat 0), Vm.V.int IntKind.i64 (Int.ofNat 0), Vm.V.nilsl, Vm.V.str []] false Vm.Ks.nil false),
 (31, Vm.TI.mk Vm.TK.struct true 9 128 [0, 1, 2, 3, 7, 8] [3, 25, 26, 28, 29, 9] 0 (Vm.Ks.cons (Vm.K.int IntKind.i64) (Vm.Ks.cons (Vm.K.sl (Vm.Ks.cons (Vm.K.int IntKind.i64) (Vm.Ks.cons (Vm.K.int IntKind.i64) (Vm.Ks.cons (Vm.K.int IntKind.i64) Vm.Ks.nil)))) (Vm.Ks.cons (Vm.K.sl (Vm.Ks.cons Vm.K.bool Vm.Ks.nil)) (Vm.Ks.cons (Vm.K.int IntKind.i64) (Vm.Ks.cons (Vm.K.int IntKind.i64) (Vm.Ks.cons (Vm.K.int IntKind.i64) (Vm.Ks.cons (Vm.K.int IntKind.i64) (Vm.Ks.cons (Vm.K.sl (Vm.Ks.cons (Vm.K.int IntKind.i64) Vm.Ks.nil)) (Vm.Ks.cons Vm.K.str Vm.Ks.nil))))))))) [Vm.V.int IntKind.i64 (Int.ofNat 0), Vm.V.nilsl, Vm.V.nilsl, Vm.V.int IntKind.i64 (Int.ofNat 0), Vm.V.int IntKind.i64 (Int.ofNat 0), Vm.V.int IntKind.i64 (Int.ofNat 0), Vm.V.int IntKind.i64 (Int.ofNat 0), Vm.V.nilsl, Vm.V.str []] false Vm.Ks.nil false),
 (32, Vm.TI.mk (Vm.TK.int IntKind.i64) false 1 8 [] [] 0 (Vm.Ks.cons (Vm.K.int IntKind.i64) Vm.Ks.nil) [Vm.V.int IntKind.i64 (Int.ofNat 0)] false Vm.Ks.nil false),
 (34, Vm.TI.mk Vm.TK.func false 1 8 [] [] 0 Vm.Ks.nil [Vm.V.nilfn] false Vm.Ks.nil false),
 (35, Vm.TI.mk Vm.TK.func false 1 8 [] [] 0 Vm.Ks.nil [Vm.V.nilfn] false Vm.Ks.nil false),
 (36, Vm.TI.mk Vm.TK.func false 1 8 [] [] 0 Vm.Ks.nil [Vm.V.nilfn] false Vm.Ks.nil false),
 (37, Vm.TI.mk Vm.TK.struct true 3 24 [0, 1, 2] [3, 3, 3] 0 (Vm.Ks.cons (Vm.K.int IntKind.i64) (Vm.Ks.cons (Vm.K.int IntKind.i64) (Vm.Ks.cons (Vm.K.int IntKind.i64) Vm.Ks.nil))) [Vm.V.int IntKind.i64 (Int.ofNat 0), Vm.V.int IntKind.i64 (Int.ofNat 0), Vm.V.int IntKind.i64 (Int.ofNat 0)] true Vm.Ks.nil false),
 (38, Vm.TI.mk Vm.TK.struct true 3 24 [0, 1, 2] [3, 3, 3] 0 (Vm.Ks.cons (Vm.K.int IntKind.i64) (Vm.Ks.cons (Vm.K.int IntKind.i64) (Vm.Ks.cons (Vm.K.int IntKind.i64) Vm.Ks.nil))) [Vm.V.int IntKind.i64 (Int.ofNat 0), Vm.V.int IntKind.i64 (Int.ofNat 0), Vm.V.int IntKind.i64 (Int.ofNat 0)] true Vm.Ks.nil false),
 (39, Vm.TI.mk Vm.TK.func false 1 8 [] [] 0 Vm.Ks.nil [Vm.V.nilfn] false Vm.Ks.nil false),
 (40, Vm.TI.mk Vm.TK.struct true 2 16 [0, 1] [3, 3] 0 (Vm.Ks.cons (Vm.K.int IntKind.i64) (Vm.Ks.cons (Vm.K.int IntKind.i64) Vm.Ks.nil)) [Vm.V.int IntKind.i64 (Int.ofNat 0), Vm.V.int IntKind.i64 (Int.ofNat 0)] true Vm.Ks.nil false),
 (41, Vm.TI.mk Vm.TK.struct true 2 16 [0, 1] [3, 3] 0 (Vm.Ks.cons (Vm.K.int IntKind.i64) (Vm.Ks.cons (Vm.K.int IntKind.i64) Vm.Ks.nil)) [Vm.V.int IntKind.i64 (Int.ofNat 0), Vm.V.int IntKind.i64 (Int.ofNat 0)] true Vm.Ks.nil false),
 (42, Vm.TI.mk Vm.TK.func false 1 8 [] [] 0 Vm.Ks.nil [Vm.V.nilfn] false Vm.Ks.nil false),
 (43, Vm.TI.mk Vm.TK.func false 1 8 [] [] 0 Vm.Ks.nil [Vm.V.nilfn] false Vm.Ks.nil false),
 (44, Vm.TI.mk Vm.TK.func false 1 8 [] [] 0 Vm.Ks.nil [Vm.V.nilfn] false Vm.Ks.nil false),
 (45, Vm.TI.mk Vm.TK.struct true 2 16 [0, 1] [3, 3] 0 (Vm.Ks.cons (Vm.K.int IntKind.i64) (Vm.Ks.cons (Vm.K.int IntKind.i64) Vm.Ks.nil)) [Vm.V.int IntKind.i64 (Int.ofNat 0), Vm.V.int IntKind.i64 (Int.ofNat 0)] true Vm.Ks.nil false),
 (46, Vm.TI.mk Vm.TK.struct true 2 16 [0, 1] [3, 3] 0 (Vm.Ks.cons (Vm.K.int IntKind.i64) (Vm.Ks.cons (Vm.K.int IntKind.i64) Vm.Ks.nil)) [Vm.V.int IntKind.i64 (Int.ofNat 0), Vm.V.int IntKind.i64 (Int.ofNat 0)] true Vm.Ks.nil false),
 (48, Vm.TI.mk Vm.TK.func false 1 8 [] [] 0 Vm.Ks.nil [Vm.V.nilfn] false Vm.Ks.nil false),
 (49, Vm.TI.mk Vm.TK.func false 1 8 [] [] 0 Vm.Ks.nil [Vm.V.nilfn] false Vm.Ks.nil false),
 (50, Vm.TI.mk Vm.TK.map false 1 8 [] [] 4 Vm.Ks.nil [Vm.V.nilmap] false (Vm.Ks.cons (Vm.K.int IntKind.i64) (Vm.Ks.cons (Vm.K.int IntKind.i64) (Vm.Ks.cons (Vm.K.int IntKind.i64) Vm.Ks.nil))) true),
 (52, Vm.TI.mk Vm.TK.func false 1 8 [] [] 0 Vm.Ks.nil [Vm.V.nilfn] false Vm.Ks.nil false),
 (53, Vm.TI.mk Vm.TK.func false 1 8 [] [] 0 Vm.Ks.nil [Vm.V.nilfn] false Vm.Ks.nil false),
 (54, Vm.TI.mk Vm.TK.func false 1 8 [] [] 0 Vm.Ks.nil [Vm.V.nilfn] false Vm.Ks.nil false),
 (55, Vm.TI.mk Vm.TK.func false 1 8 [] [] 0 Vm.Ks.nil [Vm.V.nilfn] false Vm.Ks.nil false),
 (56, Vm.TI.mk Vm.TK.func false 1 8 [] [] 0 Vm.Ks.nil [Vm.V.nilfn] false Vm.Ks.nil false),
 (57, Vm.TI.mk Vm.TK.func false 1 8 [] [] 0 Vm.Ks.nil [Vm.V.nilfn] false Vm.Ks.nil false),
 (58, Vm.TI.mk Vm.TK.func false 1 8 [] [] 0 Vm.Ks.nil [Vm.V.nilfn] false Vm.Ks.nil false),
 (59, Vm.TI.mk Vm.TK.func false 1 8 [] [] 0 Vm.Ks.nil [Vm.V.nilfn] false Vm.Ks.nil false),
 (60, Vm.TI.mk Vm.TK.func false 1 8 [] [] 0 Vm.Ks.nil [Vm.V.nilfn] false Vm.Ks.nil false),
 (61, Vm.TI.mk Vm.TK.func false 1 8 [] [] 0 Vm.Ks.nil [Vm.V.nilfn] false Vm.Ks.nil false),
 (62, Vm.TI.mk Vm.TK.func false 1 8 [] [] 0 Vm.Ks.nil [Vm.V.nilfn] false Vm.Ks.nil false),
 (63, Vm.TI.mk Vm.TK.func false 1 8 [] [] 0 Vm.Ks.nil [Vm.V.nilfn] false Vm.Ks.nil false),
 (64, Vm.TI.mk Vm.TK.func false 1 8 [] [] 0 Vm.Ks.nil [Vm.V.nilfn] false Vm.Ks.nil false),
 (65, Vm.TI.mk Vm.TK.func false 1 8 [] [] 0 Vm.Ks.nil [Vm.V.nilfn] false Vm.Ks.nil false),
 (66, Vm.TI.mk Vm.TK.func false 1 8 [] [] 0 Vm.Ks.nil [Vm.V.nilfn] false Vm.Ks.nil false),
 (67, Vm.TI.mk Vm.TK.func false 1 8 [] [] 0 Vm.Ks.nil [Vm.V.nilfn] false Vm.Ks.nil false),
 (68, Vm.TI.mk Vm.TK.func false 1 8 [] [] 0 Vm.Ks.nil [Vm.V.nilfn] false Vm.Ks.nil false),
 (69, Vm.TI.mk Vm.TK.func false 1 8 [] [] 0 Vm.Ks.nil [Vm.V.nilfn] false Vm.Ks.nil false),
 (71, Vm.TI.mk Vm.TK.func false 1 8 [] [] 0 Vm.Ks.nil [Vm.V.nilfn] false Vm.Ks.nil false),
 (72, Vm.TI.mk Vm.TK.func false 1 8 [] [] 0 Vm.Ks.nil [Vm.V.nilfn] false Vm.Ks.nil false),
 (73, Vm.TI.mk Vm.TK.func false 1 8 [] [] 0 Vm.Ks.nil [Vm.V.nilfn] false Vm.Ks.nil false),
 (74, Vm.TI.mk Vm.TK.func false 1 8 [] [] 0 Vm.Ks.nil [Vm.V.nilfn] false Vm.Ks.nil false),
 (75, Vm.TI.mk Vm.TK.func false 1 8 [] [] 0 Vm.Ks.nil [Vm.V.nilfn] false Vm.Ks.nil false),
 (76, Vm.TI.mk Vm.TK.func false 1 8 [] [] 0 Vm.Ks.nil [Vm.V.nilfn] false Vm.Ks.nil false),
 (77, Vm.TI.mk (Vm.TK.int IntKind.u64) false 1 8 [] [] 0 (Vm.Ks.cons (Vm.K.int IntKind.u64) Vm.Ks.nil) [Vm.V.int IntKind.u64 (Int.ofNat 0)] false Vm.Ks.nil false),
 (78, Vm.TI.mk Vm.TK.func false 1 8 [] [] 0 Vm.Ks.nil [Vm.V.nilfn] false Vm.Ks.nil false),
 (79, Vm.TI.mk Vm.TK.func false 1 8 [] [] 0 Vm.Ks.nil [Vm.V.nilfn] false Vm.Ks.nil false),
 (80, Vm.TI.mk Vm.TK.func false 1 8 [] [] 0 Vm.Ks.nil [Vm.V.nilfn] false Vm.Ks.nil false),
 (81, Vm.TI.mk Vm.TK.func false 1 8 [] [] 0 Vm.Ks.nil [Vm.V.nilfn] false Vm.Ks.nil false),
 (82, Vm.TI.mk Vm.TK.func false 1 8 [] [] 0 Vm.Ks.nil [Vm.V.nilfn] false Vm.Ks.nil false),
 (83, Vm.TI.mk Vm.TK.func false 1 8 [] [] 0 Vm.Ks.nil [Vm.V.nilfn] false Vm.Ks.nil false),
 (84, Vm.TI.mk Vm.TK.func false 1 8 [] [] 0 Vm.Ks.nil [Vm.V.nilfn] false Vm.Ks.nil false),
 (85, Vm.TI.mk Vm.TK.func false 1 8 [] [] 0 Vm.Ks.nil [Vm.V.nilfn] false Vm.Ks.nil false),
 (86, Vm.TI.mk Vm.TK.func false 1 8 [] [] 0 Vm.Ks.nil [Vm.V.nilfn] false Vm.Ks.nil false),
 (87, Vm.TI.mk Vm.TK.func false 1 8 [] [] 0 Vm.Ks.nil [Vm.V.nilfn] false Vm.Ks.nil false),
 (88, Vm.TI.mk Vm.TK.func false 1 8 [] [] 0 Vm.Ks.nil [Vm.V.nilfn] false Vm.Ks.nil false),
 (89, Vm.TI.mk Vm.TK.array true 6 48 [] [] 46 (Vm.Ks.cons (Vm.K.int IntKind.i64) (Vm.Ks.cons (Vm.K.int IntKind.i64) (Vm.Ks.cons (Vm.K.int IntKind.i64) (Vm.Ks.cons (Vm.K.int IntKind.i64) (Vm.Ks.cons (Vm.K.int IntKind.i64) (Vm.Ks.cons (Vm.K.int IntKind.i64) Vm.Ks.nil)))))) [Vm.V.int IntKind.i64 (Int.ofNat 0), Vm.V.int IntKind.i64 (Int.ofNat 0), Vm.V.int IntKind.i64 (Int.ofNat 0), Vm.V.int IntKind.i64 (Int.ofNat 0), Vm.V.int IntKind.i64 (Int.ofNat 0), Vm.V.int IntKind.i64 (Int.ofNat 0)] false Vm.Ks.nil false),
 (90, Vm.TI.mk Vm.TK.func false 1 8 [] [] 0 Vm.Ks.nil [Vm.V.nilfn] false Vm.Ks.nil false),
 (91, Vm.TI.mk Vm.TK.func false 1 8 [] [] 0 Vm.Ks.nil [Vm.V.nilfn] false Vm.Ks.nil false),
 (92, Vm.TI.mk Vm.TK.func false 1 8 [] [] 0 Vm.Ks.nil [Vm.V.nilfn] false Vm.Ks.nil false),
 (93, Vm.TI.mk (Vm.TK.int IntKind.i64) false 1 8 [] [] 0 (Vm.Ks.cons (Vm.K.int IntKind.i64) Vm.Ks.nil) [Vm.V.int IntKind.i64 (Int.ofNat 0)] false Vm.Ks.nil false),
 (95, Vm.TI.mk Vm.TK.func false 1 8 [] [] 0 Vm.Ks.nil [Vm.V.nilfn] false Vm.Ks.nil false),
 (96, Vm.TI.mk Vm.TK.func false 1 8 [] [] 0 Vm.Ks.nil [Vm.V.nilfn] false Vm.Ks.nil false),
 (97, Vm.TI.mk Vm.TK.func false 1 8 [] [] 0 Vm.Ks.nil [Vm.V.nilfn] false Vm.Ks.nil false),
 (99, Vm.TI.mk Vm.TK.func false 1 8 [] [] 0 Vm.Ks.nil [Vm.V.nilfn] false Vm.Ks.nil false),
 (100, Vm.TI.mk Vm.TK.func false 1 8 [] [] 0 Vm.Ks.nil [Vm.V.nilfn] false Vm.Ks.nil false),
 (101, Vm.TI.mk (Vm.TK.int IntKind.u32) false 1 4 [] [] 0 (Vm.Ks.cons (Vm.K.int IntKind.u32) Vm.Ks.nil) [Vm.V.int IntKind.u32 (Int.ofNat 0)] false Vm.Ks.nil false),
 (102, Vm.TI.mk Vm.TK.func false 1 8 [] [] 0 Vm.Ks.nil [Vm.V.nilfn] false Vm.Ks.nil false),
 (103, Vm.TI.mk (Vm.TK.int IntKind.u64) false 1 8 [] [] 0 (Vm.Ks.cons (Vm.K.int IntKind.u64) Vm.Ks.nil) [Vm.V.int IntKind.u64 (Int.ofNat 0)] false Vm.Ks.nil false),
 (104, Vm.TI.mk Vm.TK.func false 1 8 [] [] 0 Vm.Ks.nil [Vm.V.nilfn] false Vm.Ks.nil false),
 (105, Vm.TI.mk Vm.TK.func false 1 8 [] [] 0 Vm.Ks.nil [Vm.V.nilfn] false Vm.Ks.nil false),
 (106, Vm.TI.mk Vm.TK.func false 1 8 [] [] 0 Vm.Ks.nil [Vm.V.nilfn] false Vm.Ks.nil false),
 (107, Vm.TI.mk Vm.TK.func false 1 8 [] [] 0 Vm.Ks.nil [Vm.V.nilfn] false Vm.Ks.nil false),
 (108, Vm.TI.mk Vm.TK.func false 1 8 [] [] 0 Vm.Ks.nil [Vm.V.nilfn] false Vm.Ks.nil false),
 (109, Vm.TI.mk Vm.TK.array true 7 56 [] [] 3 (Vm.Ks.cons (Vm.K.int IntKind.i64) (Vm.Ks.cons (Vm.K.int IntKind.i64) (Vm.Ks.cons (Vm.K.int IntKind.i64) (Vm.Ks.cons (Vm.K.int IntKind.i64) (Vm.Ks.cons (Vm.K.int IntKind.i64) (Vm.Ks.cons (Vm.K.int IntKind.i64) (Vm.Ks.cons (Vm.K.int IntKind.i64) Vm.Ks.nil))))))) [Vm.V.int IntKind.i64 (Int.ofNat 0), Vm.V.int IntKind.i64 (Int.ofNat 0), Vm.V.int IntKind.i64 (Int.ofNat 0), Vm.V.int IntKind.i64 (Int.ofNat 0), Vm.V.int IntKind.i64 (Int.ofNat 0), Vm.V.int IntKind.i64 (Int.ofNat 0), Vm.V.int IntKind.i64 (Int.ofNat 0)] false Vm.Ks.nil false),
 (110, Vm.TI.mk Vm.TK.func false 1 8 [] [] 0 Vm.Ks.nil [Vm.V.nilfn] false Vm.Ks.nil false),
 (111, Vm.TI.mk Vm.TK.func false 1 8 [] [] 0 Vm.Ks.nil [Vm.V.nilfn] false Vm.Ks.nil false),
 (113, Vm.TI.mk Vm.TK.func false 1 8 [] [] 0 Vm.Ks.nil [Vm.V.nilfn] false Vm.Ks.nil false),
 (114, Vm.TI.mk Vm.TK.func false 1 8 [] [] 0 Vm.Ks.nil [Vm.V.nilfn] false Vm.Ks.nil false),
 (115, Vm.TI.mk Vm.TK.array true 256 256 [] [] 5 Vm.Ks.nil (List.replicate 256 (Vm.V.int IntKind.u8 (Int.ofNat 0))) false Vm.Ks.nil false),
 (116, Vm.TI.mk Vm.TK.struct true 2 2 [0, 1] [5, 5] 0 (Vm.Ks.cons (Vm.K.int IntKind.u8) (Vm.Ks.cons (Vm.K.int IntKind.u8) Vm.Ks.nil)) [Vm.V.int IntKind.u8 (Int.ofNat 0), Vm.V.int IntKind.u8 (Int.ofNat 0)] true Vm.Ks.nil false),
 (117, Vm.TI.mk Vm.TK.struct true 2 2 [0, 1] [5, 5] 0 (Vm.Ks.cons (Vm.K.int IntKind.u8) (Vm.Ks.cons (Vm.K.int IntKind.u8) Vm.Ks.nil)) [Vm.V.int IntKind.u8 (Int.ofNat 0), Vm.V.int IntKind.u8 (Int.ofNat 0)] true Vm.Ks.nil false),
 (118, Vm.TI.mk Vm.TK.array true 32 32 [] [] 117 (Vm.Ks.cons (Vm.K.int IntKind.u8) (Vm.Ks.cons (Vm.K.int IntKind.u8) (Vm.Ks.cons (Vm.K.int IntKind.u8) (Vm.Ks.cons (Vm.K.int IntKind.u8) (Vm.Ks.cons (Vm.K.int IntKind.u8) (Vm.Ks.cons (Vm.K.int IntKind.u8) (Vm.Ks.cons (Vm.K.int IntKind.u8) (Vm.Ks.cons (Vm.K.int IntKind.u8) (Vm.Ks.cons (Vm.K.int IntKind.u8) (Vm.Ks.cons (Vm.K.int IntKind.u8) (Vm.Ks.cons (Vm.K.int IntKind.u8) (Vm.Ks.cons (Vm.K.int IntKind.u8) (Vm.Ks.cons (Vm.K.int IntKind.u8) (Vm.Ks.cons (Vm.K.int IntKind.u8) (Vm.Ks.cons (Vm.K.int IntKind.u8) (Vm.Ks.cons (Vm.K.int IntKind.u8) (Vm.Ks.cons (Vm.K.int IntKind.u8) (Vm.Ks.cons (Vm.K.int IntKind.u8) (Vm.Ks.cons (Vm.K.int IntKind.u8) (Vm.Ks.cons (Vm.K.int IntKind.u8) (Vm.Ks.cons (Vm.K.int IntKind.u8) (Vm.Ks.cons (Vm.K.int IntKind.u8) (Vm.Ks.cons (Vm.K.int IntKind.u8) (Vm.Ks.cons (Vm.K.int IntKind.u8) (Vm.Ks.cons (Vm.K.int IntKind.u8) (Vm.Ks.cons (Vm.K.int IntKind.u8) (Vm.Ks.cons (Vm.K.int IntKind.u8) (Vm.Ks.cons (Vm.K.int IntKind.u8) (Vm.Ks.cons (Vm.K.int IntKind.u8) (Vm.Ks.cons (Vm.K.int IntKind.u8) (Vm.Ks.cons (Vm.K.int IntKind.u8) (Vm.Ks.cons (Vm.K.int IntKind.u8) Vm.Ks.nil)))))))))))))))))))))))))))))))) [Vm.V.int IntKind.u8 (Int.ofNat 0), Vm.V.int IntKind.u8 (Int.ofNat 0), Vm.V.int IntKind.u8 (Int.ofNat 0), Vm.V.int IntKind.u8 (Int.ofNat 0), Vm.V.int IntKind.u8 (Int.ofNat 0), Vm.V.int IntKind.u8 (Int.ofNat 0), Vm.V.int IntKind.u8 (Int.ofNat 0), Vm.V.int IntKind.u8 (Int.ofNat 0), Vm.V.int IntKind.u8 (Int.ofNat 0), Vm.V.int IntKind.u8 (Int.ofNat 0), Vm.V.int IntKind.u8 (Int.ofNat 0), Vm.V.int IntKind.u8 (Int.ofNat 0), Vm.V.int IntKind.u8 (Int.ofNat 0), Vm.V.int IntKind.u8 (Int.ofNat 0), Vm.V.int IntKind.u8 (Int.ofNat 0), Vm.V.int IntKind.u8 (Int.ofNat 0), Vm.V.int IntKind.u8 (Int.ofNat 0), Vm.V.int IntKind.u8 (Int.ofNat 0), Vm.V.int IntKind.u8 (Int.ofNat 0), Vm.V.int IntKind.u8 (Int.ofNat 0), Vm.V.int IntKind.u8 (Int.ofNat 0), Vm.V.int IntKind.u8 (Int.ofNat 0), Vm.V.int IntKind.u8 (Int.ofNat 0), Vm.V.int IntKind.u8 (Int.ofNat 0), Vm.V.int IntKind.u8 (Int.ofNat 0), Vm.V.int IntKind.u8 (Int.ofNat 0), Vm.V.int IntKind.u8 (Int.ofNat 0), Vm.V.int IntKind.u8 (Int.ofNat 0), Vm.V.int IntKind.u8 (Int.ofNat 0), Vm.V.int IntKind.u8 (Int.ofNat 0), Vm.V.int IntKind.u8 (Int.ofNat 0), Vm.V.int IntKind.u8 (Int.ofNat 0)] false Vm.Ks.nil false),
 (119, Vm.TI.mk Vm.TK.func false 1 8 [] [] 0 Vm.Ks.nil [Vm.V.nilfn] false Vm.Ks.nil false),
 (120, Vm.TI.mk Vm.TK.func false 1 8 [] [] 0 Vm.Ks.nil [Vm.V.nilfn] false Vm.Ks.nil false),
 (121, Vm.TI.mk Vm.TK.func false 1 8 [] [] 0 Vm.Ks.nil [Vm.V.nilfn] false Vm.Ks.nil false),
 (122, Vm.TI.mk (Vm.TK.int IntKind.u64) false 1 8 [] [] 0 (Vm.Ks.cons (Vm.K.int IntKind.u64) Vm.Ks.nil) [Vm.V.int IntKind.u64 (Int.ofNat 0)] false Vm.Ks.nil false),
 (123, Vm.TI.mk Vm.TK.func false 1 8 [] [] 0 Vm.Ks.nil [Vm.V.nilfn] false Vm.Ks.nil false),
 (124, Vm.TI.mk Vm.TK.func false 1 8 [] [] 0 Vm.Ks.nil [Vm.V.nilfn] false Vm.Ks.nil false),
 (125, Vm.TI.mk Vm.TK.func false 1 8 [] [] 0 Vm.Ks.nil [Vm.V.nilfn] false Vm.Ks.nil false),
 (126, Vm.TI.mk Vm.TK.ptr false 1 8 [] [] 0 Vm.Ks.nil [Vm.V.nilp] false Vm.Ks.nil false),
 (127, Vm.TI.mk Vm.TK.func false 1 8 [] [] 0 Vm.Ks.nil [Vm.V.nilfn] false Vm.Ks.nil false),
 (128, Vm.TI.mk Vm.TK.func false 1 8 [] [] 0 Vm.Ks.nil [Vm.V.nilfn] false Vm.Ks.nil false),
 (129, Vm.TI.mk Vm.TK.func false 1 8 [] [] 0 Vm.Ks.nil [Vm.V.nilfn] false Vm.Ks.nil false),
 (131, Vm.TI.mk Vm.TK.func false 1 8 [] [] 0 Vm.Ks.nil [Vm.V.nilfn] false Vm.Ks.nil false),
 (132, Vm.TI.mk Vm.TK.func false 1 8 [] [] 0 Vm.Ks.nil [Vm.V.nilfn] false Vm.Ks.nil false),
 (133, Vm.TI.mk Vm.TK.ptr false 1 8 [] [] 0 Vm.Ks.nil [Vm.V.nilp] false Vm.Ks.nil false),
 (135, Vm.TI.mk Vm.TK.func false 1 8 [] [] 0 Vm.Ks.nil [Vm.V.nilfn] false Vm.Ks.nil false),
 (136, Vm.TI.mk Vm.TK.func false 1 8 [] [] 0 Vm.Ks.nil [Vm.V.nilfn] false Vm.Ks.nil false),
 (137, Vm.TI.mk Vm.TK.func false 1 8 [] [] 0 Vm.Ks.nil [Vm.V.nilfn] false Vm.Ks.nil false),
 (138, Vm.TI.mk Vm.TK.struct true 4 40 [0, 1, 2, 3] [17, 17, 17, 9] 0 Vm.Ks.nil [Vm.V.nilp, Vm.V.nilp, Vm.V.nilp, Vm.V.str []] false Vm.Ks.nil false),
 (139, Vm.TI.mk Vm.TK.struct true 4 40 [0, 1, 2, 3] [17, 17, 17, 9] 0 Vm.Ks.nil [Vm.V.nilp, Vm.V.nilp, Vm.V.nilp, Vm.V.str []] false Vm.Ks.nil false),
 (140, Vm.TI.mk Vm.TK.array true 0 0 [] [] 16 Vm.Ks.nil [] false Vm.Ks.nil false),
 (141, Vm.TI.mk Vm.TK.struct true 0 0 [0] [140] 0 Vm.Ks.nil [] false Vm.Ks.nil false),
 (142, Vm.TI.mk Vm.TK.struct true 0 0 [0] [140] 0 Vm.Ks.nil [] false Vm.Ks.nil false),
 (143, Vm.TI.mk Vm.TK.func false 1 8 [] [] 0 Vm.Ks.nil [Vm.V.nilfn] false Vm.Ks.nil false),
 (144, Vm.TI.mk (Vm.TK.int IntKind.u8) false 1 1 [] [] 0 (Vm.Ks.cons (Vm.K.int IntKind.u8) Vm.Ks.nil) [Vm.V.int IntKind.u8 (Int.ofNat 0)] false Vm.Ks.nil false),
 (145, Vm.TI.mk (Vm.TK.int IntKind.u8) false 1 1 [] [] 0 (Vm.Ks.cons (Vm.K.int IntKind.u8) Vm.Ks.nil) [Vm.V.int IntKind.u8 (Int.ofNat 0)] false Vm.Ks.nil false),
 (146, Vm.TI.mk Vm.TK.func false 1 8 [] [] 0 Vm.Ks.nil [Vm.V.nilfn] false Vm.Ks.nil false),
 (147, Vm.TI.mk Vm.TK.ptr false 1 8 [] [] 0 Vm.Ks.nil [Vm.V.nilp] false Vm.Ks.nil false),
 (148, Vm.TI.mk (Vm.TK.int IntKind.i32) false 1 4 [] [] 0 (Vm.Ks.cons (Vm.K.int IntKind.i32) Vm.Ks.nil) [Vm.V.int IntKind.i32 (Int.ofNat 0)] false Vm.Ks.nil false),
 (149, Vm.TI.mk (Vm.TK.int IntKind.i32) false 1 4 [] [] 0 (Vm.Ks.cons (Vm.K.int IntKind.i32) Vm.Ks.nil) [Vm.V.int IntKind.i32 (Int.ofNat 0)] false Vm.Ks.nil false),
 (150, Vm.TI.mk Vm.TK.struct true 11 48 [0, 1, 2, 3, 4, 5, 6, 7, 8, 9, 10] [12, 12, 101, 144, 5, 5, 145, 146, 147, 148, 149] 0 Vm.Ks.nil [Vm.V.int IntKind.u64 (Int.ofNat 0), Vm.V.int IntKind.u64 (Int.ofNat 0), Vm.V.int IntKind.u32 (Int.ofNat 0), Vm.V.int IntKind.u8 (Int.ofNat 0), Vm.V.int IntKind.u8 (Int.ofNat 0), Vm.V.int IntKind.u8 (Int.ofNat 0), Vm.V.int IntKind.u8 (Int.ofNat 0), Vm.V.nilfn, Vm.V.nilp, Vm.V.int IntKind.i32 (Int.ofNat 0), Vm.V.int IntKind.i32 (Int.ofNat 0)] false Vm.Ks.nil false),
 (151, Vm.TI.mk Vm.TK.struct true 11 48 [0, 1, 2, 3, 4, 5, 6, 7, 8, 9, 10] [12, 12, 101, 144, 5, 5, 145, 146, 147, 148, 149] 0 Vm.Ks.nil [Vm.V.int IntKind.u64 (Int.ofNat 0), Vm.V.int IntKind.u64 (Int.ofNat 0), Vm.V.int IntKind.u32 (Int.ofNat 0), Vm.V.int IntKind.u8 (Int.ofNat 0), Vm.V.int IntKind.u8 (Int.ofNat 0), Vm.V.int IntKind.u8 (Int.ofNat 0), Vm.V.int IntKind.u8 (Int.ofNat 0), Vm.V.nilfn, Vm.V.nilp, Vm.V.int IntKind.i32 (Int.ofNat 0), Vm.V.int IntKind.i32 (Int.ofNat 0)] false Vm.Ks.nil false)]
end Vm.S6b
open Go Go.Proofs
namespace Vm.S6b
noncomputable def fb (fn : Func) : Func × Code := (fn, fn.body.getD .skip)
noncomputable def fns : Fns := [(2, fb Tryd.f2), (3, fb Tryd.f3), (4, fb Tryd.f4), (5, fb Tryd.f5), (6, fb Tryd.f6), (7, fb Tryd.f7), (8, fb Tryd.f8), (9, fb Tryd.f9), (10, fb Tryd.f10), (11, fb Tryd.f11), (12, fb Tryd.f12), (13, fb Tryd.f13), (14, fb Tryd.f14), (15, fb Tryd.f15), (16, fb Tryd.f16), (17, fb Tryd.f17), (18, fb Tryd.f18), (19, fb Tryd.f19), (20, fb Tryd.f20), (21, fb Tryd.f21), (22, fb Tryd.f22), (23, fb Tryd.f23), (24, fb Tryd.f24), (25, fb Tryd.f25), (26, fb Tryd.f26), (27, fb Tryd.f27), (28, fb Tryd.f28), (29, fb Tryd.f29), (30, fb Tryd.f30), (31, fb Tryd.f31), (32, fb Tryd.f32), (33, fb Tryd.f33), (34, fb Tryd.f34), (35, fb Tryd.f35), (36, fb Tryd.f36), (37, fb Tryd.f37), (38, fb Tryd.f38), (39, fb Tryd.f39), (40, fb Tryd.f40), (41, fb Tryd.f41), (42, fb Tryd.f42), (43, fb Tryd.f43), (44, fb Tryd.f44), (45, fb Tryd.f45), (46, fb Tryd.f46), (47, fb Tryd.f47), (48, fb Tryd.f48), (49, fb Tryd.f49), (50, fb Tryd.f50), (51, fb Tryd.f51), (52, fb Tryd.f52), (53, fb Tryd.f53), (54, fb Tryd.f54), (55, fb Tryd.f55), (56, fb Tryd.f56), (57, fb Tryd.f57), (58, fb Tryd.f58), (59, fb Tryd.f59), (60, fb Tryd.f60), (61, fb Tryd.f61), (62, fb Tryd.f62), (63, fb Tryd.f63), (64, fb Tryd.f64), (65, fb Tryd.f65), (66, fb Tryd.f66), (67, fb Tryd.f67), (68, fb Tryd.f68), (69, fb Tryd.f69), (70, fb Tryd.f70), (71, fb Tryd.f71), (72, fb Tryd.f72), (73, fb Tryd.f73), (74, fb Tryd.f74), (75, fb Tryd.f75), (76, fb Tryd.f76), (77, fb Tryd.f77), (78, fb Tryd.f78), (79, fb Tryd.f79), (80, fb Tryd.f80), (81, fb Tryd.f81), (82, fb Tryd.f82), (83, fb Tryd.f83), (84, fb Tryd.f84), (85, fb Tryd.f85), (86, fb Tryd.f86), (87, fb Tryd.f87), (88, fb Tryd.f88), (89, fb Tryd.f89), (90, fb Tryd.f90), (91, fb Tryd.f91), (92, fb Tryd.f92), (93, fb Tryd.f93), (94, fb Tryd.f94), (95, fb Tryd.f95), (96, fb Tryd.f96), (97, fb Tryd.f97), (98, fb Tryd.f98), (99, fb Tryd.f99), (100, fb Tryd.f100), (101, fb Tryd.f101), (102, fb Tryd.f102), (103, fb Tryd.f103), (104, fb Tryd.f104), (105, fb Tryd.f105), (106, fb Tryd.f106), (129, fb Tryd.f129)]
noncomputable def rfs : List (Nat × RF) := []
noncomputable def gls : Gl := ⟨look [(0, ⟨.cons (.int .i64) (.cons (.int .i64) .nil), glDotted⟩), (1, ⟨.cons (.int .i64) .nil, glHalf⟩), (2, ⟨.cons (.int .u8) .nil, utf8First⟩), (3, ⟨.cons (.int .u8) (.cons (.int .u8) .nil), utf8Accept⟩)], look rfs⟩
def mvs (f : Nat) : Bool := [22, 23, 24, 46, 48, 67, 68, 69, 70, 71, 72, 74, 75, 78, 79, 80, 81, 82, 83, 84, 85, 94, 97, 98, 99, 100, 101, 105, 106].contains f
noncomputable def E (n : Nat) : Env := interp fns (look tys) gls mvs (tabOf (P := Tryd.prog) (gl := gls) []) 100000 n
theorem tysOk : tys.all (tyB Tryd.prog) = true := by kernel_rfl
theorem rfsOk : RfsOk gls := rfsOk_of (by kernel_rfl)
theorem fnsAll : FnsAll Tryd.prog fns := ⟨⟨Tryd.func2, by kernel_rfl, by kernel_rfl, by decide⟩, ⟨Tryd.func3, by kernel_rfl, by kernel_rfl, by decide⟩, ⟨Tryd.func4, by kernel_rfl, by kernel_rfl, by decide⟩, ⟨Tryd.func5, by kernel_rfl, by kernel_rfl, by decide⟩, ⟨Tryd.func6, by kernel_rfl, by kernel_rfl, by decide⟩, ⟨Tryd.func7, by kernel_rfl, by kernel_rfl, by decide⟩, ⟨Tryd.func8, by kernel_rfl, by kernel_rfl, by decide⟩, ⟨Tryd.func9, by kernel_rfl, by kernel_rfl, by decide⟩, ⟨Tryd.func10, by kernel_rfl, by kernel_rfl, by decide⟩, ⟨Tryd.func11, by kernel_rfl, by kernel_rfl, by decide⟩, ⟨Tryd.func12, by kernel_rfl, by kernel_rfl, by decide⟩, ⟨Tryd.func13, by kernel_rfl, by kernel_rfl, by decide⟩, ⟨Tryd.func14, by kernel_rfl, by kernel_rfl, by decide⟩, ⟨Tryd.func15, by kernel_rfl, by kernel_rfl, by decide⟩, ⟨Tryd.func16, by kernel_rfl, by kernel_rfl, by decide⟩, ⟨Tryd.func17, by kernel_rfl, by kernel_rfl, by decide⟩, ⟨Tryd.func18, by kernel_rfl, by kernel_rfl, by decide⟩, ⟨Tryd.func19, by kernel_rfl, by kernel_rfl, by decide⟩, ⟨Tryd.func20, by kernel_rfl, by kernel_rfl, by decide⟩, ⟨Tryd.func21, by kernel_rfl, by kernel_rfl, by decide⟩, ⟨Tryd.func22, by kernel_rfl, by kernel_rfl, by decide⟩, ⟨Tryd.func23, by kernel_rfl, by kernel_rfl, by decide⟩, ⟨Tryd.func24, by kernel_rfl, by kernel_rfl, by decide⟩, ⟨Tryd.func25, by kernel_rfl, by kernel_rfl, by decide⟩, ⟨Tryd.func26, by kernel_rfl, by kernel_rfl, by decide⟩, ⟨Tryd.func27, by kernel_rfl, by kernel_rfl, by decide⟩, ⟨Tryd.func28, by kernel_rfl, by kernel_rfl, by decide⟩, ⟨Tryd.func29, by kernel_rfl, by kernel_rfl, by decide⟩, ⟨Tryd.func30, by kernel_rfl, by kernel_rfl, by decide⟩, ⟨Tryd.func31, by kernel_rfl, by kernel_rfl, by decide⟩, ⟨Tryd.func32, by kernel_rfl, by kernel_rfl, by decide⟩, ⟨Tryd.func33, by kernel_rfl, by kernel_rfl, by decide⟩, ⟨Tryd.func34, by kernel_rfl, by kernel_rfl, by decide⟩, ⟨Tryd.func35, by kernel_rfl, by kernel_rfl, by decide⟩, ⟨Tryd.func36, by kernel_rfl, by kernel_rfl, by decide⟩, ⟨Tryd.func37, by kernel_rfl, by kernel_rfl, by decide⟩, ⟨Tryd.func38, by kernel_rfl, by kernel_rfl, by decide⟩, ⟨Tryd.func39, by kernel_rfl, by kernel_rfl, by decide⟩, ⟨Tryd.func40, by kernel_rfl, by kernel_rfl, by decide⟩, ⟨Tryd.func41, by kernel_rfl, by kernel_rfl, by decide⟩, ⟨Tryd.func42, by kernel_rfl, by kernel_rfl, by decide⟩, ⟨Tryd.func43, by kernel_rfl, by kernel_rfl, by decide⟩, ⟨Tryd.func44, by kernel_rfl, by kernel_rfl, by decide⟩, ⟨Tryd.func45, by kernel_rfl, by kernel_rfl, by decide⟩, ⟨Tryd.func46, by kernel_rfl, by kernel_rfl, by decide⟩, ⟨Tryd.func47, by kernel_rfl, by kernel_rfl, by decide⟩, ⟨Tryd.func48, by kernel_rfl, by kernel_rfl, by decide⟩, ⟨Tryd.func49, by kernel_rfl, by kernel_rfl, by decide⟩, ⟨Tryd.func50, by kernel_rfl, by kernel_rfl, by decide⟩, ⟨Tryd.func51, by kernel_rfl, by kernel_rfl, by decide⟩, ⟨Tryd.func52, by kernel_rfl, by kernel_rfl, by decide⟩, ⟨Tryd.func53, by kernel_rfl, by kernel_rfl, by decide⟩, ⟨Tryd.func54, by kernel_rfl, by kernel_rfl, by decide⟩, ⟨Tryd.func55, by kernel_rfl, by kernel_rfl, by decide⟩, ⟨Tryd.func56, by kernel_rfl, by kernel_rfl, by decide⟩, ⟨Tryd.func57, by kernel_rfl, by kernel_rfl, by decide⟩, ⟨Tryd.func58, by kernel_rfl, by kernel_rfl, by decide⟩, ⟨Tryd.func59, by kernel_rfl, by kernel_rfl, by decide⟩, ⟨Tryd.func60, by kernel_rfl, by kernel_rfl, by decide⟩, ⟨Tryd.func61, by kernel_rfl, by kernel_rfl, by decide⟩, ⟨Tryd.func62, by kernel_rfl, by kernel_rfl, by decide⟩, ⟨Tryd.func63, by kernel_rfl, by kernel_rfl, by decide⟩, ⟨Tryd.func64, by kernel_rfl, by kernel_rfl, by decide⟩, ⟨Tryd.func65, by kernel_rfl, by kernel_rfl, by decide⟩, ⟨Tryd.func66, by kernel_rfl, by kernel_rfl, by decide⟩, ⟨Tryd.func67, by kernel_rfl, by kernel_rfl, by decide⟩, ⟨Tryd.func68, by kernel_rfl, by kernel_rfl, by decide⟩, ⟨Tryd.func69, by kernel_rfl, by kernel_rfl, by decide⟩, ⟨Tryd.func70, by kernel_rfl, by kernel_rfl, by decide⟩, ⟨Tryd.func71, by kernel_rfl, by kernel_rfl, by decide⟩, ⟨Tryd.func72, by kernel_rfl, by kernel_rfl, by decide⟩, ⟨Tryd.func73, by kernel_rfl, by kernel_rfl, by decide⟩, ⟨Tryd.func74, by kernel_rfl, by kernel_rfl, by decide⟩, ⟨Tryd.func75, by kernel_rfl, by kernel_rfl, by decide⟩, ⟨Tryd.func76, by kernel_rfl, by kernel_rfl, by decide⟩, ⟨Tryd.func77, by kernel_rfl, by kernel_rfl, by decide⟩, ⟨Tryd.func78, by kernel_rfl, by kernel_rfl, by decide⟩, ⟨Tryd.func79, by kernel_rfl, by kernel_rfl, by decide⟩, ⟨Tryd.func80, by kernel_rfl, by kernel_rfl, by decide⟩, ⟨Tryd.func81, by kernel_rfl, by kernel_rfl, by decide⟩, ⟨Tryd.func82, by kernel_rfl, by kernel_rfl, by decide⟩, ⟨Tryd.func83, by kernel_rfl, by kernel_rfl, by decide⟩, ⟨Tryd.func84, by kernel_rfl, by kernel_rfl, by decide⟩, ⟨Tryd.func85, by kernel_rfl, by kernel_rfl, by decide⟩, ⟨Tryd.func86, by kernel_rfl, by kernel_rfl, by decide⟩, ⟨Tryd.func87, by kernel_rfl, by kernel_rfl, by decide⟩, ⟨Tryd.func88, by kernel_rfl, by kernel_rfl, by decide⟩, ⟨Tryd.func89, by kernel_rfl, by kernel_rfl, by decide⟩, ⟨Tryd.func90, by kernel_rfl, by kernel_rfl, by decide⟩, ⟨Tryd.func91, by kernel_rfl, by kernel_rfl, by decide⟩, ⟨Tryd.func92, by kernel_rfl, by kernel_rfl, by decide⟩, ⟨Tryd.func93, by kernel_rfl, by kernel_rfl, by decide⟩, ⟨Tryd.func94, by kernel_rfl, by kernel_rfl, by decide⟩, ⟨Tryd.func95, by kernel_rfl, by kernel_rfl, by decide⟩, ⟨Tryd.func96, by kernel_rfl, by kernel_rfl, by decide⟩, ⟨Tryd.func97, by kernel_rfl, by kernel_rfl, by decide⟩, ⟨Tryd.func98, by kernel_rfl, by kernel_rfl, by decide⟩, ⟨Tryd.func99, by kernel_rfl, by kernel_rfl, by decide⟩, ⟨Tryd.func100, by kernel_rfl, by kernel_rfl, by decide⟩, ⟨Tryd.func101, by kernel_rfl, by kernel_rfl, by decide⟩, ⟨Tryd.func102, by kernel_rfl, by kernel_rfl, by decide⟩, ⟨Tryd.func103, by kernel_rfl, by kernel_rfl, by decide⟩, ⟨Tryd.func104, by kernel_rfl, by kernel_rfl, by decide⟩, ⟨Tryd.func105, by kernel_rfl, by kernel_rfl, by decide⟩, ⟨Tryd.func106, by kernel_rfl, by kernel_rfl, by decide⟩, ⟨Tryd.func129, by kernel_rfl, by kernel_rfl, by decide⟩, trivial⟩
theorem mixed : Tryd.prog.follows .mixedOrders = true := by kernel_rfl
theorem glE (n : Nat) : (E n).gl = gls := by cases n <;> rfl
theorem ready (n : Nat) : Ready Tryd.prog (E n) := ready_of mixed fnsAll tysOk rfsOk n
end Vm.S6b
