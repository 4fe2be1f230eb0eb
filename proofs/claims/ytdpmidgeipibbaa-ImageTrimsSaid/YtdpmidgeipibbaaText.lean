/- Each function of the set, as it is loaded, read as a statement on values; and that a call gives what the reading asks. -/
import Derived.Test.YtdpmidgeipibbaaBase
set_option linter.unusedVariables false
namespace Go.Proofs.Ytdpmidgeipibbaa
open Go.Sh Go.RowKit
/-! loam/loamlaw26.CheckRight: function 3 -/
/-! loam/loamlaw26.CheckMore: function 4 -/
/-! loam/loamlaw26.CheckSpaces: function 5 -/
/-! loam/loamlaw23.ImageBack: function 6 -/
/-! loam/loamlaw23.ImageWords: function 7 -/
/-! loam/loamlaw23.ImageUnlike: function 8 -/
/-! loam/loamlaw26.CheckImages: function 9 -/
/-! loam/loamlaw23.ImageTrims: function 10 -/
def loamlaw23_ImageTrims (K : K1) (t0 : Value) (w : World) : Prop :=
 xBox Try.prog 25 t0 w fun t1 w =>
 xCall Try.prog (fnv 22) [] w fun t9 w =>
 xUn Try.prog .not t9 w fun t10 w =>
 xIf t10
 (K (.bool false) w)
 (xLoad Try.prog 25 t1 w fun t11 w =>
 xCall Try.prog (fnv 12) [t11] w fun t12 w =>
 xUn Try.prog .not t12 w fun t13 w =>
 xGuard t13 false (fun w K => xLoad Try.prog 25 t1 w K) w fun t15 w =>
 xGuard t13 false (fun w K => xCall Try.prog (fnv 14) [t15] w K) w fun t16 w =>
 xGuard t13 false (fun w K => xCall Try.prog (fnv 25) [t16] w K) w fun t17 w =>
 xGuard t13 false (fun w K => xBin Try.prog .neq 3 false t17 true (.int .i64 0) w K) w fun t18 w =>
 xPick t13 (.bool true) t18 w fun t19 w =>
 xIf t19
 (K (.bool true) w)
 (xLoad Try.prog 25 t1 w fun t21 w =>
 xCall Try.prog (fnv 33) [t21, (.slice none 0 0)] w fun t22 w =>
 xExtract Try.prog t22 0 w fun t23 w =>
 xExtract Try.prog t22 1 w fun t24 w =>
 xAlloc Try.prog 25 w fun t3 w =>
 xStore Try.prog 25 t3 t23 w fun _ w =>
 xLoad Try.prog 25 t3 w fun t26 w =>
 xCall Try.prog (fnv 23) [t26] w fun t27 w =>
 xExtract Try.prog t27 0 w fun t28 w =>
 xExtract Try.prog t27 1 w fun t29 w =>
 xBin Try.prog .neq 3 false t29 true (.int .i64 0) w fun t31 w =>
 xIf t31
 (xLoad Try.prog 25 t3 w fun t32 w =>
 xCall Try.prog (fnv 26) [t32] w fun t33 w =>
 xBin Try.prog .gtr 3 false t33 true (.int .i64 8192) w fun t34 w =>
 K t34 w)
 (xCall Try.prog (fnv 28) [t28] w fun t37 w =>
 xExtract Try.prog t37 0 w fun t38 w =>
 xExtract Try.prog t37 1 w fun t39 w =>
 xAlloc Try.prog 25 w fun t7 w =>
 xStore Try.prog 25 t7 t38 w fun _ w =>
 xSq w.drew fun w =>
 xPur w (fun w K => K t39 w) fun t40 =>
 xPur w (fun w K => xBin Try.prog .eql 3 false t40 true (.int .i64 0) w K) fun t41 =>
 xPur w (fun w K => K t41 w) fun t42 =>
 xRd w (fun K => xGuard t42 true (fun w K => xLoad Try.prog 25 t3 w K) w K) fun t43 =>
 xRd w (fun K => xGuard t42 true (fun w K => xLoad Try.prog 25 t1 w K) w K) fun t45 =>
 xGuard t42 true (fun w K => xCall Try.prog (fnv 26) [t43] w K) w fun t44 w =>
 xRe w (fun K => xGuard t42 true (fun w K => xLoad Try.prog 25 t1 w K) w K) t45 (
 xGuard t42 true (fun w K => xCall Try.prog (fnv 26) [t45] w K) w fun t46 w =>
 xPur w (fun w K => xGuard t42 true (fun w K => xBin Try.prog .leq 3 false t44 false t46 w K) w K) fun t47 =>
 xPur w (fun w K => xPick t42 t47 (.bool false) w K) fun t48 =>
 xPur w (fun w K => K t48 w) fun t49 =>
 xRd w (fun K => xGuard t49 true (fun w K => xLoad Try.prog 25 t7 w K) w K) fun t50 =>
 xRd w (fun K => xGuard t49 true (fun w K => xLoad Try.prog 25 t1 w K) w K) fun t51 =>
 xGuard t49 true (fun w K => xCall Try.prog (fnv 34) [t50, t51] w K) w fun t52 w =>
 xPur w (fun w K => xPick t49 t52 (.bool false) w K) fun t53 =>
 xPur w (fun w K => K t53 w) fun t2 =>
 K t2 w))))
abbrev n_loamlaw23_ImageTrims : Nat := 10
def loamlaw23_ImageTrims_ann : Ann := { loop := fun i => [], wr := fun i => [], told := fun i => bif Nat.beq i 10 then [(0, false, ⟨0, 1099511628032, some 40⟩), (1, false, ⟨1, 3298534883328, some 41⟩), (2, false, ⟨2, 6597069766656, some 42⟩), (3, false, ⟨4, 13194139533320, some 43⟩), (5, false, ⟨4, 39582418599938, some 45⟩), (4, false, ⟨12, 30786325577728, some 44⟩), (6, false, ⟨52, 109951162777600, some 46⟩), (7, false, ⟨84, 233096465088512, some 47⟩), (8, false, ⟨132, 426610511577088, some 48⟩), (9, false, ⟨320, 844424930131968, some 49⟩), (10, false, ⟨512, 1688849860264064, some 50⟩), (11, false, ⟨512, 2814749767106562, some 51⟩), (12, false, ⟨3584, 8444249301319680, some 52⟩), (13, false, ⟨4608, 14073748835532800, some 53⟩), (14, false, ⟨16383, 9007199254740996, some 2⟩)] else [], sq := fun i => bif Nat.beq i 10 then some (.rd true 0 (.rd true 1 (.rd true 2 (.rd false 3 (.rd false 5 (.ef 4 [5] (.ef 6 [] (.rd true 7 (.rd true 8 (.rd true 9 (.rd false 10 (.rd false 11 (.ef 12 [] (.rd true 13 (.rd true 14 .done))))))))))))))) else none }
theorem loamlaw23_ImageTrims_eq (t0 : Value) (w : World) (K : K1) : reads Try.prog loamlaw23_ImageTrims_ann Try.f10 #[t0] w K = loamlaw23_ImageTrims K t0 w := by kernel_rfl
theorem loamlaw23_ImageTrims_of {t0 : Value} {w : World} {K : K1} (h : loamlaw23_ImageTrims K t0 w) : Yld Try.prog n_loamlaw23_ImageTrims #[t0] w K :=
  yld_of mixed loamlaw23_ImageTrims_ann Try.func10 (by kernel_rfl) (loamlaw23_ImageTrims_eq t0 w K) h

/-! loam/loamlaw26.known: function 11 -/
/-! loam/loamlaw17.Few: function 12 -/
def loamlaw17_Few_l2 (K : K1) (nxt2 : List Value → World → Prop) (t1 t4 : Value) (w : World) : Prop :=
 xFieldAddr Try.prog 25 t1 1 w fun t41_1 w =>
 xLoad Try.prog 23 t41_1 w fun t42_1 w =>
 xBuiltin Try.prog .len #[23] 3 [false] [t42_1] w fun t43_1 w =>
 xBin Try.prog .lss 3 false t4 false t43_1 w fun t44_1 w =>
 xIf t44_1
 (xFieldAddr Try.prog 25 t1 1 w fun t47_1 w =>
 xLoad Try.prog 23 t47_1 w fun t48_1 w =>
 xIndexAddr Try.prog 23 t48_1 t4 w fun t50_1 w =>
 xFieldAddr Try.prog 74 t50_1 0 w fun t51_1 w =>
 xLoad Try.prog 9 t51_1 w fun t52_1 w =>
 xBuiltin Try.prog .len #[9] 3 [false] [t52_1] w fun t53_1 w =>
 xBin Try.prog .gtr 3 false t53_1 true (.int .i64 40) w fun t54_1 w =>
 xIf t54_1
 (K (.bool false) w)
 (xBin Try.prog .add 3 false t4 true (.int .i64 1) w fun t46_1 w =>
 nxt2 [t46_1] w))
 (K (.bool true) w)
def loamlaw17_Few_l1 (K : K1) (nxt0 : List Value → World → Prop) (t1 t3 : Value) (w : World) : Prop :=
 xFieldAddr Try.prog 25 t1 0 w fun t16_1 w =>
 xLoad Try.prog 22 t16_1 w fun t17_1 w =>
 xBuiltin Try.prog .len #[22] 3 [false] [t17_1] w fun t18_1 w =>
 xBin Try.prog .lss 3 false t3 false t18_1 w fun t19_1 w =>
 xIf t19_1
 (xFieldAddr Try.prog 25 t1 0 w fun t22_1 w =>
 xLoad Try.prog 22 t22_1 w fun t23_1 w =>
 xIndexAddr Try.prog 22 t23_1 t3 w fun t25_1 w =>
 xFieldAddr Try.prog 72 t25_1 0 w fun t26_1 w =>
 xLoad Try.prog 66 t26_1 w fun t27_1 w =>
 xBuiltin Try.prog .len #[66] 3 [false] [t27_1] w fun t28_1 w =>
 xBin Try.prog .gtr 3 false t28_1 true (.int .i64 70) w fun t29_1 w =>
 xGuard t29_1 false (fun w K => xFieldAddr Try.prog 25 t1 0 w K) w fun t31_1 w =>
 xGuard t29_1 false (fun w K => xLoad Try.prog 22 t31_1 w K) w fun t32_1 w =>
 xGuard t29_1 false (fun w K => K t3 w) w fun t33_1 w =>
 xGuard t29_1 false (fun w K => xIndexAddr Try.prog 22 t32_1 t33_1 w K) w fun t34_1 w =>
 xGuard t29_1 false (fun w K => xFieldAddr Try.prog 72 t34_1 1 w K) w fun t35_1 w =>
 xGuard t29_1 false (fun w K => xLoad Try.prog 70 t35_1 w K) w fun t36_1 w =>
 xGuard t29_1 false (fun w K => xBuiltin Try.prog .len #[70] 3 [false] [t36_1] w K) w fun t37_1 w =>
 xGuard t29_1 false (fun w K => xBin Try.prog .gtr 3 false t37_1 true (.int .i64 1100) w K) w fun t38_1 w =>
 xPick t29_1 (.bool true) t38_1 w fun t39_1 w =>
 xIf t39_1
 (K (.bool false) w)
 (xBin Try.prog .add 3 false t3 true (.int .i64 1) w fun t21_1 w =>
 nxt0 [t21_1] w))
 (xLoop [(.int .i64 0)] w [4] fun u w nxt2 =>
 loamlaw17_Few_l2 K nxt2 t1 (u 4) w)
def loamlaw17_Few (K : K1) (t0 : Value) (w : World) : Prop :=
 xBox Try.prog 25 t0 w fun t1 w =>
 xFieldAddr Try.prog 25 t1 0 w fun t5 w =>
 xLoad Try.prog 22 t5 w fun t6 w =>
 xBuiltin Try.prog .len #[22] 3 [false] [t6] w fun t7 w =>
 xBin Try.prog .gtr 3 false t7 true (.int .i64 60) w fun t8 w =>
 xGuard t8 false (fun w K => xFieldAddr Try.prog 25 t1 1 w K) w fun t10 w =>
 xGuard t8 false (fun w K => xLoad Try.prog 23 t10 w K) w fun t11 w =>
 xGuard t8 false (fun w K => xBuiltin Try.prog .len #[23] 3 [false] [t11] w K) w fun t12 w =>
 xGuard t8 false (fun w K => xBin Try.prog .gtr 3 false t12 true (.int .i64 80) w K) w fun t13 w =>
 xPick t8 (.bool true) t13 w fun t14 w =>
 xIf t14
 (K (.bool false) w)
 (xLoop [(.int .i64 0)] w [3] fun u w nxt0 =>
 loamlaw17_Few_l1 K nxt0 t1 (u 3) w)
abbrev n_loamlaw17_Few : Nat := 12
def loamlaw17_Few_ann : Ann := { loop := fun i => bif Nat.beq i 2 then [4] else bif Nat.beq i 0 then [3] else [], wr := fun i => bif Nat.beq i 2 then [2, 4, 40, 41, 42, 43, 44, 45, 46, 47, 48, 49, 50, 51, 52, 53, 54] else bif Nat.beq i 0 then [2, 3, 15, 16, 17, 18, 19, 20, 21, 22, 23, 24, 25, 26, 27, 28, 29, 30, 31, 32, 33, 34, 35, 36, 37, 38, 39] else [], told := fun i => [] }
theorem loamlaw17_Few_eq (t0 : Value) (w : World) (K : K1) : reads Try.prog loamlaw17_Few_ann Try.f12 #[t0] w K = loamlaw17_Few K t0 w := by kernel_rfl
theorem loamlaw17_Few_of {t0 : Value} {w : World} {K : K1} (h : loamlaw17_Few K t0 w) : Yld Try.prog n_loamlaw17_Few #[t0] w K :=
  yld_of mixed loamlaw17_Few_ann Try.func12 (by kernel_rfl) (loamlaw17_Few_eq t0 w K) h

/-! loam/loamref17.Encode: function 13 -/
/-! loam/loamlaw17.Of: function 14 -/
def loamlaw17_Of_l2 (K : K1) (nxt2 : List Value → World → Prop) (t1 t2 t3 t5 : Value) (w : World) : Prop :=
 xFieldAddr Try.prog 25 t1 1 w fun t33_1 w =>
 xLoad Try.prog 23 t33_1 w fun t34_1 w =>
 xBuiltin Try.prog .len #[23] 3 [false] [t34_1] w fun t35_1 w =>
 xBin Try.prog .lss 3 false t5 false t35_1 w fun t36_1 w =>
 xIf t36_1
 (xSq w.drew fun w =>
 xPur w (fun w K => xFieldAddr Try.prog 34 t3 1 w K) fun t39_1 =>
 xRd w (fun K => xLoad Try.prog 32 t39_1 w K) fun t40_1 =>
 xPur w (fun w K => xFieldAddr Try.prog 25 t1 1 w K) fun t41_1 =>
 xRd w (fun K => xLoad Try.prog 23 t41_1 w K) fun t42_1 =>
 xPur w (fun w K => K t5 w) fun t43_1 =>
 xPur w (fun w K => xIndexAddr Try.prog 23 t42_1 t43_1 w K) fun t44_1 =>
 xPur w (fun w K => xFieldAddr Try.prog 74 t44_1 0 w K) fun t45_1 =>
 xRd w (fun K => xLoad Try.prog 9 t45_1 w K) fun t46_1 =>
 xPur w (fun w K => xFieldAddr Try.prog 25 t1 1 w K) fun t47_1 =>
 xRd w (fun K => xLoad Try.prog 23 t47_1 w K) fun t48_1 =>
 xPur w (fun w K => K t5 w) fun t49_1 =>
 xPur w (fun w K => xIndexAddr Try.prog 23 t48_1 t49_1 w K) fun t50_1 =>
 xPur w (fun w K => xFieldAddr Try.prog 74 t50_1 1 w K) fun t51_1 =>
 xRd w (fun K => xLoad Try.prog 3 t51_1 w K) fun t52_1 =>
 xPur w (fun w K => xBuild Try.prog 78 [(0, t46_1), (1, t52_1)] w K) fun t53_1 =>
 xBuildSlice Try.prog 32 1 [(0, t53_1)] w fun t54_1 w =>
 xRe w (fun K => xLoad Try.prog 32 t39_1 w K) t40_1 (
 xBuiltin Try.prog .append #[32, 32] 32 [false, false] [t40_1, t54_1] w fun t55_1 w =>
 xPur w (fun w K => xFieldAddr Try.prog 34 t3 1 w K) fun t56_1 =>
 xStore Try.prog 32 t56_1 t55_1 w fun _x18 w =>
 xBin Try.prog .add 3 false t5 true (.int .i64 1) w fun t38_1 w =>
 nxt2 [t38_1] w))
 (xLoad Try.prog 34 t3 w fun t57 w =>
 xStore Try.prog 34 t2 t57 w fun _ w =>
 xLoadR Try.prog 34 t2 w fun r0 =>
 K r0 w)
def loamlaw17_Of_l1 (K : K1) (nxt0 : List Value → World → Prop) (t1 t2 t3 t4 : Value) (w : World) : Prop :=
 xFieldAddr Try.prog 25 t1 0 w fun t8_1 w =>
 xLoad Try.prog 22 t8_1 w fun t9_1 w =>
 xBuiltin Try.prog .len #[22] 3 [false] [t9_1] w fun t10_1 w =>
 xBin Try.prog .lss 3 false t4 false t10_1 w fun t11_1 w =>
 xIf t11_1
 (xSq w.drew fun w =>
 xPur w (fun w K => xFieldAddr Try.prog 34 t3 0 w K) fun t14_1 =>
 xRd w (fun K => xLoad Try.prog 31 t14_1 w K) fun t15_1 =>
 xPur w (fun w K => xFieldAddr Try.prog 25 t1 0 w K) fun t16_1 =>
 xRd w (fun K => xLoad Try.prog 22 t16_1 w K) fun t17_1 =>
 xPur w (fun w K => K t4 w) fun t18_1 =>
 xPur w (fun w K => xIndexAddr Try.prog 22 t17_1 t18_1 w K) fun t19_1 =>
 xPur w (fun w K => xFieldAddr Try.prog 72 t19_1 0 w K) fun t20_1 =>
 xRd w (fun K => xLoad Try.prog 66 t20_1 w K) fun t21_1 =>
 xPur w (fun w K => xFieldAddr Try.prog 25 t1 0 w K) fun t22_1 =>
 xRd w (fun K => xLoad Try.prog 22 t22_1 w K) fun t23_1 =>
 xPur w (fun w K => K t4 w) fun t24_1 =>
 xPur w (fun w K => xIndexAddr Try.prog 22 t23_1 t24_1 w K) fun t25_1 =>
 xPur w (fun w K => xFieldAddr Try.prog 72 t25_1 1 w K) fun t26_1 =>
 xRd w (fun K => xLoad Try.prog 70 t26_1 w K) fun t27_1 =>
 xPur w (fun w K => xBuild Try.prog 76 [(0, t21_1), (1, t27_1)] w K) fun t28_1 =>
 xBuildSlice Try.prog 31 1 [(0, t28_1)] w fun t29_1 w =>
 xRe w (fun K => xLoad Try.prog 31 t14_1 w K) t15_1 (
 xBuiltin Try.prog .append #[31, 31] 31 [false, false] [t15_1, t29_1] w fun t30_1 w =>
 xPur w (fun w K => xFieldAddr Try.prog 34 t3 0 w K) fun t31_1 =>
 xStore Try.prog 31 t31_1 t30_1 w fun _x18 w =>
 xBin Try.prog .add 3 false t4 true (.int .i64 1) w fun t13_1 w =>
 nxt0 [t13_1] w))
 (xLoop [(.int .i64 0)] w [5] fun u w nxt2 =>
 loamlaw17_Of_l2 K nxt2 t1 t2 t3 (u 5) w)
def loamlaw17_Of (K : K1) (t0 : Value) (w : World) : Prop :=
 xBox Try.prog 25 t0 w fun t1 w =>
 xAlloc Try.prog 34 w fun t2 w =>
 xBuild Try.prog 34 [] w fun t6 w =>
 xAlloc Try.prog 34 w fun t3 w =>
 xStore Try.prog 34 t3 t6 w fun _ w =>
 xLoop [(.int .i64 0)] w [4] fun u w nxt0 =>
 loamlaw17_Of_l1 K nxt0 t1 t2 t3 (u 4) w
abbrev n_loamlaw17_Of : Nat := 14
def loamlaw17_Of_ann : Ann := { loop := fun i => bif Nat.beq i 2 then [5] else bif Nat.beq i 0 then [4] else [], wr := fun i => bif Nat.beq i 2 then [5, 32, 33, 34, 35, 36, 37, 38, 39, 40, 41, 42, 43, 44, 45, 46, 47, 48, 49, 50, 51, 52, 53, 54, 55, 56] else bif Nat.beq i 0 then [4, 7, 8, 9, 10, 11, 12, 13, 14, 15, 16, 17, 18, 19, 20, 21, 22, 23, 24, 25, 26, 27, 28, 29, 30, 31] else [], told := fun i => bif Nat.beq i 5 then [(0, false, ⟨0, 16392, some 14⟩), (1, false, ⟨1, 49152, some 15⟩), (2, false, ⟨0, 65538, some 16⟩), (3, false, ⟨4, 196608, some 17⟩), (4, false, ⟨0, 262160, some 18⟩), (5, false, ⟨24, 917504, some 19⟩), (6, false, ⟨32, 1572864, some 20⟩), (7, false, ⟨64, 3145728, some 21⟩), (8, false, ⟨0, 4194306, some 22⟩), (9, false, ⟨256, 12582912, some 23⟩), (10, false, ⟨0, 16777232, some 24⟩), (11, false, ⟨1536, 58720256, some 25⟩), (12, false, ⟨2048, 100663296, some 26⟩), (13, false, ⟨4096, 201326592, some 27⟩), (14, false, ⟨8320, 404750336, some 28⟩), (15, false, ⟨16384, 805306368, some 29⟩), (16, false, ⟨32770, 1610645504, some 30⟩), (17, false, ⟨131071, 2147483656, some 31⟩), (18, false, ⟨262143, 3221225472, none⟩)] else bif Nat.beq i 9 then [(0, false, ⟨0, 549755813896, some 39⟩), (1, false, ⟨1, 1649267441664, some 40⟩), (2, false, ⟨0, 2199023255554, some 41⟩), (3, false, ⟨4, 6597069766656, some 42⟩), (4, false, ⟨0, 8796093022240, some 43⟩), (5, false, ⟨24, 30786325577728, some 44⟩), (6, false, ⟨32, 52776558133248, some 45⟩), (7, false, ⟨64, 105553116266496, some 46⟩), (8, false, ⟨0, 140737488355330, some 47⟩), (9, false, ⟨256, 422212465065984, some 48⟩), (10, false, ⟨0, 562949953421344, some 49⟩), (11, false, ⟨1536, 1970324836974592, some 50⟩), (12, false, ⟨2048, 3377699720527872, some 51⟩), (13, false, ⟨4096, 6755399441055744, some 52⟩), (14, false, ⟨8320, 13581167626289152, some 53⟩), (15, false, ⟨16384, 27021597764222976, some 54⟩), (16, false, ⟨32770, 54044295040073728, some 55⟩), (17, false, ⟨131071, 72057594037927944, some 56⟩), (18, false, ⟨262143, 108086391056891904, none⟩)] else [], sq := fun i => bif Nat.beq i 5 then some (.rd true 0 (.rd false 1 (.rd true 2 (.rd false 3 (.rd true 4 (.rd true 5 (.rd true 6 (.rd false 7 (.rd true 8 (.rd false 9 (.rd true 10 (.rd true 11 (.rd true 12 (.rd false 13 (.rd true 14 (.ef 15 [1] (.ef 16 [] (.rd true 17 (.ef 18 [] .done))))))))))))))))))) else bif Nat.beq i 9 then some (.rd true 0 (.rd false 1 (.rd true 2 (.rd false 3 (.rd true 4 (.rd true 5 (.rd true 6 (.rd false 7 (.rd true 8 (.rd false 9 (.rd true 10 (.rd true 11 (.rd true 12 (.rd false 13 (.rd true 14 (.ef 15 [1] (.ef 16 [] (.rd true 17 (.ef 18 [] .done))))))))))))))))))) else none }
theorem loamlaw17_Of_eq (t0 : Value) (w : World) (K : K1) : reads Try.prog loamlaw17_Of_ann Try.f14 #[t0] w K = loamlaw17_Of K t0 w := by kernel_rfl
theorem loamlaw17_Of_of {t0 : Value} {w : World} {K : K1} (h : loamlaw17_Of K t0 w) : Yld Try.prog n_loamlaw17_Of #[t0] w K :=
  yld_of mixed loamlaw17_Of_ann Try.func14 (by kernel_rfl) (loamlaw17_Of_eq t0 w K) h

/-! loam/check.Right: function 15 -/
/-! loam/check.Image: function 16 -/
/-! loam/loamlaw16.To: function 17 -/
/-! loam/check.Space: function 18 -/
/-! loam/loamlaw26.same: function 19 -/
/-! loam/loamref17.Space: function 20 -/
/-! (*loam/loamref14.Space).Well: function 21 -/
/-! loam/loamlaw23.known: function 22 -/
def loamlaw23_known (K : K1) (w : World) : Prop :=
 xBuildSlice Try.prog 66 1 [(0, (.int .i64 1))] w fun t8 w =>
 xBuildSlice Try.prog 70 1 [(0, (c8 120))] w fun t9 w =>
 xConv Try.prog 70 70 t9 w fun t10 w =>
 xBuild Try.prog 72 [(0, t8), (1, t10)] w fun t11 w =>
 xBuildSlice Try.prog 22 1 [(0, t11)] w fun t12 w =>
 xBuild Try.prog 74 [(0, (.string { data := #[97] })), (1, (.int .i64 1))] w fun t13 w =>
 xBuildSlice Try.prog 23 1 [(0, t13)] w fun t14 w =>
 xBuild Try.prog 25 [(0, t12), (1, t14)] w fun t15 w =>
 xAlloc Try.prog 25 w fun t1 w =>
 xStore Try.prog 25 t1 t15 w fun _ w =>
 xLoad Try.prog 25 t1 w fun t17 w =>
 xCall Try.prog (fnv 23) [t17] w fun t18 w =>
 xExtract Try.prog t18 0 w fun t19 w =>
 xExtract Try.prog t18 1 w fun t20 w =>
 xCall Try.prog (fnv 28) [t19] w fun t23 w =>
 xExtract Try.prog t23 0 w fun t24 w =>
 xExtract Try.prog t23 1 w fun t25 w =>
 xAlloc Try.prog 25 w fun t4 w =>
 xStore Try.prog 25 t4 t24 w fun _ w =>
 xCall Try.prog (fnv 28) [(.slice none 0 0)] w fun t27 w =>
 xExtract Try.prog t27 0 w fun t28 w =>
 xExtract Try.prog t27 1 w fun t29 w =>
 xAlloc Try.prog 25 w fun t6 w =>
 xStore Try.prog 25 t6 t28 w fun _ w =>
 xBin Try.prog .add 3 false t20 false t25 w fun t32 w =>
 xBin Try.prog .eql 3 false t32 true (.int .i64 0) w fun t33 w =>
 xGuard t33 true (fun w K => K t19 w) w fun t35 w =>
 xGuard t33 true (fun w K => xBuiltin Try.prog .len #[28] 3 [false] [t35] w K) w fun t36 w =>
 xGuard t33 true (fun w K => xBin Try.prog .eql 3 false t36 true (.int .i64 10) w K) w fun t37 w =>
 xPick t33 t37 (.bool false) w fun t38 w =>
 xGuard t38 true (fun w K => K t19 w) w fun t40 w =>
 xGuard t38 true (fun w K => xIndexAddr Try.prog 28 t40 (.int .i64 0) w K) w fun t41 w =>
 xGuard t38 true (fun w K => xLoad Try.prog 69 t41 w K) w fun t42 w =>
 xGuard t38 true (fun w K => xBin Try.prog .eql 69 false t42 true (c64 1296125772) w K) w fun t43 w =>
 xPick t38 t43 (.bool false) w fun t44 w =>
 xGuard t44 true (fun w K => K t19 w) w fun t46 w =>
 xGuard t44 true (fun w K => xIndexAddr Try.prog 28 t46 (.int .i64 1) w K) w fun t47 w =>
 xGuard t44 true (fun w K => xLoad Try.prog 69 t47 w K) w fun t48 w =>
 xGuard t44 true (fun w K => xBin Try.prog .eql 69 false t48 true (c64 655361) w K) w fun t49 w =>
 xPick t44 t49 (.bool false) w fun t50 w =>
 xGuard t50 true (fun w K => K t19 w) w fun t52 w =>
 xGuard t50 true (fun w K => xIndexAddr Try.prog 28 t52 (.int .i64 2) w K) w fun t53 w =>
 xGuard t50 true (fun w K => xLoad Try.prog 69 t53 w K) w fun t54 w =>
 xGuard t50 true (fun w K => xBin Try.prog .eql 69 false t54 true (c64 97) w K) w fun t55 w =>
 xPick t50 t55 (.bool false) w fun t56 w =>
 xGuard t56 true (fun w K => K t19 w) w fun t58 w =>
 xGuard t56 true (fun w K => xIndexAddr Try.prog 28 t58 (.int .i64 6) w K) w fun t59 w =>
 xGuard t56 true (fun w K => xLoad Try.prog 69 t59 w K) w fun t60 w =>
 xGuard t56 true (fun w K => xBin Try.prog .eql 69 false t60 true (c64 8) w K) w fun t61 w =>
 xPick t56 t61 (.bool false) w fun t62 w =>
 xGuard t62 true (fun w K => K t19 w) w fun t64 w =>
 xGuard t62 true (fun w K => xIndexAddr Try.prog 28 t64 (.int .i64 8) w K) w fun t65 w =>
 xGuard t62 true (fun w K => xLoad Try.prog 69 t65 w K) w fun t66 w =>
 xGuard t62 true (fun w K => xBin Try.prog .eql 69 false t66 true (c64 8) w K) w fun t67 w =>
 xPick t62 t67 (.bool false) w fun t68 w =>
 xGuard t68 true (fun w K => K t19 w) w fun t70 w =>
 xGuard t68 true (fun w K => xIndexAddr Try.prog 28 t70 (.int .i64 9) w K) w fun t71 w =>
 xGuard t68 true (fun w K => xLoad Try.prog 69 t71 w K) w fun t72 w =>
 xGuard t68 true (fun w K => xBin Try.prog .eql 69 false t72 true (c64 120) w K) w fun t73 w =>
 xPick t68 t73 (.bool false) w fun t74 w =>
 xGuard t74 true (fun w K => xLoad Try.prog 25 t4 w K) w fun t76 w =>
 xGuard t74 true (fun w K => xLoad Try.prog 25 t1 w K) w fun t77 w =>
 xGuard t74 true (fun w K => xCall Try.prog (fnv 29) [t76, t77] w K) w fun t78 w =>
 xPick t74 t78 (.bool false) w fun t79 w =>
 xGuard t79 true (fun w K => K t29 w) w fun t81 w =>
 xGuard t79 true (fun w K => xBin Try.prog .eql 3 false t81 true (.int .i64 2) w K) w fun t82 w =>
 xPick t79 t82 (.bool false) w fun t83 w =>
 xGuard t83 true (fun w K => xLoad Try.prog 25 t1 w K) w fun t85 w =>
 xGuard t83 true (fun w K => xCall Try.prog (fnv 26) [t85] w K) w fun t86 w =>
 xGuard t83 true (fun w K => xBin Try.prog .eql 3 false t86 true (.int .i64 10) w K) w fun t87 w =>
 xPick t83 t87 (.bool false) w fun t88 w =>
 K t88 w
abbrev n_loamlaw23_known : Nat := 22
def loamlaw23_known_ann : Ann := { loop := fun i => [], wr := fun i => [], told := fun i => [] }
theorem loamlaw23_known_eq (w : World) (K : K1) : reads Try.prog loamlaw23_known_ann Try.f22 #[] w K = loamlaw23_known K  w := by kernel_rfl
theorem loamlaw23_known_of {w : World} {K : K1} (h : loamlaw23_known K w) : Yld Try.prog n_loamlaw23_known #[] w K :=
  yld_of mixed loamlaw23_known_ann Try.func22 (by kernel_rfl) (loamlaw23_known_eq  w K) h

/-! loam/image.Encode: function 23 -/
def image_Encode_l3 (K : K1) (nxt4 : List Value → World → Prop) (t5 t14 t99 t100 t101 : Value) (w : World) : Prop :=
 xBin Try.prog .lss 3 false t101 false t100 w fun t102_1 w =>
 xIf t102_1
 (xIndexAddr Try.prog 23 t99 t101 w fun t104_1 w =>
 xLoad Try.prog 74 t104_1 w fun t105_1 w =>
 xAlloc Try.prog 74 w fun t18_1 w =>
 xStore Try.prog 74 t18_1 t105_1 w fun _ w =>
 xSq w.drew fun w =>
 xPur w (fun w K => K t5 w) fun t106_1 =>
 xPur w (fun w K => K t101 w) fun t107_1 =>
 xPur w (fun w K => xBin Try.prog .mul 3 true (.int .i64 5) false t107_1 w K) fun t108_1 =>
 xPur w (fun w K => xBin Try.prog .add 3 true (.int .i64 2) false t108_1 w K) fun t109_1 =>
 xPur w (fun w K => xFieldAddr Try.prog 74 t18_1 0 w K) fun t110_1 =>
 xRd w (fun K => xLoad Try.prog 9 t110_1 w K) fun t111_1 =>
 xPur w (fun w K => K t14 w) fun t112_1 =>
 xPur w (fun w K => xFieldAddr Try.prog 74 t18_1 1 w K) fun t113_1 =>
 xRd w (fun K => xLoad Try.prog 3 t113_1 w K) fun t114_1 =>
 xCall Try.prog t112_1 [t114_1] w fun t115_1 w =>
 xRe w (fun K => xLoad Try.prog 9 t110_1 w K) t111_1 (
 xCall Try.prog (fnv 63) [t106_1, t109_1, t111_1, t115_1] w fun t116_1 w =>
 xBin Try.prog .add 3 false t101 true (.int .i64 1) w fun t117_1 w =>
 nxt4 [t117_1] w))
 (xCall Try.prog (fnv 64) [t5] w fun t119 w =>
 K (.tuple #[t119, (.int .i64 0)]) w)
def image_Encode_l2 (K : K1) (nxt2 : List Value → World → Prop) (t1 t5 t9 t14 t82 t83 t84 : Value) (w : World) : Prop :=
 xBin Try.prog .lss 3 false t84 false t83 w fun t85_1 w =>
 xIf t85_1
 (xIndexAddr Try.prog 22 t82 t84 w fun t87_1 w =>
 xLoad Try.prog 72 t87_1 w fun t88_1 w =>
 xAlloc Try.prog 72 w fun t16_1 w =>
 xStore Try.prog 72 t16_1 t88_1 w fun _ w =>
 xSq w.drew fun w =>
 xPur w (fun w K => K t5 w) fun t89_1 =>
 xRd w (fun K => xLoad Try.prog 66 t9 w K) fun t90_1 =>
 xPur w (fun w K => K t84 w) fun t91_1 =>
 xPur w (fun w K => xIndexAddr Try.prog 66 t90_1 t91_1 w K) fun t92_1 =>
 xRd w (fun K => xLoad Try.prog 3 t92_1 w K) fun t93_1 =>
 xRd w (fun K => xLoad Try.prog 72 t16_1 w K) fun t94_1 =>
 xPur w (fun w K => K t14 w) fun t95_1 =>
 xCall Try.prog (fnv 62) [t89_1, t93_1, t94_1, t95_1] w fun t96_1 w =>
 xBin Try.prog .add 3 false t84 true (.int .i64 1) w fun t97_1 w =>
 nxt2 [t97_1] w)
 (xFieldAddr Try.prog 25 t1 1 w fun t98 w =>
 xLoad Try.prog 23 t98 w fun t99 w =>
 xBuiltin Try.prog .len #[23] 3 [false] [t99] w fun t100 w =>
 xLoop [(.int .i64 0)] w [101] fun u w nxt4 =>
 image_Encode_l3 K nxt4 t5 t14 t99 t100 (u 101) w)
def image_Encode_l1 (K : K1) (nxt0 : List Value → World → Prop) (t1 t5 t7 t9 t57 t58 t59 : Value) (w : World) : Prop :=
 xBin Try.prog .lss 3 false t59 false t58 w fun t60_1 w =>
 xIf t60_1
 (xIndexAddr Try.prog 22 t57 t59 w fun t61_1 w =>
 xLoad Try.prog 72 t61_1 w fun t62_1 w =>
 xAlloc Try.prog 72 w fun t11_1 w =>
 xStore Try.prog 72 t11_1 t62_1 w fun _ w =>
 xFieldAddr Try.prog 72 t11_1 0 w fun t65_1 w =>
 xLoad Try.prog 66 t65_1 w fun t66_1 w =>
 xBuiltin Try.prog .len #[66] 3 [false] [t66_1] w fun t67_1 w =>
 xFieldAddr Try.prog 72 t11_1 1 w fun t68_1 w =>
 xLoad Try.prog 70 t68_1 w fun t69_1 w =>
 xBuiltin Try.prog .len #[70] 3 [false] [t69_1] w fun t70_1 w =>
 xBuild Try.prog 123 [(0, t67_1), (1, t70_1)] w fun t71_1 w =>
 xCall Try.prog (fnv 60) [t7, t71_1] w fun t72_1 w =>
 xExtract Try.prog t72_1 0 w fun t73_1 w =>
 xExtract Try.prog t72_1 1 w fun t74_1 w =>
 xLoad Try.prog 66 t9 w fun t75_1 w =>
 xBuildSlice Try.prog 66 1 [(0, t73_1)] w fun t77_1 w =>
 xBuiltin Try.prog .append #[66, 66] 66 [false, false] [t75_1, t77_1] w fun t78_1 w =>
 xStore Try.prog 66 t9 t78_1 w fun _ w =>
 xBin Try.prog .add 3 false t59 true (.int .i64 1) w fun t79_1 w =>
 nxt0 [t79_1] w)
 (xMakeFunc Try.prog (.func 61) [] [t9] w fun t80 w =>
 xFieldAddr Try.prog 25 t1 0 w fun t81 w =>
 xLoad Try.prog 22 t81 w fun t82 w =>
 xBuiltin Try.prog .len #[22] 3 [false] [t82] w fun t83 w =>
 xLoop [(.int .i64 0)] w [84] fun u w nxt2 =>
 image_Encode_l2 K nxt2 t1 t5 t9 t80 t82 t83 (u 84) w)
def image_Encode (K : K1) (t0 : Value) (w : World) : Prop :=
 xBox Try.prog 25 t0 w fun t1 w =>
 xLoad Try.prog 25 t1 w fun t19 w =>
 xCall Try.prog (fnv 54) [t19] w fun t20 w =>
 xBin Try.prog .neq 53 false t20 true (.int .i64 0) w fun t22 w =>
 xIf t22
 (K (.tuple #[(.slice none 0 0), t20]) w)
 (xLoad Try.prog 25 t1 w fun t25 w =>
 xCall Try.prog (fnv 26) [t25] w fun t26 w =>
 xCall Try.prog (fnv 55) [t26] w fun t27 w =>
 xExtract Try.prog t27 0 w fun t28 w =>
 xExtract Try.prog t27 1 w fun t29 w =>
 xBin Try.prog .neq 53 false t29 true (.int .i64 0) w fun t31 w =>
 xIf t31
 (K (.tuple #[(.slice none 0 0), (.int .i64 3)]) w)
 (xCall Try.prog (fnv 56) [t28, (.int .i64 0), (c64 1296125772)] w fun t33 w =>
 xSq w.drew fun w =>
 xPur w (fun w K => K t28 w) fun t34 =>
 xPur w (fun w K => xFieldAddr Try.prog 25 t1 1 w K) fun t35 =>
 xRd w (fun K => xLoad Try.prog 23 t35 w K) fun t36 =>
 xPur w (fun w K => xBuiltin Try.prog .len #[23] 3 [false] [t36] w K) fun t37 =>
 xPur w (fun w K => xConv Try.prog 3 69 t37 w K) fun t38 =>
 xPur w (fun w K => K t28 w) fun t39 =>
 xCall Try.prog (fnv 58) [t39] w fun t40 w =>
 xRe w (fun K => xLoad Try.prog 23 t35 w K) t36 (
 xPur w (fun w K => xConv Try.prog 3 69 t40 w K) fun t41 =>
 xCall Try.prog (fnv 57) [t38, (.int .i64 16), (.int .i64 32), t41] w fun t42 w =>
 xCall Try.prog (fnv 56) [t34, (.int .i64 1), t42] w fun t43 w =>
 xSq w.drew fun w =>
 xPur w (fun w K => K t28 w) fun t45 =>
 xPur w (fun w K => xFieldAddr Try.prog 25 t1 1 w K) fun t46 =>
 xRd w (fun K => xLoad Try.prog 23 t46 w K) fun t47 =>
 xPur w (fun w K => xBuiltin Try.prog .len #[23] 3 [false] [t47] w K) fun t48 =>
 xPur w (fun w K => xBin Try.prog .mul 3 true (.int .i64 5) false t48 w K) fun t49 =>
 xPur w (fun w K => xBin Try.prog .add 3 true (.int .i64 2) false t49 w K) fun t50 =>
 xPur w (fun w K => K t28 w) fun t51 =>
 xCall Try.prog (fnv 58) [t51] w fun t52 w =>
 xRe w (fun K => xLoad Try.prog 23 t46 w K) t47 (
 xCall Try.prog (fnv 59) [t45, t50, t52] w fun t53 w =>
 xPur w (fun w K => K t53 w) fun t44 =>
 xPur w (fun w K => xExtract Try.prog t44 0 w K) fun t54 =>
 xPur w (fun w K => xExtract Try.prog t44 1 w K) fun t55 =>
 xPur w (fun w K => K t54 w) fun t7 =>
 xPur w (fun w K => K t55 w) fun t8 =>
 xAlloc Try.prog 66 w fun t9 w =>
 xFieldAddr Try.prog 25 t1 0 w fun t56 w =>
 xLoad Try.prog 22 t56 w fun t57 w =>
 xBuiltin Try.prog .len #[22] 3 [false] [t57] w fun t58 w =>
 xLoop [(.int .i64 0)] w [59] fun u w nxt0 =>
 image_Encode_l1 K nxt0 t1 t28 t7 t9 t57 t58 (u 59) w))))
abbrev n_image_Encode : Nat := 23
def image_Encode_ann : Ann := { loop := fun i => bif Nat.beq i 4 then [101] else bif Nat.beq i 2 then [84] else bif Nat.beq i 0 then [59] else [], wr := fun i => bif Nat.beq i 4 then [17, 18, 101, 102, 103, 104, 105, 106, 107, 108, 109, 110, 111, 112, 113, 114, 115, 116, 117] else bif Nat.beq i 2 then [15, 16, 84, 85, 86, 87, 88, 89, 90, 91, 92, 93, 94, 95, 96, 97] else bif Nat.beq i 0 then [11, 12, 13, 59, 60, 61, 62, 63, 64, 65, 66, 67, 68, 69, 70, 71, 72, 73, 74, 75, 76, 77, 78, 79] else [], told := fun i => bif Nat.beq i 8 then [(0, false, ⟨0, 17179869216, some 34⟩), (1, false, ⟨0, 34359738370, some 35⟩), (2, false, ⟨2, 103079215104, some 36⟩), (3, false, ⟨4, 206158430208, some 37⟩), (4, false, ⟨8, 412316860416, some 38⟩), (5, false, ⟨0, 549755813920, some 39⟩), (6, false, ⟨32, 1649267441664, some 40⟩), (7, false, ⟨64, 3298534883328, some 41⟩), (8, false, ⟨208, 6871947673600, some 42⟩), (9, false, ⟨257, 13211319402496, some 43⟩)] else bif Nat.beq i 9 then [(0, false, ⟨0, 35184372088864, some 45⟩), (1, false, ⟨0, 70368744177666, some 46⟩), (2, false, ⟨2, 211106232532992, some 47⟩), (3, false, ⟨4, 422212465065984, some 48⟩), (4, false, ⟨8, 844424930131968, some 49⟩), (5, false, ⟨16, 1688849860263936, some 50⟩), (6, false, ⟨0, 2251799813685280, some 51⟩), (7, false, ⟨64, 6755399441055744, some 52⟩), (8, false, ⟨161, 14671883161042944, some 53⟩), (9, false, ⟨256, 9024791440785408, some 44⟩), (10, false, ⟨512, 18031990695526400, some 54⟩), (11, false, ⟨512, 36046389205008384, some 55⟩), (12, false, ⟨2047, 18014398509482112, some 7⟩), (13, false, ⟨8191, 36028797018964224, some 8⟩)] else bif Nat.beq i 21 then [(0, false, ⟨0, 618970019642690137449562144, some 89⟩), (1, false, ⟨0, 1237940039285380274899124736, some 90⟩), (2, false, ⟨0, 2475880078570760549798281216, some 91⟩), (3, false, ⟨6, 8665580274997661924293869568, some 92⟩), (4, false, ⟨8, 14855280471424563298789490688, some 93⟩), (5, false, ⟨0, 19807040628566084398386053120, some 94⟩), (6, false, ⟨0, 39614081257132168796771991552, some 95⟩), (7, false, ⟨113, 149171774733888323125344468992, some 96⟩)] else bif Nat.beq i 26 then [(0, false, ⟨0, 81129638414606681695789005144096, some 106⟩), (1, false, ⟨0, 162259276829213363391578010419200, some 107⟩), (2, false, ⟨2, 486777830487640090174734030864384, some 108⟩), (3, false, ⟨4, 973555660975280180349468061728768, some 109⟩), (4, false, ⟨0, 1298074214633706907132624082567168, some 110⟩), (5, false, ⟨16, 3894222643901120721397872246915072, some 111⟩), (6, false, ⟨0, 5192296858534827628530496329236480, some 112⟩), (7, false, ⟨0, 10384593717069655257060992658702336, some 113⟩), (8, false, ⟨128, 31153781151208965771182977975320576, some 114⟩), (9, false, ⟨320, 67499859160952759170896452279861248, some 115⟩), (10, false, ⟨553, 127941439779834737034259261112188928, some 116⟩)] else [], sq := fun i => bif Nat.beq i 8 then some (.rd true 0 (.rd true 1 (.rd false 2 (.rd true 3 (.rd true 4 (.rd true 5 (.ef 6 [2] (.rd true 7 (.ef 8 [] (.ef 9 [] .done)))))))))) else bif Nat.beq i 9 then some (.rd true 0 (.rd true 1 (.rd false 2 (.rd true 3 (.rd true 4 (.rd true 5 (.rd true 6 (.ef 7 [2] (.ef 8 [] (.rd true 9 (.rd true 10 (.rd true 11 (.rd true 12 (.rd true 13 .done)))))))))))))) else bif Nat.beq i 21 then some (.rd true 0 (.rd false 1 (.rd true 2 (.rd true 3 (.rd false 4 (.rd false 5 (.rd true 6 (.ef 7 [] .done)))))))) else bif Nat.beq i 26 then some (.rd true 0 (.rd true 1 (.rd true 2 (.rd true 3 (.rd true 4 (.rd false 5 (.rd true 6 (.rd true 7 (.rd false 8 (.ef 9 [5] (.ef 10 [] .done))))))))))) else none }
theorem image_Encode_eq (t0 : Value) (w : World) (K : K1) : reads Try.prog image_Encode_ann Try.f23 #[t0] w K = image_Encode K t0 w := by kernel_rfl
theorem image_Encode_of {t0 : Value} {w : World} {K : K1} (h : image_Encode K t0 w) : Yld Try.prog n_image_Encode #[t0] w K :=
  yld_of mixed image_Encode_ann Try.func23 (by kernel_rfl) (image_Encode_eq t0 w K) h

/-! loam/loamlaw23.words: function 24 -/
/-! loam/loamref17.Check: function 25 -/
def loamref17_Check_l2 (K : K1) (nxt0 : List Value → World → Prop) (nxt2 : List Value → World → Prop) (t3 t4 t5 t6 : Value) (w : World) : Prop :=
 xFieldAddr Try.prog 76 t5 0 w fun t23_1 w =>
 xLoad Try.prog 66 t23_1 w fun t24_1 w =>
 xBuiltin Try.prog .len #[66] 3 [false] [t24_1] w fun t25_1 w =>
 xBin Try.prog .lss 3 false t6 false t25_1 w fun t26_1 w =>
 xIf t26_1
 (xFieldAddr Try.prog 76 t5 0 w fun t29_1 w =>
 xLoad Try.prog 66 t29_1 w fun t30_1 w =>
 xIndexAddr Try.prog 66 t30_1 t6 w fun t32_1 w =>
 xLoad Try.prog 3 t32_1 w fun t33_1 w =>
 xBin Try.prog .lss 3 false t33_1 true (.int .i64 0) w fun t34_1 w =>
 xGuard t34_1 false (fun w K => xFieldAddr Try.prog 76 t5 0 w K) w fun t36_1 w =>
 xGuard t34_1 false (fun w K => xLoad Try.prog 66 t36_1 w K) w fun t37_1 w =>
 xGuard t34_1 false (fun w K => K t6 w) w fun t38_1 w =>
 xGuard t34_1 false (fun w K => xIndexAddr Try.prog 66 t37_1 t38_1 w K) w fun t39_1 w =>
 xGuard t34_1 false (fun w K => xLoad Try.prog 3 t39_1 w K) w fun t40_1 w =>
 xGuard t34_1 false (fun w K => K t3 w) w fun t41_1 w =>
 xGuard t34_1 false (fun w K => xBin Try.prog .gtr 3 false t40_1 false t41_1 w K) w fun t42_1 w =>
 xPick t34_1 (.bool true) t42_1 w fun t43_1 w =>
 xIf t43_1
 (K (.int .i64 1) w)
 (xBin Try.prog .add 3 false t6 true (.int .i64 1) w fun t28_1 w =>
 nxt2 [t28_1] w))
 (xFieldAddr Try.prog 76 t5 0 w fun t44_1 w =>
 xLoad Try.prog 66 t44_1 w fun t45_1 w =>
 xBuiltin Try.prog .len #[66] 3 [false] [t45_1] w fun t46_1 w =>
 xBin Try.prog .gtr 3 false t46_1 true (.int .i64 64) w fun t47_1 w =>
 xGuard t47_1 false (fun w K => xFieldAddr Try.prog 76 t5 1 w K) w fun t49_1 w =>
 xGuard t47_1 false (fun w K => xLoad Try.prog 70 t49_1 w K) w fun t50_1 w =>
 xGuard t47_1 false (fun w K => xBuiltin Try.prog .len #[70] 3 [false] [t50_1] w K) w fun t51_1 w =>
 xGuard t47_1 false (fun w K => xBin Try.prog .gtr 3 false t51_1 true (.int .i64 1024) w K) w fun t52_1 w =>
 xPick t47_1 (.bool true) t52_1 w fun t53_1 w =>
 xIf t53_1
 (K (.int .i64 3) w)
 (xBin Try.prog .add 3 false t4 true (.int .i64 1) w fun t16_1 w =>
 nxt0 [t16_1] w))
def loamref17_Check_l3 (K : K1) (nxt4 : List Value → World → Prop) (t1 t3 t7 : Value) (w : World) : Prop :=
 xFieldAddr Try.prog 34 t1 1 w fun t59_1 w =>
 xLoad Try.prog 32 t59_1 w fun t60_1 w =>
 xBuiltin Try.prog .len #[32] 3 [false] [t60_1] w fun t61_1 w =>
 xBin Try.prog .lss 3 false t7 false t61_1 w fun t62_1 w =>
 xIf t62_1
 (xFieldAddr Try.prog 34 t1 1 w fun t65_1 w =>
 xLoad Try.prog 32 t65_1 w fun t66_1 w =>
 xIndexAddr Try.prog 32 t66_1 t7 w fun t68_1 w =>
 xLoad Try.prog 78 t68_1 w fun t69_1 w =>
 xAlloc Try.prog 78 w fun t8_1 w =>
 xStore Try.prog 78 t8_1 t69_1 w fun _ w =>
 xSq w.drew fun w =>
 xPur w (fun w K => xFieldAddr Try.prog 78 t8_1 0 w K) fun t70_1 =>
 xRd w (fun K => xLoad Try.prog 9 t70_1 w K) fun t71_1 =>
 xCall Try.prog (fnv 65) [t71_1] w fun t72_1 w =>
 xPur w (fun w K => xUn Try.prog .not t72_1 w K) fun t73_1 =>
 xPur w (fun w K => K t73_1 w) fun t74_1 =>
 xPur w (fun w K => xGuard t74_1 false (fun w K => K t7 w) w K) fun t75_1 =>
 xPur w (fun w K => xGuard t74_1 false (fun w K => xBin Try.prog .gtr 3 false t75_1 true (.int .i64 0) w K) w K) fun t76_1 =>
 xPur w (fun w K => xGuard t74_1 false (fun w K => K t76_1 w) w K) fun t77_1 =>
 xPur w (fun w K => xGuard t77_1 true (fun w K => xFieldAddr Try.prog 34 t1 1 w K) w K) fun t78_1 =>
 xRd w (fun K => xGuard t77_1 true (fun w K => xLoad Try.prog 32 t78_1 w K) w K) fun t79_1 =>
 xPur w (fun w K => xGuard t77_1 true (fun w K => K t7 w) w K) fun t80_1 =>
 xPur w (fun w K => xGuard t77_1 true (fun w K => xBin Try.prog .sub 3 false t80_1 true (.int .i64 1) w K) w K) fun t81_1 =>
 xPur w (fun w K => xGuard t77_1 true (fun w K => xIndexAddr Try.prog 32 t79_1 t81_1 w K) w K) fun t82_1 =>
 xPur w (fun w K => xGuard t77_1 true (fun w K => xFieldAddr Try.prog 78 t82_1 0 w K) w K) fun t83_1 =>
 xRd w (fun K => xGuard t77_1 true (fun w K => xLoad Try.prog 9 t83_1 w K) w K) fun t84_1 =>
 xPur w (fun w K => xGuard t77_1 true (fun w K => xFieldAddr Try.prog 78 t8_1 0 w K) w K) fun t85_1 =>
 xRd w (fun K => xGuard t77_1 true (fun w K => xLoad Try.prog 9 t85_1 w K) w K) fun t86_1 =>
 xPur w (fun w K => xGuard t77_1 true (fun w K => xBin Try.prog .geq 9 false t84_1 false t86_1 w K) w K) fun t87_1 =>
 xPur w (fun w K => xGuard t74_1 false (fun w K => xPick t77_1 t87_1 (.bool false) w K) w K) fun t88_1 =>
 xPur w (fun w K => xPick t74_1 (.bool true) t88_1 w K) fun t89_1 =>
 xIf t89_1
 (K (.int .i64 4) w)
 (xFieldAddr Try.prog 78 t8_1 1 w fun t90_1 w =>
 xLoad Try.prog 3 t90_1 w fun t91_1 w =>
 xBin Try.prog .lss 3 false t91_1 true (.int .i64 0) w fun t92_1 w =>
 xGuard t92_1 false (fun w K => xFieldAddr Try.prog 78 t8_1 1 w K) w fun t94_1 w =>
 xGuard t92_1 false (fun w K => xLoad Try.prog 3 t94_1 w K) w fun t95_1 w =>
 xGuard t92_1 false (fun w K => K t3 w) w fun t96_1 w =>
 xGuard t92_1 false (fun w K => xBin Try.prog .gtr 3 false t95_1 false t96_1 w K) w fun t97_1 w =>
 xPick t92_1 (.bool true) t97_1 w fun t98_1 w =>
 xIf t98_1
 (K (.int .i64 1) w)
 (xBin Try.prog .add 3 false t7 true (.int .i64 1) w fun t64_1 w =>
 nxt4 [t64_1] w)))
 (K (.int .i64 0) w)
def loamref17_Check_l1 (K : K1) (nxt0 : List Value → World → Prop) (t1 t3 t4 : Value) (w : World) : Prop :=
 xBin Try.prog .lss 3 false t4 false t3 w fun t14_1 w =>
 xIf t14_1
 (xFieldAddr Try.prog 34 t1 0 w fun t17_1 w =>
 xLoad Try.prog 31 t17_1 w fun t18_1 w =>
 xIndexAddr Try.prog 31 t18_1 t4 w fun t20_1 w =>
 xLoad Try.prog 76 t20_1 w fun t21_1 w =>
 xAlloc Try.prog 76 w fun t5_1 w =>
 xStore Try.prog 76 t5_1 t21_1 w fun _ w =>
 xLoop [(.int .i64 0)] w [6] fun u w nxt2 =>
 loamref17_Check_l2 K nxt0 nxt2 t3 t4 t5_1 (u 6) w)
 (xFieldAddr Try.prog 34 t1 1 w fun t54 w =>
 xLoad Try.prog 32 t54 w fun t55 w =>
 xBuiltin Try.prog .len #[32] 3 [false] [t55] w fun t56 w =>
 xBin Try.prog .gtr 3 false t56 true (.int .i64 64) w fun t57 w =>
 xIf t57
 (K (.int .i64 3) w)
 (xLoop [(.int .i64 0)] w [7] fun u w nxt4 =>
 loamref17_Check_l3 K nxt4 t1 t3 (u 7) w))
def loamref17_Check (K : K1) (t0 : Value) (w : World) : Prop :=
 xBox Try.prog 34 t0 w fun t1 w =>
 xFieldAddr Try.prog 34 t1 0 w fun t9 w =>
 xLoad Try.prog 31 t9 w fun t10 w =>
 xBuiltin Try.prog .len #[31] 3 [false] [t10] w fun t11 w =>
 xLoop [(.int .i64 0)] w [4] fun u w nxt0 =>
 loamref17_Check_l1 K nxt0 t1 t11 (u 4) w
abbrev n_loamref17_Check : Nat := 25
def loamref17_Check_ann : Ann := { loop := fun i => bif Nat.beq i 2 then [6] else bif Nat.beq i 4 then [7] else bif Nat.beq i 0 then [4] else [], wr := fun i => bif Nat.beq i 2 then [2, 6, 22, 23, 24, 25, 26, 27, 28, 29, 30, 31, 32, 33, 34, 35, 36, 37, 38, 39, 40, 41, 42, 43] else bif Nat.beq i 4 then [2, 7, 8, 58, 59, 60, 61, 62, 63, 64, 65, 66, 67, 68, 69, 70, 71, 72, 73, 74, 75, 76, 77, 78, 79, 80, 81, 82, 83, 84, 85, 86, 87, 88, 89, 90, 91, 92, 93, 94, 95, 96, 97, 98] else bif Nat.beq i 0 then [2, 4, 5, 6, 12, 13, 14, 15, 16, 17, 18, 19, 20, 21, 22, 23, 24, 25, 26, 27, 28, 29, 30, 31, 32, 33, 34, 35, 36, 37, 38, 39, 40, 41, 42, 43, 44, 45, 46, 47, 48, 49, 50, 51, 52, 53] else [], told := fun i => bif Nat.beq i 19 then [(0, false, ⟨0, 1180591620717411303680, some 70⟩), (1, false, ⟨1, 3541774862152233910272, some 71⟩), (2, false, ⟨2, 7083549724304467820544, some 72⟩), (3, false, ⟨4, 14167099448608935641088, some 73⟩), (4, false, ⟨12, 28334198897217871282176, some 74⟩), (5, false, ⟨16, 56668397794435742564480, some 75⟩), (6, false, ⟨48, 132226261520350065983488, some 76⟩), (7, false, ⟨80, 245563057109221551112192, some 77⟩), (8, false, ⟨128, 453347182355485940514818, some 78⟩), (9, false, ⟨384, 1057810092162800527867904, some 79⟩), (10, false, ⟨128, 1360041547066457821544576, some 80⟩), (11, false, ⟨1152, 3777893186295716170956800, some 81⟩), (12, false, ⟨2688, 8009133554946918282428416, some 82⟩), (13, false, ⟨4224, 14658225562827378743312384, some 83⟩), (14, false, ⟨8320, 29165335398202928839786496, some 84⟩), (15, false, ⟨128, 38836741955119962237436160, some 85⟩), (16, false, ⟨32896, 116207994410456229418631168, some 86⟩), (17, false, ⟨82048, 251607686207294696985722880, some 87⟩), (18, false, ⟨131216, 464397519925400910314864640, some 88⟩), (19, false, ⟨262160, 928473918929966684755197952, some 89⟩)] else [], sq := fun i => bif Nat.beq i 19 then some (.rd true 0 (.rd false 1 (.ef 2 [] (.rd true 3 (.rd true 4 (.rd true 5 (.rd true 6 (.rd true 7 (.rd true 8 (.rd false 9 (.rd true 10 (.rd true 11 (.rd true 12 (.rd true 13 (.rd false 14 (.rd true 15 (.rd false 16 (.rd true 17 (.rd true 18 (.rd true 19 .done)))))))))))))))))))) else none }
theorem loamref17_Check_eq (t0 : Value) (w : World) (K : K1) : reads Try.prog loamref17_Check_ann Try.f25 #[t0] w K = loamref17_Check K t0 w := by kernel_rfl
theorem loamref17_Check_of {t0 : Value} {w : World} {K : K1} (h : loamref17_Check K t0 w) : Yld Try.prog n_loamref17_Check #[t0] w K :=
  yld_of mixed loamref17_Check_ann Try.func25 (by kernel_rfl) (loamref17_Check_eq t0 w K) h

/-! loam/image.Need: function 26 -/
def image_Need (K : K1) (t0 : Value) (w : World) : Prop :=
 xBox Try.prog 25 t0 w fun t1 w =>
 xSq w.drew fun w =>
 xPur w (fun w K => xFieldAddr Try.prog 25 t1 1 w K) fun t3 =>
 xRd w (fun K => xLoad Try.prog 23 t3 w K) fun t4 =>
 xPur w (fun w K => xBuiltin Try.prog .len #[23] 3 [false] [t4] w K) fun t5 =>
 xPur w (fun w K => xBin Try.prog .mul 3 true (.int .i64 5) false t5 w K) fun t6 =>
 xPur w (fun w K => xBin Try.prog .add 3 true (.int .i64 2) false t6 w K) fun t7 =>
 xRd w (fun K => xLoad Try.prog 25 t1 w K) fun t8 =>
 xCall Try.prog (fnv 66) [t8] w fun t9 w =>
 xRe w (fun K => xLoad Try.prog 23 t3 w K) t4 (
 xPur w (fun w K => xBin Try.prog .add 3 false t7 false t9 w K) fun t10 =>
 xPur w (fun w K => K t10 w) fun t2 =>
 K t2 w)
abbrev n_image_Need : Nat := 26
def image_Need_ann : Ann := { loop := fun i => [], wr := fun i => [], told := fun i => bif Nat.beq i 1 then [(0, false, ⟨0, 10, some 3⟩), (1, false, ⟨1, 24, some 4⟩), (2, false, ⟨2, 48, some 5⟩), (3, false, ⟨4, 96, some 6⟩), (4, false, ⟨8, 192, some 7⟩), (5, false, ⟨0, 258, some 8⟩), (6, false, ⟨32, 768, some 9⟩), (7, false, ⟨80, 1664, some 10⟩), (8, false, ⟨255, 1028, some 2⟩)] else [], sq := fun i => bif Nat.beq i 1 then some (.rd true 0 (.rd false 1 (.rd true 2 (.rd true 3 (.rd true 4 (.rd false 5 (.ef 6 [1] (.rd true 7 (.rd true 8 .done))))))))) else none }
theorem image_Need_eq (t0 : Value) (w : World) (K : K1) : reads Try.prog image_Need_ann Try.f26 #[t0] w K = image_Need K t0 w := by kernel_rfl
theorem image_Need_of {t0 : Value} {w : World} {K : K1} (h : image_Need K t0 w) : Yld Try.prog n_image_Need #[t0] w K :=
  yld_of mixed image_Need_ann Try.func26 (by kernel_rfl) (image_Need_eq t0 w K) h

/-! loam/loamref17.Need: function 27 -/
/-! loam/image.Decode: function 28 -/
def image_Decode_l2 (K : K1) (nxt2 : List Value → World → Prop) (t0 t2 t6 t9 t10 t83 : Value) (w : World) : Prop :=
 xBin Try.prog .lss 3 false t83 false t6 w fun t84_1 w =>
 xIf t84_1
 (xSq w.drew fun w =>
 xPur w (fun w K => xFieldAddr Try.prog 25 t10 1 w K) fun t86_1 =>
 xRd w (fun K => xLoad Try.prog 23 t86_1 w K) fun t87_1 =>
 xRd w (fun K => xLoad Try.prog 132 t9 w K) fun t88_1 =>
 xPur w (fun w K => K t83 w) fun t89_1 =>
 xPur w (fun w K => xBin Try.prog .mul 3 true (.int .i64 5) false t89_1 w K) fun t90_1 =>
 xPur w (fun w K => xBin Try.prog .add 3 true (.int .i64 2) false t90_1 w K) fun t91_1 =>
 xCall Try.prog (fnv 72) [t88_1, t91_1] w fun t92_1 w =>
 xRe w (fun K => xLoad Try.prog 23 t86_1 w K) t87_1 (
 xBuildSlice Try.prog 23 1 [(0, t92_1)] w fun t93_1 w =>
 xRe w (fun K => xLoad Try.prog 23 t86_1 w K) t87_1 (
 xBuiltin Try.prog .append #[23, 23] 23 [false, false] [t87_1, t93_1] w fun t94_1 w =>
 xPur w (fun w K => xFieldAddr Try.prog 25 t10 1 w K) fun t95_1 =>
 xStore Try.prog 23 t95_1 t94_1 w fun _x10 w =>
 xBin Try.prog .add 3 false t83 true (.int .i64 1) w fun t96_1 w =>
 nxt2 [t96_1] w)))
 (xLoad Try.prog 25 t10 w fun t98 w =>
 xCall Try.prog (fnv 23) [t98] w fun t99 w =>
 xExtract Try.prog t99 0 w fun t100 w =>
 xExtract Try.prog t99 1 w fun t101 w =>
 xBin Try.prog .neq 53 false t101 true (.int .i64 0) w fun t103 w =>
 xGuard t103 false (fun w K => K t100 w) w fun t105 w =>
 xGuard t103 false (fun w K => K t0 w) w fun t106 w =>
 xGuard t103 false (fun w K => xCall Try.prog (fnv 73) [t105, t106] w K) w fun t107 w =>
 xGuard t103 false (fun w K => xUn Try.prog .not t107 w K) w fun t108 w =>
 xPick t103 (.bool true) t108 w fun t109 w =>
 xIf t109
 (xBuild Try.prog 25 [] w fun t110 w =>
 xStore Try.prog 25 t2 t110 w fun _ w =>
 xLoadR Try.prog 25 t2 w fun r0 =>
 K (.tuple #[r0, (.int .i64 2)]) w)
 (xSq w.drew fun w =>
 xPur w (fun w K => xFieldAddr Try.prog 25 t10 0 w K) fun t111 =>
 xRd w (fun K => xLoad Try.prog 22 t111 w K) fun t112 =>
 xPur w (fun w K => xFieldAddr Try.prog 25 t10 1 w K) fun t114 =>
 xRd w (fun K => xLoad Try.prog 23 t114 w K) fun t115 =>
 xCall Try.prog (fnv 74) [t112] w fun t113 w =>
 xRe w (fun K => xLoad Try.prog 23 t114 w K) t115 (
 xPur w (fun w K => xFieldAddr Try.prog 25 t10 0 w K) fun t117 =>
 xCall Try.prog (fnv 75) [t115] w fun t116 w =>
 xStore Try.prog 22 t117 t113 w fun _x7 w =>
 xPur w (fun w K => xFieldAddr Try.prog 25 t10 1 w K) fun t118 =>
 xStore Try.prog 23 t118 t116 w fun _x9 w =>
 xLoad Try.prog 25 t10 w fun t119 w =>
 xStore Try.prog 25 t2 t119 w fun _ w =>
 xLoadR Try.prog 25 t2 w fun r0 =>
 K (.tuple #[r0, (.int .i64 0)]) w)))
def image_Decode_l1 (K : K1) (nxt0 : List Value → World → Prop) (t0 t2 t6 t9 t10 t67 t68 t69 : Value) (w : World) : Prop :=
 xBin Try.prog .lss 3 false t69 false t68 w fun t70_1 w =>
 xIf t70_1
 (xIndexAddr Try.prog 66 t67 t69 w fun t71_1 w =>
 xLoad Try.prog 3 t71_1 w fun t72_1 w =>
 xSq w.drew fun w =>
 xPur w (fun w K => xFieldAddr Try.prog 25 t10 0 w K) fun t73_1 =>
 xRd w (fun K => xLoad Try.prog 22 t73_1 w K) fun t74_1 =>
 xRd w (fun K => xLoad Try.prog 132 t9 w K) fun t75_1 =>
 xPur w (fun w K => K t72_1 w) fun t76_1 =>
 xCall Try.prog (fnv 71) [t75_1, t76_1] w fun t77_1 w =>
 xRe w (fun K => xLoad Try.prog 22 t73_1 w K) t74_1 (
 xBuildSlice Try.prog 22 1 [(0, t77_1)] w fun t78_1 w =>
 xRe w (fun K => xLoad Try.prog 22 t73_1 w K) t74_1 (
 xBuiltin Try.prog .append #[22, 22] 22 [false, false] [t74_1, t78_1] w fun t79_1 w =>
 xPur w (fun w K => xFieldAddr Try.prog 25 t10 0 w K) fun t80_1 =>
 xStore Try.prog 22 t80_1 t79_1 w fun _x8 w =>
 xBin Try.prog .add 3 false t69 true (.int .i64 1) w fun t81_1 w =>
 nxt0 [t81_1] w)))
 (xLoop [(.int .i64 0)] w [83] fun u w nxt2 =>
 image_Decode_l2 K nxt2 t0 t2 t6 t9 t10 (u 83) w)
def image_Decode (K : K1) (t0 : Value) (w : World) : Prop :=
 xAlloc Try.prog 25 w fun t2 w =>
 xCall Try.prog (fnv 68) [t0] w fun t17 w =>
 xExtract Try.prog t17 0 w fun t18 w =>
 xExtract Try.prog t17 1 w fun t19 w =>
 xBin Try.prog .neq 53 false t19 true (.int .i64 0) w fun t21 w =>
 xGuard t21 false (fun w K => K t0 w) w fun t23 w =>
 xGuard t21 false (fun w K => xBuiltin Try.prog .len #[28] 3 [false] [t23] w K) w fun t24 w =>
 xGuard t21 false (fun w K => xBin Try.prog .lss 3 false t24 true (.int .i64 2) w K) w fun t25 w =>
 xPick t21 (.bool true) t25 w fun t26 w =>
 xIf t26
 (xBuild Try.prog 25 [] w fun t27 w =>
 xStore Try.prog 25 t2 t27 w fun _ w =>
 xLoadR Try.prog 25 t2 w fun r0 =>
 K (.tuple #[r0, (.int .i64 2)]) w)
 (xIndexAddr Try.prog 28 t0 (.int .i64 1) w fun t29 w =>
 xLoad Try.prog 69 t29 w fun t30 w =>
 xCall Try.prog (fnv 69) [t30, (.int .i64 0), (.int .i64 16)] w fun t31 w =>
 xConv Try.prog 69 3 t31 w fun t32 w =>
 xBin Try.prog .mul 3 true (.int .i64 5) false t32 w fun t34 w =>
 xBin Try.prog .add 3 true (.int .i64 2) false t34 w fun t35 w =>
 xCall Try.prog (fnv 58) [t18] w fun t40 w =>
 xBuiltin Try.prog .min #[3, 3] 3 [false, false] [t35, t40] w fun t41 w =>
 xCall Try.prog (fnv 58) [t18] w fun t43 w =>
 xCall Try.prog (fnv 58) [t18] w fun t45 w =>
 xCall Try.prog (fnv 45) [t18, t41, t43, t45] w fun t46 w =>
 xExtract Try.prog t46 0 w fun t47 w =>
 xExtract Try.prog t46 1 w fun t48 w =>
 xBin Try.prog .neq 53 false t48 true (.int .i64 0) w fun t50 w =>
 xGuard t50 false (fun w K => K t35 w) w fun t52 w =>
 xGuard t50 false (fun w K => K t18 w) w fun t53 w =>
 xGuard t50 false (fun w K => xCall Try.prog (fnv 58) [t53] w K) w fun t54 w =>
 xGuard t50 false (fun w K => xBin Try.prog .gtr 3 false t52 false t54 w K) w fun t55 w =>
 xPick t50 (.bool true) t55 w fun t56 w =>
 xIf t56
 (xBuild Try.prog 25 [] w fun t57 w =>
 xStore Try.prog 25 t2 t57 w fun _ w =>
 xLoadR Try.prog 25 t2 w fun r0 =>
 K (.tuple #[r0, (.int .i64 2)]) w)
 (xBuild Try.prog 132 [(0, t47)] w fun t59 w =>
 xAlloc Try.prog 132 w fun t9 w =>
 xStore Try.prog 132 t9 t59 w fun _ w =>
 xCall Try.prog (fnv 70) [t47] w fun t62 w =>
 xExtract Try.prog t62 0 w fun t63 w =>
 xExtract Try.prog t62 1 w fun t64 w =>
 xFieldAddr Try.prog 132 t9 1 w fun t65 w =>
 xStore Try.prog 66 t65 t63 w fun _ w =>
 xAlloc Try.prog 25 w fun t10 w =>
 xFieldAddr Try.prog 132 t9 1 w fun t66 w =>
 xLoad Try.prog 66 t66 w fun t67 w =>
 xBuiltin Try.prog .len #[66] 3 [false] [t67] w fun t68 w =>
 xLoop [(.int .i64 0)] w [69] fun u w nxt0 =>
 image_Decode_l1 K nxt0 t0 t2 t32 t9 t10 t67 t68 (u 69) w))
abbrev n_image_Decode : Nat := 28
def image_Decode_ann : Ann := { loop := fun i => bif Nat.beq i 2 then [83] else bif Nat.beq i 0 then [69] else [], wr := fun i => bif Nat.beq i 2 then [13, 83, 84, 85, 86, 87, 88, 89, 90, 91, 92, 93, 94, 95, 96] else bif Nat.beq i 0 then [12, 69, 70, 71, 72, 73, 74, 75, 76, 77, 78, 79, 80, 81] else [], told := fun i => bif Nat.beq i 15 then [(0, false, ⟨0, 9444732965739290428416, some 73⟩), (1, false, ⟨1, 28334198897217871282176, some 74⟩), (2, false, ⟨0, 37778931862957161710080, some 75⟩), (3, false, ⟨0, 75557863725914323423232, some 76⟩), (4, false, ⟨12, 264452523040700131966976, some 77⟩), (5, false, ⟨16, 453347182355485940514816, some 78⟩), (6, false, ⟨50, 925583830642450461884416, some 79⟩), (7, false, ⟨127, 1208925819614629174707200, some 80⟩), (8, false, ⟨255, 1813388729421943762059264, none⟩)] else bif Nat.beq i 20 then [(0, false, ⟨0, 77371252455336267181196288, some 86⟩), (1, false, ⟨1, 232113757366008801543585792, some 87⟩), (2, false, ⟨0, 309485009821345068724781568, some 88⟩), (3, false, ⟨0, 618970019642690137449570304, some 89⟩), (4, false, ⟨8, 1856910058928070412348686336, some 90⟩), (5, false, ⟨16, 3713820117856140824697372672, some 91⟩), (6, false, ⟨36, 7737125245533626718119526400, some 92⟩), (7, false, ⟨64, 14855280471424563298789490688, some 93⟩), (8, false, ⟨194, 29865303447759799131941371904, some 94⟩), (9, false, ⟨511, 39614081257132168796771976192, some 95⟩), (10, false, ⟨1023, 59421121885698253195157962752, none⟩)] else bif Nat.beq i 25 then [(0, false, ⟨0, 2596148429267413814265248164611072, some 111⟩), (1, false, ⟨1, 7788445287802241442795744493830144, some 112⟩), (3, false, ⟨0, 20769187434139310514121985316881408, some 114⟩), (4, false, ⟨8, 62307562302417931542365955950641152, some 115⟩), (2, false, ⟨2, 15576890575604482885591488987660288, some 113⟩), (6, false, ⟨31, 166153499473114484112975882535044096, some 117⟩), (5, false, ⟨20, 124615124604835863084731911901282304, some 116⟩), (7, false, ⟨127, 176538093190184139370036875193483264, none⟩), (8, false, ⟨255, 332306998946228968225951765070087168, some 118⟩), (9, false, ⟨511, 415383748682786210282439706337607680, none⟩)] else [], sq := fun i => bif Nat.beq i 15 then some (.rd true 0 (.rd false 1 (.rd false 2 (.rd true 3 (.ef 4 [1] (.ef 5 [1] (.ef 6 [] (.rd true 7 (.ef 8 [] .done))))))))) else bif Nat.beq i 20 then some (.rd true 0 (.rd false 1 (.rd false 2 (.rd true 3 (.rd true 4 (.rd true 5 (.ef 6 [1] (.ef 7 [1] (.ef 8 [] (.rd true 9 (.ef 10 [] .done))))))))))) else bif Nat.beq i 25 then some (.rd true 0 (.rd false 1 (.rd true 3 (.rd false 4 (.ef 2 [4] (.rd true 6 (.ef 5 [] (.ef 7 [] (.rd true 8 (.ef 9 [] .done)))))))))) else none }
theorem image_Decode_eq (t0 : Value) (w : World) (K : K1) : reads Try.prog image_Decode_ann Try.f28 #[t0] w K = image_Decode K t0 w := by kernel_rfl
theorem image_Decode_of {t0 : Value} {w : World} {K : K1} (h : image_Decode K t0 w) : Yld Try.prog n_image_Decode #[t0] w K :=
  yld_of mixed image_Decode_ann Try.func28 (by kernel_rfl) (image_Decode_eq t0 w K) h

/-! loam/graph.Equal: function 29 -/
def graph_Equal (K : K1) (t0 t1 : Value) (w : World) : Prop :=
 xBox Try.prog 25 t0 w fun t2 w =>
 xBox Try.prog 25 t1 w fun t3 w =>
 xFieldAddr Try.prog 25 t2 0 w fun t6 w =>
 xLoad Try.prog 22 t6 w fun t7 w =>
 xFieldAddr Try.prog 25 t3 0 w fun t8 w =>
 xLoad Try.prog 22 t8 w fun t9 w =>
 xCall Try.prog (fnv 76) [t7, t9, (fnv 77)] w fun t10 w =>
 xGuard t10 true (fun w K => xFieldAddr Try.prog 25 t2 1 w K) w fun t13 w =>
 xGuard t10 true (fun w K => xLoad Try.prog 23 t13 w K) w fun t14 w =>
 xGuard t10 true (fun w K => xFieldAddr Try.prog 25 t3 1 w K) w fun t15 w =>
 xGuard t10 true (fun w K => xLoad Try.prog 23 t15 w K) w fun t16 w =>
 xGuard t10 true (fun w K => xCall Try.prog (fnv 80) [t14, t16] w K) w fun t17 w =>
 xPick t10 t17 (.bool false) w fun t18 w =>
 K t18 w
abbrev n_graph_Equal : Nat := 29
def graph_Equal_ann : Ann := { loop := fun i => [], wr := fun i => [], told := fun i => [] }
theorem graph_Equal_eq (t0 t1 : Value) (w : World) (K : K1) : reads Try.prog graph_Equal_ann Try.f29 #[t0, t1] w K = graph_Equal K t0 t1 w := by kernel_rfl
theorem graph_Equal_of {t0 t1 : Value} {w : World} {K : K1} (h : graph_Equal K t0 t1 w) : Yld Try.prog n_graph_Equal #[t0, t1] w K :=
  yld_of mixed graph_Equal_ann Try.func29 (by kernel_rfl) (graph_Equal_eq t0 t1 w K) h

/-! loam/loamref17.Decode: function 30 -/
/-! loam/loamref17.Equal: function 31 -/
/-! loam/loamref17.Image: function 32 -/
/-! loam/graph.Trim: function 33 -/
def graph_Trim_j1 (K : K1) (nxt0 : List Value → World → Prop) (t8 t29 : Value) (w : World) : Prop :=
 xBin Try.prog .add 3 false t29 true (.int .i64 1) w fun t41_1 w =>
 nxt0 [t8, t41_1] w
def graph_Trim_j2 (K : K1) (nxt2 : List Value → World → Prop) (t46 : Value) (w : World) : Prop :=
 xBin Try.prog .add 3 false t46 true (.int .i64 1) w fun t63_1 w =>
 nxt2 [t63_1] w
def graph_Trim_l3 (K : K1) (nxt4 : List Value → World → Prop) (t4 t7 t11 t12 t65 t66 t67 : Value) (w : World) : Prop :=
 xBin Try.prog .lss 3 false t67 false t66 w fun t68_1 w =>
 xIf t68_1
 (xIndexAddr Try.prog 23 t65 t67 w fun t69_1 w =>
 xLoad Try.prog 74 t69_1 w fun t70_1 w =>
 xAlloc Try.prog 74 w fun t16_1 w =>
 xStore Try.prog 74 t16_1 t70_1 w fun _ w =>
 xSq w.drew fun w =>
 xPur w (fun w K => xFieldAddr Try.prog 25 t12 1 w K) fun t71_1 =>
 xRd w (fun K => xLoad Try.prog 23 t71_1 w K) fun t72_1 =>
 xPur w (fun w K => xFieldAddr Try.prog 74 t16_1 0 w K) fun t73_1 =>
 xRd w (fun K => xLoad Try.prog 9 t73_1 w K) fun t74_1 =>
 xPur w (fun w K => K t11 w) fun t75_1 =>
 xPur w (fun w K => xFieldAddr Try.prog 74 t16_1 1 w K) fun t76_1 =>
 xRd w (fun K => xLoad Try.prog 3 t76_1 w K) fun t77_1 =>
 xCall Try.prog t75_1 [t77_1] w fun t78_1 w =>
 xRe w (fun K => xLoad Try.prog 23 t71_1 w K) t72_1 (
 xRe w (fun K => xLoad Try.prog 9 t73_1 w K) t74_1 (
 xPur w (fun w K => xBuild Try.prog 74 [(0, t74_1), (1, t78_1)] w K) fun t79_1 =>
 xBuildSlice Try.prog 23 1 [(0, t79_1)] w fun t80_1 w =>
 xRe w (fun K => xLoad Try.prog 23 t71_1 w K) t72_1 (
 xBuiltin Try.prog .append #[23, 23] 23 [false, false] [t72_1, t80_1] w fun t81_1 w =>
 xPur w (fun w K => xFieldAddr Try.prog 25 t12 1 w K) fun t82_1 =>
 xStore Try.prog 23 t82_1 t81_1 w fun _x12 w =>
 xBin Try.prog .add 3 false t67 true (.int .i64 1) w fun t83_1 w =>
 nxt4 [t83_1] w))))
 (xSq w.drew fun w =>
 xRd w (fun K => xLoad Try.prog 25 t12 w K) fun t84 =>
 xRd w (fun K => xLoad Try.prog 66 t7 w K) fun t85 =>
 xStore Try.prog 25 t4 t84 w fun _x2 w =>
 xRe w (fun K => xLoad Try.prog 66 t7 w K) t85 (
 xPur w (fun w K => K t85 w) fun t5_1 =>
 xLoadR Try.prog 25 t4 w fun r0 =>
 K (.tuple #[r0, t5_1]) w))
def graph_Trim_l2 (K : K1) (nxt2 : List Value → World → Prop) (t2 t4 t6 t7 t11 t12 t44 t45 t46 : Value) (w : World) : Prop :=
 xBin Try.prog .lss 3 false t46 false t45 w fun t47_1 w =>
 xIf t47_1
 (xIndexAddr Try.prog 22 t44 t46 w fun t49_1 w =>
 xLoad Try.prog 72 t49_1 w fun t50_1 w =>
 xAlloc Try.prog 72 w fun t14_1 w =>
 xStore Try.prog 72 t14_1 t50_1 w fun _ w =>
 xIndexAddr Try.prog 147 t6 t46 w fun t53_1 w =>
 xLoad Try.prog 4 t53_1 w fun t54_1 w =>
 xIf t54_1
 (xSq w.drew fun w =>
 xPur w (fun w K => xFieldAddr Try.prog 25 t12 0 w K) fun t55_1 =>
 xRd w (fun K => xLoad Try.prog 22 t55_1 w K) fun t56_1 =>
 xRd w (fun K => xLoad Try.prog 72 t14_1 w K) fun t57_1 =>
 xPur w (fun w K => K t11 w) fun t58_1 =>
 xCall Try.prog (fnv 88) [t57_1, t58_1] w fun t59_1 w =>
 xRe w (fun K => xLoad Try.prog 22 t55_1 w K) t56_1 (
 xBuildSlice Try.prog 22 1 [(0, t59_1)] w fun t60_1 w =>
 xRe w (fun K => xLoad Try.prog 22 t55_1 w K) t56_1 (
 xBuiltin Try.prog .append #[22, 22] 22 [false, false] [t56_1, t60_1] w fun t61_1 w =>
 xPur w (fun w K => xFieldAddr Try.prog 25 t12 0 w K) fun t62_1 =>
 xStore Try.prog 22 t62_1 t61_1 w fun _x8 w =>
 graph_Trim_j2 K nxt2 t46 w)))
 (graph_Trim_j2 K nxt2 t46 w))
 (xFieldAddr Try.prog 25 t2 1 w fun t64 w =>
 xLoad Try.prog 23 t64 w fun t65 w =>
 xBuiltin Try.prog .len #[23] 3 [false] [t65] w fun t66 w =>
 xLoop [(.int .i64 0)] w [67] fun u w nxt4 =>
 graph_Trim_l3 K nxt4 t4 t7 t11 t12 t65 t66 (u 67) w)
def graph_Trim_l1 (K : K1) (nxt0 : List Value → World → Prop) (t2 t4 t6 t7 t8 t27 t28 t29 : Value) (w : World) : Prop :=
 xBin Try.prog .lss 3 false t29 false t28 w fun t30_1 w =>
 xIf t30_1
 (xIndexAddr Try.prog 147 t27 t29 w fun t32_1 w =>
 xLoad Try.prog 4 t32_1 w fun t33_1 w =>
 xIf t33_1
 (xBin Try.prog .add 3 false t8 true (.int .i64 1) w fun t36_1 w =>
 xLoad Try.prog 66 t7 w fun t37_1 w =>
 xIndexAddr Try.prog 66 t37_1 t29 w fun t40_1 w =>
 xStore Try.prog 3 t40_1 t36_1 w fun _ w =>
 graph_Trim_j1 K nxt0 t36_1 t29 w)
 (graph_Trim_j1 K nxt0 t8 t29 w))
 (xMakeFunc Try.prog (.func 87) [] [t7] w fun t42 w =>
 xAlloc Try.prog 25 w fun t12 w =>
 xFieldAddr Try.prog 25 t2 0 w fun t43 w =>
 xLoad Try.prog 22 t43 w fun t44 w =>
 xBuiltin Try.prog .len #[22] 3 [false] [t44] w fun t45 w =>
 xLoop [(.int .i64 0)] w [46] fun u w nxt2 =>
 graph_Trim_l2 K nxt2 t2 t4 t6 t7 t42 t12 t44 t45 (u 46) w)
def graph_Trim (K : K1) (t0 t1 : Value) (w : World) : Prop :=
 xBox Try.prog 25 t0 w fun t2 w =>
 xAlloc Try.prog 25 w fun t4 w =>
 xSq w.drew fun w =>
 xRd w (fun K => xLoad Try.prog 25 t2 w K) fun t17 =>
 xRd w (fun K => xLoad Try.prog 25 t2 w K) fun t18 =>
 xPur w (fun w K => K t1 w) fun t20 =>
 xCall Try.prog (fnv 86) [t18] w fun t19 w =>
 xRe w (fun K => xLoad Try.prog 25 t2 w K) t17 (
 xBuiltin Try.prog .append #[66, 66] 66 [false, false] [t19, t20] w fun t21 w =>
 xRe w (fun K => xLoad Try.prog 25 t2 w K) t17 (
 xCall Try.prog (fnv 85) [t17, t21] w fun t22 w =>
 xPur w (fun w K => K t22 w) fun t6 =>
 xFieldAddr Try.prog 25 t2 0 w fun t23 w =>
 xLoad Try.prog 22 t23 w fun t24 w =>
 xBuiltin Try.prog .len #[22] 3 [false] [t24] w fun t25 w =>
 xMakeSlice Try.prog 66 t25 t25 w fun t26 w =>
 xAlloc Try.prog 66 w fun t7 w =>
 xStore Try.prog 66 t7 t26 w fun _ w =>
 xBuiltin Try.prog .len #[147] 3 [false] [t6] w fun t28 w =>
 xLoop [(.int .i64 0), (.int .i64 0)] w [8, 29] fun u w nxt0 =>
 graph_Trim_l1 K nxt0 t2 t4 t6 t7 (u 8) t6 t28 (u 29) w))
abbrev n_graph_Trim : Nat := 33
def graph_Trim_ann : Ann := { loop := fun i => bif Nat.beq i 4 then [67] else bif Nat.beq i 2 then [46] else bif Nat.beq i 0 then [8, 29] else [], wr := fun i => bif Nat.beq i 4 then [16, 67, 68, 69, 70, 71, 72, 73, 74, 75, 76, 77, 78, 79, 80, 81, 82, 83] else bif Nat.beq i 2 then [13, 14, 46, 47, 48, 49, 50, 51, 52, 53, 54, 55, 56, 57, 58, 59, 60, 61, 62, 63] else bif Nat.beq i 0 then [8, 9, 10, 29, 30, 31, 32, 33, 34, 35, 36, 37, 38, 39, 40, 41] else [], told := fun i => bif Nat.beq i 1 then [(0, false, ⟨0, 131076, some 17⟩), (1, false, ⟨0, 262148, some 18⟩), (3, false, ⟨0, 1048578, some 20⟩), (2, false, ⟨2, 786432, some 19⟩), (4, false, ⟨12, 3670016, some 21⟩), (5, false, ⟨17, 6422528, some 22⟩), (6, false, ⟨63, 4194368, some 6⟩)] else bif Nat.beq i 17 then [(0, false, ⟨0, 36028797018968064, some 55⟩), (1, false, ⟨1, 108086391056891904, some 56⟩), (2, false, ⟨0, 144115188075872256, some 57⟩), (3, false, ⟨0, 288230376151713792, some 58⟩), (4, false, ⟨12, 1008806316530991104, some 59⟩), (5, false, ⟨16, 1729382256910270464, some 60⟩), (6, false, ⟨50, 3530822107858468864, some 61⟩), (7, false, ⟨127, 4611686018427392000, some 62⟩), (8, false, ⟨255, 6917529027641081856, none⟩)] else bif Nat.beq i 22 then [(0, false, ⟨0, 2361183241434822610944, some 71⟩), (1, false, ⟨1, 7083549724304467820544, some 72⟩), (2, false, ⟨0, 9444732965739290492928, some 73⟩), (3, false, ⟨4, 28334198897217871282176, some 74⟩), (4, false, ⟨0, 37778931862957161711616, some 75⟩), (5, false, ⟨0, 75557863725914323484672, some 76⟩), (6, false, ⟨32, 226673591177742970257408, some 77⟩), (7, false, ⟨80, 491126114218443102224384, some 78⟩), (8, false, ⟨136, 925583830642450461884416, some 79⟩), (9, false, ⟨256, 1813388729421943762059264, some 80⟩), (10, false, ⟨642, 3631499825326757169332224, some 81⟩), (11, false, ⟨2047, 4835703278458516698828800, some 82⟩), (12, false, ⟨4095, 7253554917687775048237056, none⟩)] else bif Nat.beq i 24 then [(0, false, ⟨0, 19342813113834066795302912, some 84⟩), (1, false, ⟨0, 38685626227668133590597760, some 85⟩), (2, false, ⟨1, 19342813113834066795298832, none⟩), (3, false, ⟨7, 38685626227668133590597664, some 5⟩)] else [], sq := fun i => bif Nat.beq i 1 then some (.rd false 0 (.rd false 1 (.rd true 3 (.ef 2 [0] (.ef 4 [0] (.ef 5 [] (.rd true 6 .done))))))) else bif Nat.beq i 17 then some (.rd true 0 (.rd false 1 (.rd false 2 (.rd true 3 (.ef 4 [1] (.ef 5 [1] (.ef 6 [] (.rd true 7 (.ef 8 [] .done))))))))) else bif Nat.beq i 22 then some (.rd true 0 (.rd false 1 (.rd true 2 (.rd false 3 (.rd true 4 (.rd true 5 (.rd false 6 (.ef 7 [1, 3] (.rd true 8 (.ef 9 [1] (.ef 10 [] (.rd true 11 (.ef 12 [] .done))))))))))))) else bif Nat.beq i 24 then some (.rd false 0 (.rd false 1 (.ef 2 [1] (.rd true 3 .done)))) else none }
theorem graph_Trim_eq (t0 t1 : Value) (w : World) (K : K1) : reads Try.prog graph_Trim_ann Try.f33 #[t0, t1] w K = graph_Trim K t0 t1 w := by kernel_rfl
theorem graph_Trim_of {t0 t1 : Value} {w : World} {K : K1} (h : graph_Trim K t0 t1 w) : Yld Try.prog n_graph_Trim #[t0, t1] w K :=
  yld_of mixed graph_Trim_ann Try.func33 (by kernel_rfl) (graph_Trim_eq t0 t1 w K) h

/-! loam/canon.Same: function 34 -/
def canon_Same (K : K1) (t0 t1 : Value) (w : World) : Prop :=
 xBox Try.prog 25 t0 w fun t2 w =>
 xBox Try.prog 25 t1 w fun t3 w =>
 xSq w.drew fun w =>
 xRd w (fun K => xLoad Try.prog 25 t2 w K) fun t5 =>
 xRd w (fun K => xLoad Try.prog 25 t3 w K) fun t7 =>
 xCall Try.prog (fnv 89) [t5] w fun t6 w =>
 xRe w (fun K => xLoad Try.prog 25 t3 w K) t7 (
 xCall Try.prog (fnv 89) [t7] w fun t8 w =>
 xCall Try.prog (fnv 29) [t6, t8] w fun t9 w =>
 xPur w (fun w K => K t9 w) fun t4 =>
 K t4 w)
abbrev n_canon_Same : Nat := 34
def canon_Same_ann : Ann := { loop := fun i => [], wr := fun i => [], told := fun i => bif Nat.beq i 1 then [(0, false, ⟨0, 36, some 5⟩), (2, false, ⟨0, 136, some 7⟩), (1, false, ⟨1, 96, some 6⟩), (3, false, ⟨6, 384, some 8⟩), (4, false, ⟨10, 832, some 9⟩), (5, false, ⟨31, 528, some 4⟩)] else [], sq := fun i => bif Nat.beq i 1 then some (.rd false 0 (.rd false 2 (.ef 1 [2] (.ef 3 [] (.ef 4 [] (.rd true 5 .done)))))) else none }
theorem canon_Same_eq (t0 t1 : Value) (w : World) (K : K1) : reads Try.prog canon_Same_ann Try.f34 #[t0, t1] w K = canon_Same K t0 t1 w := by kernel_rfl
theorem canon_Same_of {t0 t1 : Value} {w : World} {K : K1} (h : canon_Same K t0 t1 w) : Yld Try.prog n_canon_Same #[t0, t1] w K :=
  yld_of mixed canon_Same_ann Try.func34 (by kernel_rfl) (canon_Same_eq t0 t1 w K) h

/-! loam/loamref17.size: function 35 -/
/-! loam/loamref17.words: function 36 -/
/-! loam/loamref17.point: function 37 -/
/-! loam/loamref14.Pack: function 38 -/
/-! loam/check.size: function 39 -/
/-! slices.Clip[[]loam/check.Finding,loam/check.Finding]: function 40 -/
/-! loam/check.look: function 41 -/
/-! loam/check.name: function 42 -/
/-! (*loam/check.walk).add: function 43 -/
/-! (*loam/check.walk).points: function 44 -/
/-! loam/space.Of: function 45 -/
def space_Of (K : K1) (t0 t1 t2 t3 : Value) (w : World) : Prop :=
 xCall Try.prog (fnv 95) [t0, t1, t2, t3] w fun t17 w =>
 xUn Try.prog .not t17 w fun t18 w =>
 xIf t18
 (K (.tuple #[(.pointer none), (.int .i64 1)]) w)
 (xBuild Try.prog 102 [(0, t0), (1, t1), (2, t2), (3, t3)] w fun t23 w =>
 xBox Try.prog 102 t23 w fun t24 w =>
 xCall Try.prog (fnv 70) [t24] w fun t27 w =>
 xExtract Try.prog t27 0 w fun t28 w =>
 xExtract Try.prog t27 1 w fun t29 w =>
 xBin Try.prog .neq 53 false t29 true (.int .i64 0) w fun t31 w =>
 xIf t31
 (K (.tuple #[(.pointer none), t29]) w)
 (K (.tuple #[t24, (.int .i64 0)]) w))
abbrev n_space_Of : Nat := 45
def space_Of_ann : Ann := { loop := fun i => [], wr := fun i => [], told := fun i => [] }
theorem space_Of_eq (t0 t1 t2 t3 : Value) (w : World) (K : K1) : reads Try.prog space_Of_ann Try.f45 #[t0, t1, t2, t3] w K = space_Of K t0 t1 t2 t3 w := by kernel_rfl
theorem space_Of_of {t0 t1 t2 t3 : Value} {w : World} {K : K1} (h : space_Of K t0 t1 t2 t3 w) : Yld Try.prog n_space_Of #[t0, t1, t2, t3] w K :=
  yld_of mixed space_Of_ann Try.func45 (by kernel_rfl) (space_Of_eq t0 t1 t2 t3 w K) h

/-! loam/loamlaw15.Mem: function 46 -/
/-! (*loam/mem.Mem).Get: function 47 -/
def mem_Mem_Get (K : K1) (t0 t1 : Value) (w : World) : Prop :=
 xNilCheck t0 w fun t8 w =>
 xFieldAddr Try.prog 165 t8 0 w fun t9 w =>
 xLoad Try.prog 28 t9 w fun t10 w =>
 xBuiltin Try.prog .len #[28] 3 [false] [t10] w fun t11 w =>
 xCall Try.prog (fnv 96) [t1, (.int .i64 1), t11] w fun t12 w =>
 xUn Try.prog .not t12 w fun t13 w =>
 xIf t13
 (K (.tuple #[(c64 0), (.int .i64 1)]) w)
 (xNilCheck t0 w fun t15 w =>
 xFieldAddr Try.prog 165 t15 0 w fun t16 w =>
 xLoad Try.prog 28 t16 w fun t17 w =>
 xIndexAddr Try.prog 28 t17 t1 w fun t19 w =>
 xLoad Try.prog 69 t19 w fun t20 w =>
 K (.tuple #[t20, (.int .i64 0)]) w)
abbrev n_mem_Mem_Get : Nat := 47
def mem_Mem_Get_ann : Ann := { loop := fun i => [], wr := fun i => [], told := fun i => [] }
theorem mem_Mem_Get_eq (t0 t1 : Value) (w : World) (K : K1) : reads Try.prog mem_Mem_Get_ann Try.f47 #[t0, t1] w K = mem_Mem_Get K t0 t1 w := by kernel_rfl
theorem mem_Mem_Get_of {t0 t1 : Value} {w : World} {K : K1} (h : mem_Mem_Get K t0 t1 w) : Yld Try.prog n_mem_Mem_Get #[t0, t1] w K :=
  yld_of mixed mem_Mem_Get_ann Try.func47 (by kernel_rfl) (mem_Mem_Get_eq t0 t1 w K) h

/-! loam/loamref17.Found: function 48 -/
/-! loam/loamref14.Unpack: function 49 -/
/-! loam/loamref14.Points: function 50 -/
/-! (*loam/loamref14.Space).Pad: function 51 -/
/-! loam/loamref14.Size: function 52 -/
/-! (*loam/loamref14.Space).Objects: function 53 -/
/-! loam/graph.Check: function 54 -/
def graph_Check_l2 (K : K1) (nxt2 : List Value → World → Prop) (t1 t28 t29 : Value) (w : World) : Prop :=
 xBin Try.prog .lss 3 false t29 false t28 w fun t30_1 w =>
 xIf t30_1
 (xLoad Try.prog 25 t1 w fun t32_1 w =>
 xCall Try.prog (fnv 100) [t32_1, t29] w fun t34_1 w =>
 xBin Try.prog .neq 53 false t34_1 true (.int .i64 0) w fun t36_1 w =>
 xIf t36_1
 (K t34_1 w)
 (xBin Try.prog .add 3 false t29 true (.int .i64 1) w fun t38_1 w =>
 nxt2 [t38_1] w))
 (K (.int .i64 0) w)
def graph_Check_l1 (K : K1) (nxt0 : List Value → World → Prop) (t1 t9 t10 t11 : Value) (w : World) : Prop :=
 xBin Try.prog .lss 3 false t11 false t10 w fun t12_1 w =>
 xIf t12_1
 (xIndexAddr Try.prog 22 t9 t11 w fun t13_1 w =>
 xLoad Try.prog 72 t13_1 w fun t14_1 w =>
 xAlloc Try.prog 72 w fun t4_1 w =>
 xStore Try.prog 72 t4_1 t14_1 w fun _ w =>
 xLoad Try.prog 25 t1 w fun t15_1 w =>
 xLoad Try.prog 72 t4_1 w fun t16_1 w =>
 xCall Try.prog (fnv 99) [t15_1, t16_1] w fun t17_1 w =>
 xBin Try.prog .neq 53 false t17_1 true (.int .i64 0) w fun t19_1 w =>
 xIf t19_1
 (K t17_1 w)
 (xBin Try.prog .add 3 false t11 true (.int .i64 1) w fun t21_1 w =>
 nxt0 [t21_1] w))
 (xFieldAddr Try.prog 25 t1 1 w fun t22 w =>
 xLoad Try.prog 23 t22 w fun t23 w =>
 xBuiltin Try.prog .len #[23] 3 [false] [t23] w fun t24 w =>
 xBin Try.prog .gtr 3 false t24 true (.int .i64 64) w fun t25 w =>
 xIf t25
 (K (.int .i64 3) w)
 (xFieldAddr Try.prog 25 t1 1 w fun t26 w =>
 xLoad Try.prog 23 t26 w fun t27 w =>
 xBuiltin Try.prog .len #[23] 3 [false] [t27] w fun t28 w =>
 xLoop [(.int .i64 0)] w [29] fun u w nxt2 =>
 graph_Check_l2 K nxt2 t1 t28 (u 29) w))
def graph_Check (K : K1) (t0 : Value) (w : World) : Prop :=
 xBox Try.prog 25 t0 w fun t1 w =>
 xFieldAddr Try.prog 25 t1 0 w fun t8 w =>
 xLoad Try.prog 22 t8 w fun t9 w =>
 xBuiltin Try.prog .len #[22] 3 [false] [t9] w fun t10 w =>
 xLoop [(.int .i64 0)] w [11] fun u w nxt0 =>
 graph_Check_l1 K nxt0 t1 t9 t10 (u 11) w
abbrev n_graph_Check : Nat := 54
def graph_Check_ann : Ann := { loop := fun i => bif Nat.beq i 2 then [29] else bif Nat.beq i 0 then [11] else [], wr := fun i => bif Nat.beq i 2 then [2, 6, 7, 29, 30, 31, 32, 33, 34, 35, 36, 37, 38] else bif Nat.beq i 0 then [2, 4, 5, 11, 12, 13, 14, 15, 16, 17, 18, 19, 20, 21] else [], told := fun i => [] }
theorem graph_Check_eq (t0 : Value) (w : World) (K : K1) : reads Try.prog graph_Check_ann Try.f54 #[t0] w K = graph_Check K t0 w := by kernel_rfl
theorem graph_Check_of {t0 : Value} {w : World} {K : K1} (h : graph_Check K t0 w) : Yld Try.prog n_graph_Check #[t0] w K :=
  yld_of mixed graph_Check_ann Try.func54 (by kernel_rfl) (graph_Check_eq t0 w K) h

/-! loam/mem.New: function 55 -/
def mem_New (K : K1) (t0 : Value) (w : World) : Prop :=
 xBin Try.prog .lss 3 false t0 true (.int .i64 0) w fun t5 w =>
 xGuard t5 false (fun w K => K t0 w) w fun t7 w =>
 xGuard t5 false (fun w K => xBin Try.prog .gtr 3 false t7 true (.int .i64 8192) w K) w fun t8 w =>
 xPick t5 (.bool true) t8 w fun t9 w =>
 xIf t9
 (K (.tuple #[(.pointer none), (.int .i64 1)]) w)
 (xMakeSlice Try.prog 28 t0 t0 w fun t11 w =>
 xBuild Try.prog 165 [(0, t11)] w fun t12 w =>
 xBox Try.prog 165 t12 w fun t13 w =>
 K (.tuple #[t13, (.int .i64 0)]) w)
abbrev n_mem_New : Nat := 55
def mem_New_ann : Ann := { loop := fun i => [], wr := fun i => [], told := fun i => [] }
theorem mem_New_eq (t0 : Value) (w : World) (K : K1) : reads Try.prog mem_New_ann Try.f55 #[t0] w K = mem_New K t0 w := by kernel_rfl
theorem mem_New_of {t0 : Value} {w : World} {K : K1} (h : mem_New K t0 w) : Yld Try.prog n_mem_New #[t0] w K :=
  yld_of mixed mem_New_ann Try.func55 (by kernel_rfl) (mem_New_eq t0 w K) h

/-! (*loam/mem.Mem).Set: function 56 -/
def mem_Mem_Set (K : K1) (t0 t1 t2 : Value) (w : World) : Prop :=
 xNilCheck t0 w fun t9 w =>
 xFieldAddr Try.prog 165 t9 0 w fun t10 w =>
 xLoad Try.prog 28 t10 w fun t11 w =>
 xBuiltin Try.prog .len #[28] 3 [false] [t11] w fun t12 w =>
 xCall Try.prog (fnv 96) [t1, (.int .i64 1), t12] w fun t13 w =>
 xUn Try.prog .not t13 w fun t14 w =>
 xIf t14
 (K (.int .i64 1) w)
 (xNilCheck t0 w fun t16 w =>
 xFieldAddr Try.prog 165 t16 0 w fun t17 w =>
 xLoad Try.prog 28 t17 w fun t18 w =>
 xIndexAddr Try.prog 28 t18 t1 w fun t21 w =>
 xStore Try.prog 69 t21 t2 w fun _ w =>
 K (.int .i64 0) w)
abbrev n_mem_Mem_Set : Nat := 56
def mem_Mem_Set_ann : Ann := { loop := fun i => [], wr := fun i => [], told := fun i => [] }
theorem mem_Mem_Set_eq (t0 t1 t2 : Value) (w : World) (K : K1) : reads Try.prog mem_Mem_Set_ann Try.f56 #[t0, t1, t2] w K = mem_Mem_Set K t0 t1 t2 w := by kernel_rfl
theorem mem_Mem_Set_of {t0 t1 t2 : Value} {w : World} {K : K1} (h : mem_Mem_Set K t0 t1 t2 w) : Yld Try.prog n_mem_Mem_Set #[t0, t1, t2] w K :=
  yld_of mixed mem_Mem_Set_ann Try.func56 (by kernel_rfl) (mem_Mem_Set_eq t0 t1 t2 w K) h

/-! loam/bits.With: function 57 -/
def bits_With (K : K1) (t0 t1 t2 t3 : Value) (w : World) : Prop :=
 xCall Try.prog (fnv 101) [t1, t2] w fun t14 w =>
 xExtract Try.prog t14 0 w fun t15 w =>
 xExtract Try.prog t14 1 w fun t16 w =>
 xUn Try.prog .not t16 w fun t18 w =>
 xIf t18
 (K t0 w)
 (xBin Try.prog .andNot 69 false t0 false t15 w fun t22 w =>
 xBin Try.prog .shl 69 false t3 false t1 w fun t25 w =>
 xBin Try.prog .and 69 false t25 false t15 w fun t27 w =>
 xBin Try.prog .or 69 false t22 false t27 w fun t28 w =>
 K t28 w)
abbrev n_bits_With : Nat := 57
def bits_With_ann : Ann := { loop := fun i => [], wr := fun i => [], told := fun i => [] }
theorem bits_With_eq (t0 t1 t2 t3 : Value) (w : World) (K : K1) : reads Try.prog bits_With_ann Try.f57 #[t0, t1, t2, t3] w K = bits_With K t0 t1 t2 t3 w := by kernel_rfl
theorem bits_With_of {t0 t1 t2 t3 : Value} {w : World} {K : K1} (h : bits_With K t0 t1 t2 t3 w) : Yld Try.prog n_bits_With #[t0, t1, t2, t3] w K :=
  yld_of mixed bits_With_ann Try.func57 (by kernel_rfl) (bits_With_eq t0 t1 t2 t3 w K) h

/-! (*loam/mem.Mem).Len: function 58 -/
def mem_Mem_Len (K : K1) (t0 : Value) (w : World) : Prop :=
 xNilCheck t0 w fun t4 w =>
 xFieldAddr Try.prog 165 t4 0 w fun t5 w =>
 xLoad Try.prog 28 t5 w fun t6 w =>
 xBuiltin Try.prog .len #[28] 3 [false] [t6] w fun t7 w =>
 K t7 w
abbrev n_mem_Mem_Len : Nat := 58
def mem_Mem_Len_ann : Ann := { loop := fun i => [], wr := fun i => [], told := fun i => [] }
theorem mem_Mem_Len_eq (t0 : Value) (w : World) (K : K1) : reads Try.prog mem_Mem_Len_ann Try.f58 #[t0] w K = mem_Mem_Len K t0 w := by kernel_rfl
theorem mem_Mem_Len_of {t0 : Value} {w : World} {K : K1} (h : mem_Mem_Len K t0 w) : Yld Try.prog n_mem_Mem_Len #[t0] w K :=
  yld_of mixed mem_Mem_Len_ann Try.func58 (by kernel_rfl) (mem_Mem_Len_eq t0 w K) h

/-! loam/space.New: function 59 -/
def space_New (K : K1) (t0 t1 t2 : Value) (w : World) : Prop :=
 xCall Try.prog (fnv 95) [t0, t1, t1, t2] w fun t12 w =>
 xUn Try.prog .not t12 w fun t13 w =>
 xIf t13
 (K (.tuple #[(.pointer none), (.int .i64 1)]) w)
 (xBuild Try.prog 102 [(0, t0), (1, t1), (2, t1), (3, t2)] w fun t18 w =>
 xBox Try.prog 102 t18 w fun t19 w =>
 K (.tuple #[t19, (.int .i64 0)]) w)
abbrev n_space_New : Nat := 59
def space_New_ann : Ann := { loop := fun i => [], wr := fun i => [], told := fun i => [] }
theorem space_New_eq (t0 t1 t2 : Value) (w : World) (K : K1) : reads Try.prog space_New_ann Try.f59 #[t0, t1, t2] w K = space_New K t0 t1 t2 w := by kernel_rfl
theorem space_New_of {t0 t1 t2 : Value} {w : World} {K : K1} (h : space_New K t0 t1 t2 w) : Yld Try.prog n_space_New #[t0, t1, t2] w K :=
  yld_of mixed space_New_ann Try.func59 (by kernel_rfl) (space_New_eq t0 t1 t2 w K) h

/-! (*loam/space.Space).Alloc: function 60 -/
def space_Space_Alloc_l1 (K : K1) (nxt1 : List Value → World → Prop) (t0 t8 t9 : Value) (w : World) : Prop :=
 xNilCheck t0 w fun t52_1 w =>
 xFieldAddr Try.prog 102 t52_1 2 w fun t53_1 w =>
 xLoad Try.prog 3 t53_1 w fun t54_1 w =>
 xBin Try.prog .lss 3 false t9 false t54_1 w fun t55_1 w =>
 xIf t55_1
 (xNilCheck t0 w fun t59_1 w =>
 xFieldAddr Try.prog 102 t59_1 0 w fun t60_1 w =>
 xLoad Try.prog 99 t60_1 w fun t61_1 w =>
 xCall Try.prog (fnv 56) [t61_1, t9, (c64 0)] w fun t63_1 w =>
 xBin Try.prog .add 3 false t9 true (.int .i64 1) w fun t57_1 w =>
 nxt1 [t57_1] w)
 (K (.tuple #[t8, (.int .i64 0)]) w)
def space_Space_Alloc (K : K1) (t0 t1 : Value) (w : World) : Prop :=
 xBox Try.prog 123 t1 w fun t3 w =>
 xLoad Try.prog 123 t3 w fun t11 w =>
 xCall Try.prog (fnv 102) [t11] w fun t12 w =>
 xExtract Try.prog t12 0 w fun t13 w =>
 xExtract Try.prog t12 1 w fun t14 w =>
 xBin Try.prog .neq 53 false t14 true (.int .i64 0) w fun t17 w =>
 xGuard t17 false (fun w K => xFieldAddr Try.prog 123 t3 2 w K) w fun t19 w =>
 xGuard t17 false (fun w K => xLoad Try.prog 4 t19 w K) w fun t20 w =>
 xPick t17 (.bool true) t20 w fun t21 w =>
 xIf t21
 (K (.tuple #[(.int .i64 0), (.int .i64 1)]) w)
 (xLoad Try.prog 123 t3 w fun t23 w =>
 xCall Try.prog (fnv 103) [t23] w fun t24 w =>
 xCall Try.prog (fnv 104) [t0] w fun t26 w =>
 xBin Try.prog .gtr 3 false t24 false t26 w fun t27 w =>
 xIf t27
 (K (.tuple #[(.int .i64 0), (.int .i64 6)]) w)
 (xNilCheck t0 w fun t29 w =>
 xFieldAddr Try.prog 102 t29 2 w fun t30 w =>
 xLoad Try.prog 3 t30 w fun t31 w =>
 xNilCheck t0 w fun t33 w =>
 xFieldAddr Try.prog 102 t33 0 w fun t34 w =>
 xLoad Try.prog 99 t34 w fun t35 w =>
 xCall Try.prog (fnv 56) [t35, t31, t13] w fun t38 w =>
 xSq w.drew fun w =>
 xPur w (fun w K => K t0 w) fun t39 =>
 xPur w (fun w K => xNilCheck t39 w K) fun t40 =>
 xPur w (fun w K => xFieldAddr Try.prog 102 t40 2 w K) fun t41 =>
 xRd w (fun K => xLoad Try.prog 3 t41 w K) fun t42 =>
 xRd w (fun K => xLoad Try.prog 123 t3 w K) fun t43 =>
 xCall Try.prog (fnv 103) [t43] w fun t44 w =>
 xRe w (fun K => xLoad Try.prog 3 t41 w K) t42 (
 xPur w (fun w K => xBin Try.prog .add 3 false t42 false t44 w K) fun t45 =>
 xPur w (fun w K => xNilCheck t39 w K) fun t46 =>
 xPur w (fun w K => xFieldAddr Try.prog 102 t46 2 w K) fun t47 =>
 xStore Try.prog 3 t47 t45 w fun _x9 w =>
 xBin Try.prog .add 3 false t31 true (.int .i64 1) w fun t49 w =>
 xLoop [t49] w [9] fun u w nxt1 =>
 space_Space_Alloc_l1 K nxt1 t0 t31 (u 9) w)))
abbrev n_space_Space_Alloc : Nat := 60
def space_Space_Alloc_ann : Ann := { loop := fun i => bif Nat.beq i 1 then [9] else [], wr := fun i => bif Nat.beq i 1 then [9, 50, 51, 52, 53, 54, 55, 56, 57, 58, 59, 60, 61, 62, 63] else [], told := fun i => bif Nat.beq i 8 then [(0, false, ⟨0, 549755813889, some 39⟩), (1, false, ⟨1, 1649267441664, some 40⟩), (2, false, ⟨2, 3298534883328, some 41⟩), (3, false, ⟨4, 6597069766656, some 42⟩), (4, false, ⟨0, 8796093022216, some 43⟩), (5, false, ⟨16, 26388279066624, some 44⟩), (6, false, ⟨40, 57174604644352, some 45⟩), (7, false, ⟨127, 70918499991552, some 46⟩), (8, false, ⟨255, 211106232532992, some 47⟩), (9, false, ⟨383, 175921860444160, none⟩)] else [], sq := fun i => bif Nat.beq i 8 then some (.rd true 0 (.rd true 1 (.rd true 2 (.rd false 3 (.rd false 4 (.ef 5 [3] (.rd true 6 (.rd true 7 (.rd true 8 (.ef 9 [] .done)))))))))) else none }
theorem space_Space_Alloc_eq (t0 t1 : Value) (w : World) (K : K1) : reads Try.prog space_Space_Alloc_ann Try.f60 #[t0, t1] w K = space_Space_Alloc K t0 t1 w := by kernel_rfl
theorem space_Space_Alloc_of {t0 t1 : Value} {w : World} {K : K1} (h : space_Space_Alloc K t0 t1 w) : Yld Try.prog n_space_Space_Alloc #[t0, t1] w K :=
  yld_of mixed space_Space_Alloc_ann Try.func60 (by kernel_rfl) (space_Space_Alloc_eq t0 t1 w K) h

/-! loam/image.Encode$1: function 61 -/
def image_Encode_1 (K : K1) (t0 t1 : Value) (w : World) : Prop :=
 xBin Try.prog .eql 3 false t0 true (.int .i64 0) w fun t5 w =>
 xIf t5
 (K (c64 0) w)
 (xLoad Try.prog 66 t1 w fun t6 w =>
 xBin Try.prog .sub 3 false t0 true (.int .i64 1) w fun t8 w =>
 xIndexAddr Try.prog 66 t6 t8 w fun t9 w =>
 xLoad Try.prog 3 t9 w fun t10 w =>
 xBin Try.prog .add 3 false t10 true (.int .i64 1) w fun t11 w =>
 xConv Try.prog 3 69 t11 w fun t12 w =>
 K t12 w)
abbrev n_image_Encode_1 : Nat := 61
def image_Encode_1_ann : Ann := { loop := fun i => [], wr := fun i => [], told := fun i => [] }
theorem image_Encode_1_eq (t0 t1 : Value) (w : World) (K : K1) : reads Try.prog image_Encode_1_ann Try.f61 #[t0, t1] w K = image_Encode_1 K t0 t1 w := by kernel_rfl
theorem image_Encode_1_of {t0 t1 : Value} {w : World} {K : K1} (h : image_Encode_1 K t0 t1 w) : Yld Try.prog n_image_Encode_1 #[t0, t1] w K :=
  yld_of mixed image_Encode_1_ann Try.func61 (by kernel_rfl) (image_Encode_1_eq t0 t1 w K) h

/-! loam/image.node: function 62 -/
def image_node_l1 (K : K1) (nxt0 : List Value → World → Prop) (t0 t1 t3 t6 t11 t12 t13 : Value) (w : World) : Prop :=
 xBin Try.prog .lss 3 false t13 false t12 w fun t14_1 w =>
 xIf t14_1
 (xIndexAddr Try.prog 66 t11 t13 w fun t16_1 w =>
 xLoad Try.prog 3 t16_1 w fun t17_1 w =>
 xBin Try.prog .add 3 false t1 true (.int .i64 1) w fun t20_1 w =>
 xBin Try.prog .add 3 false t20_1 false t13 w fun t22_1 w =>
 xCall Try.prog t3 [t17_1] w fun t25_1 w =>
 xCall Try.prog (fnv 56) [t0, t22_1, t25_1] w fun t26_1 w =>
 xBin Try.prog .add 3 false t13 true (.int .i64 1) w fun t27_1 w =>
 nxt0 [t27_1] w)
 (xBin Try.prog .add 3 false t1 true (.int .i64 1) w fun t30 w =>
 xFieldAddr Try.prog 72 t6 0 w fun t31 w =>
 xLoad Try.prog 66 t31 w fun t32 w =>
 xBuiltin Try.prog .len #[66] 3 [false] [t32] w fun t33 w =>
 xBin Try.prog .add 3 false t30 false t33 w fun t34 w =>
 xBin Try.prog .mul 3 false t34 true (.int .i64 8) w fun t35 w =>
 xFieldAddr Try.prog 72 t6 1 w fun t36 w =>
 xLoad Try.prog 70 t36 w fun t37 w =>
 xCall Try.prog (fnv 105) [t0, t35, t37] w fun t38 w =>
 K (.tuple #[]) w)
def image_node (K : K1) (t0 t1 t2 t3 : Value) (w : World) : Prop :=
 xBox Try.prog 72 t2 w fun t6 w =>
 xFieldAddr Try.prog 72 t6 0 w fun t10 w =>
 xLoad Try.prog 66 t10 w fun t11 w =>
 xBuiltin Try.prog .len #[66] 3 [false] [t11] w fun t12 w =>
 xLoop [(.int .i64 0)] w [13] fun u w nxt0 =>
 image_node_l1 K nxt0 t0 t1 t3 t6 t11 t12 (u 13) w
abbrev n_image_node : Nat := 62
def image_node_ann : Ann := { loop := fun i => bif Nat.beq i 0 then [13] else [], wr := fun i => bif Nat.beq i 0 then [8, 9, 13, 14, 15, 16, 17, 18, 19, 20, 21, 22, 23, 24, 25, 26, 27] else [], told := fun i => [] }
theorem image_node_eq (t0 t1 t2 t3 : Value) (w : World) (K : K1) : reads Try.prog image_node_ann Try.f62 #[t0, t1, t2, t3] w K = image_node K t0 t1 t2 t3 w := by kernel_rfl
theorem image_node_of {t0 t1 t2 t3 : Value} {w : World} {K : K1} (h : image_node K t0 t1 t2 t3 w) : Yld Try.prog n_image_node #[t0, t1, t2, t3] w K :=
  yld_of mixed image_node_ann Try.func62 (by kernel_rfl) (image_node_eq t0 t1 t2 t3 w K) h

/-! loam/image.root: function 63 -/
def image_root (K : K1) (t0 t1 t2 t3 : Value) (w : World) : Prop :=
 xCall Try.prog (fnv 93) [t2] w fun t12 w =>
 xExtract Try.prog t12 0 w fun t13 w =>
 xExtract Try.prog t12 1 w fun t14 w =>
 xAlloc Try.prog 157 w fun t8 w =>
 xStore Try.prog 157 t8 t13 w fun _ w =>
 xBin Try.prog .mul 3 false t1 true (.int .i64 8) w fun t17 w =>
 xSlice Try.prog 157 t8 none none none w fun t18 w =>
 xCall Try.prog (fnv 105) [t0, t17, t18] w fun t19 w =>
 xBin Try.prog .add 3 false t1 true (.int .i64 4) w fun t22 w =>
 xCall Try.prog (fnv 56) [t0, t22, t3] w fun t24 w =>
 K (.tuple #[]) w
abbrev n_image_root : Nat := 63
def image_root_ann : Ann := { loop := fun i => [], wr := fun i => [], told := fun i => [] }
theorem image_root_eq (t0 t1 t2 t3 : Value) (w : World) (K : K1) : reads Try.prog image_root_ann Try.f63 #[t0, t1, t2, t3] w K = image_root K t0 t1 t2 t3 w := by kernel_rfl
theorem image_root_of {t0 t1 t2 t3 : Value} {w : World} {K : K1} (h : image_root K t0 t1 t2 t3 w) : Yld Try.prog n_image_root #[t0, t1, t2, t3] w K :=
  yld_of mixed image_root_ann Try.func63 (by kernel_rfl) (image_root_eq t0 t1 t2 t3 w K) h

/-! (*loam/mem.Mem).Words: function 64 -/
def mem_Mem_Words (K : K1) (t0 : Value) (w : World) : Prop :=
 xNilCheck t0 w fun t4 w =>
 xFieldAddr Try.prog 165 t4 0 w fun t5 w =>
 xLoad Try.prog 28 t5 w fun t6 w =>
 xCall Try.prog (fnv 107) [t6] w fun t7 w =>
 xCall Try.prog (fnv 106) [t7] w fun t8 w =>
 K t8 w
abbrev n_mem_Mem_Words : Nat := 64
def mem_Mem_Words_ann : Ann := { loop := fun i => [], wr := fun i => [], told := fun i => [] }
theorem mem_Mem_Words_eq (t0 : Value) (w : World) (K : K1) : reads Try.prog mem_Mem_Words_ann Try.f64 #[t0] w K = mem_Mem_Words K t0 w := by kernel_rfl
theorem mem_Mem_Words_of {t0 : Value} {w : World} {K : K1} (h : mem_Mem_Words K t0 w) : Yld Try.prog n_mem_Mem_Words #[t0] w K :=
  yld_of mixed mem_Mem_Words_ann Try.func64 (by kernel_rfl) (mem_Mem_Words_eq t0 w K) h

/-! loam/loamref17.Good: function 65 -/
def loamref17_Good_l1 (K : K1) (nxt0 : List Value → World → Prop) (t0 t3 : Value) (w : World) : Prop :=
 xBuiltin Try.prog .len #[9] 3 [false] [t0] w fun t14_1 w =>
 xBin Try.prog .lss 3 false t3 false t14_1 w fun t15_1 w =>
 xIf t15_1
 (xIndex Try.prog 9 t0 t3 w fun t20_1 w =>
 xBin Try.prog .eql 5 false t20_1 true (c8 0) w fun t21_1 w =>
 xIf t21_1
 (K (.bool false) w)
 (xBin Try.prog .add 3 false t3 true (.int .i64 1) w fun t17_1 w =>
 nxt0 [t17_1] w))
 (K (.bool true) w)
def loamref17_Good (K : K1) (t0 : Value) (w : World) : Prop :=
 xBuiltin Try.prog .len #[9] 3 [false] [t0] w fun t5 w =>
 xBin Try.prog .lss 3 false t5 true (.int .i64 1) w fun t6 w =>
 xGuard t6 false (fun w K => K t0 w) w fun t8 w =>
 xGuard t6 false (fun w K => xBuiltin Try.prog .len #[9] 3 [false] [t8] w K) w fun t9 w =>
 xGuard t6 false (fun w K => xBin Try.prog .gtr 3 false t9 true (.int .i64 32) w K) w fun t10 w =>
 xPick t6 (.bool true) t10 w fun t11 w =>
 xIf t11
 (K (.bool false) w)
 (xLoop [(.int .i64 0)] w [3] fun u w nxt0 =>
 loamref17_Good_l1 K nxt0 t0 (u 3) w)
abbrev n_loamref17_Good : Nat := 65
def loamref17_Good_ann : Ann := { loop := fun i => bif Nat.beq i 0 then [3] else [], wr := fun i => bif Nat.beq i 0 then [2, 3, 12, 13, 14, 15, 16, 17, 18, 19, 20, 21] else [], told := fun i => [] }
theorem loamref17_Good_eq (t0 : Value) (w : World) (K : K1) : reads Try.prog loamref17_Good_ann Try.f65 #[t0] w K = loamref17_Good K t0 w := by kernel_rfl
theorem loamref17_Good_of {t0 : Value} {w : World} {K : K1} (h : loamref17_Good K t0 w) : Yld Try.prog n_loamref17_Good #[t0] w K :=
  yld_of mixed loamref17_Good_ann Try.func65 (by kernel_rfl) (loamref17_Good_eq t0 w K) h

/-! loam/graph.Words: function 66 -/
def graph_Words_l1 (K : K1) (nxt0 : List Value → World → Prop) (t3 t7 t8 t9 : Value) (w : World) : Prop :=
 xBin Try.prog .lss 3 false t9 false t8 w fun t10_1 w =>
 xIf t10_1
 (xIndexAddr Try.prog 22 t7 t9 w fun t11_1 w =>
 xLoad Try.prog 72 t11_1 w fun t12_1 w =>
 xAlloc Try.prog 72 w fun t5_1 w =>
 xStore Try.prog 72 t5_1 t12_1 w fun _ w =>
 xFieldAddr Try.prog 72 t5_1 0 w fun t14_1 w =>
 xLoad Try.prog 66 t14_1 w fun t15_1 w =>
 xBuiltin Try.prog .len #[66] 3 [false] [t15_1] w fun t16_1 w =>
 xFieldAddr Try.prog 72 t5_1 1 w fun t17_1 w =>
 xLoad Try.prog 70 t17_1 w fun t18_1 w =>
 xBuiltin Try.prog .len #[70] 3 [false] [t18_1] w fun t19_1 w =>
 xBuild Try.prog 123 [(0, t16_1), (1, t19_1)] w fun t20_1 w =>
 xCall Try.prog (fnv 103) [t20_1] w fun t21_1 w =>
 xBin Try.prog .add 3 false t3 false t21_1 w fun t22_1 w =>
 xBin Try.prog .add 3 false t9 true (.int .i64 1) w fun t23_1 w =>
 nxt0 [t22_1, t23_1] w)
 (K t3 w)
def graph_Words (K : K1) (t0 : Value) (w : World) : Prop :=
 xBox Try.prog 25 t0 w fun t1 w =>
 xFieldAddr Try.prog 25 t1 0 w fun t6 w =>
 xLoad Try.prog 22 t6 w fun t7 w =>
 xBuiltin Try.prog .len #[22] 3 [false] [t7] w fun t8 w =>
 xLoop [(.int .i64 0), (.int .i64 0)] w [3, 9] fun u w nxt0 =>
 graph_Words_l1 K nxt0 (u 3) t7 t8 (u 9) w
abbrev n_graph_Words : Nat := 66
def graph_Words_ann : Ann := { loop := fun i => bif Nat.beq i 0 then [3, 9] else [], wr := fun i => bif Nat.beq i 0 then [3, 5, 9, 10, 11, 12, 13, 14, 15, 16, 17, 18, 19, 20, 21, 22, 23] else [], told := fun i => [] }
theorem graph_Words_eq (t0 : Value) (w : World) (K : K1) : reads Try.prog graph_Words_ann Try.f66 #[t0] w K = graph_Words K t0 w := by kernel_rfl
theorem graph_Words_of {t0 : Value} {w : World} {K : K1} (h : graph_Words K t0 w) : Yld Try.prog n_graph_Words #[t0] w K :=
  yld_of mixed graph_Words_ann Try.func66 (by kernel_rfl) (graph_Words_eq t0 w K) h

/-! loam/loamref17.Words: function 67 -/
/-! loam/mem.Of: function 68 -/
def mem_Of (K : K1) (t0 : Value) (w : World) : Prop :=
 xBuiltin Try.prog .len #[28] 3 [false] [t0] w fun t5 w =>
 xBin Try.prog .gtr 3 false t5 true (.int .i64 8192) w fun t6 w =>
 xIf t6
 (K (.tuple #[(.pointer none), (.int .i64 1)]) w)
 (xCall Try.prog (fnv 107) [t0] w fun t8 w =>
 xBuild Try.prog 165 [(0, t8)] w fun t9 w =>
 xBox Try.prog 165 t9 w fun t10 w =>
 K (.tuple #[t10, (.int .i64 0)]) w)
abbrev n_mem_Of : Nat := 68
def mem_Of_ann : Ann := { loop := fun i => [], wr := fun i => [], told := fun i => [] }
theorem mem_Of_eq (t0 : Value) (w : World) (K : K1) : reads Try.prog mem_Of_ann Try.f68 #[t0] w K = mem_Of K t0 w := by kernel_rfl
theorem mem_Of_of {t0 : Value} {w : World} {K : K1} (h : mem_Of K t0 w) : Yld Try.prog n_mem_Of #[t0] w K :=
  yld_of mixed mem_Of_ann Try.func68 (by kernel_rfl) (mem_Of_eq t0 w K) h

/-! loam/bits.Field: function 69 -/
def bits_Field (K : K1) (t0 t1 t2 : Value) (w : World) : Prop :=
 xCall Try.prog (fnv 101) [t1, t2] w fun t12 w =>
 xExtract Try.prog t12 0 w fun t13 w =>
 xExtract Try.prog t12 1 w fun t14 w =>
 xUn Try.prog .not t14 w fun t16 w =>
 xIf t16
 (K (c64 0) w)
 (xBin Try.prog .and 69 false t0 false t13 w fun t19 w =>
 xBin Try.prog .shr 69 false t19 false t1 w fun t21 w =>
 K t21 w)
abbrev n_bits_Field : Nat := 69
def bits_Field_ann : Ann := { loop := fun i => [], wr := fun i => [], told := fun i => [] }
theorem bits_Field_eq (t0 t1 t2 : Value) (w : World) (K : K1) : reads Try.prog bits_Field_ann Try.f69 #[t0, t1, t2] w K = bits_Field K t0 t1 t2 w := by kernel_rfl
theorem bits_Field_of {t0 t1 t2 : Value} {w : World} {K : K1} (h : bits_Field K t0 t1 t2 w) : Yld Try.prog n_bits_Field #[t0, t1, t2] w K :=
  yld_of mixed bits_Field_ann Try.func69 (by kernel_rfl) (bits_Field_eq t0 t1 t2 w K) h

/-! (*loam/space.Space).Objects: function 70 -/
def space_Space_Objects_l1 (K : K1) (nxt0 : List Value → World → Prop) (t0 t4 t5 : Value) (w : World) : Prop :=
 xNilCheck t0 w fun t14_1 w =>
 xFieldAddr Try.prog 102 t14_1 2 w fun t15_1 w =>
 xLoad Try.prog 3 t15_1 w fun t16_1 w =>
 xBin Try.prog .lss 3 false t5 false t16_1 w fun t17_1 w =>
 xIf t17_1
 (xCall Try.prog (fnv 108) [t0, t5] w fun t21_1 w =>
 xExtract Try.prog t21_1 0 w fun t22_1 w =>
 xExtract Try.prog t21_1 1 w fun t23_1 w =>
 xAlloc Try.prog 123 w fun t6_1 w =>
 xStore Try.prog 123 t6_1 t22_1 w fun _ w =>
 xSq w.drew fun w =>
 xPur w (fun w K => K t23_1 w) fun t24_1 =>
 xPur w (fun w K => xBin Try.prog .neq 53 false t24_1 true (.int .i64 0) w K) fun t25_1 =>
 xPur w (fun w K => K t25_1 w) fun t26_1 =>
 xPur w (fun w K => xGuard t26_1 false (fun w K => xFieldAddr Try.prog 123 t6_1 2 w K) w K) fun t27_1 =>
 xRd w (fun K => xGuard t26_1 false (fun w K => xLoad Try.prog 4 t27_1 w K) w K) fun t28_1 =>
 xPur w (fun w K => xPick t26_1 (.bool true) t28_1 w K) fun t29_1 =>
 xPur w (fun w K => K t29_1 w) fun t30_1 =>
 xRd w (fun K => xGuard t30_1 false (fun w K => xLoad Try.prog 123 t6_1 w K) w K) fun t31_1 =>
 xPur w (fun w K => xGuard t30_1 false (fun w K => K t0 w) w K) fun t33_1 =>
 xPur w (fun w K => xGuard t30_1 false (fun w K => xNilCheck t33_1 w K) w K) fun t34_1 =>
 xPur w (fun w K => xGuard t30_1 false (fun w K => xFieldAddr Try.prog 102 t34_1 2 w K) w K) fun t35_1 =>
 xRd w (fun K => xGuard t30_1 false (fun w K => xLoad Try.prog 3 t35_1 w K) w K) fun t36_1 =>
 xPur w (fun w K => xGuard t30_1 false (fun w K => K t5 w) w K) fun t37_1 =>
 xPur w (fun w K => xGuard t30_1 false (fun w K => xBin Try.prog .sub 3 false t36_1 false t37_1 w K) w K) fun t38_1 =>
 xGuard t30_1 false (fun w K => xCall Try.prog (fnv 103) [t31_1] w K) w fun t32_1 w =>
 xRe w (fun K => xGuard t30_1 false (fun w K => xLoad Try.prog 3 t35_1 w K) w K) t36_1 (
 xPur w (fun w K => xGuard t30_1 false (fun w K => xBin Try.prog .gtr 3 false t32_1 false t38_1 w K) w K) fun t39_1 =>
 xPur w (fun w K => xPick t30_1 (.bool true) t39_1 w K) fun t40_1 =>
 xIf t40_1
 (K (.tuple #[(.slice none 0 0), (.int .i64 2)]) w)
 (xBuildSlice Try.prog 66 1 [(0, t5)] w fun t43_1 w =>
 xBuiltin Try.prog .append #[66, 66] 66 [false, false] [t4, t43_1] w fun t44_1 w =>
 xLoad Try.prog 123 t6_1 w fun t46_1 w =>
 xCall Try.prog (fnv 103) [t46_1] w fun t47_1 w =>
 xBin Try.prog .add 3 false t5 false t47_1 w fun t48_1 w =>
 nxt0 [t44_1, t48_1] w)))
 (xCall Try.prog (fnv 109) [t4] w fun t50 w =>
 K (.tuple #[t50, (.int .i64 0)]) w)
def space_Space_Objects (K : K1) (t0 : Value) (w : World) : Prop :=
 xNilCheck t0 w fun t9 w =>
 xFieldAddr Try.prog 102 t9 1 w fun t10 w =>
 xLoad Try.prog 3 t10 w fun t11 w =>
 xLoop [(.slice none 0 0), t11] w [4, 5] fun u w nxt0 =>
 space_Space_Objects_l1 K nxt0 t0 (u 4) (u 5) w
abbrev n_space_Space_Objects : Nat := 70
def space_Space_Objects_ann : Ann := { loop := fun i => bif Nat.beq i 0 then [4, 5] else [], wr := fun i => bif Nat.beq i 0 then [2, 3, 4, 5, 6, 7, 12, 13, 14, 15, 16, 17, 18, 19, 20, 21, 22, 23, 24, 25, 26, 27, 28, 29, 30, 31, 32, 33, 34, 35, 36, 37, 38, 39, 40, 41, 42, 43, 44, 45, 46, 47, 48] else [], told := fun i => bif Nat.beq i 5 then [(0, false, ⟨0, 16777344, some 24⟩), (1, false, ⟨1, 50331648, some 25⟩), (2, false, ⟨2, 100663296, some 26⟩), (3, false, ⟨4, 201326656, some 27⟩), (4, false, ⟨12, 469762048, some 28⟩), (5, false, ⟨20, 872415232, some 29⟩), (6, false, ⟨36, 1610612736, some 30⟩), (7, false, ⟨64, 3221225536, some 31⟩), (9, false, ⟨64, 9663676417, some 33⟩), (10, false, ⟨576, 26843545600, some 34⟩), (11, false, ⟨1088, 52613349376, some 35⟩), (12, false, ⟨2112, 104152956928, some 36⟩), (13, false, ⟨64, 138512695328, some 37⟩), (14, false, ⟨12352, 482110078976, some 38⟩), (8, false, ⟨192, 7516192768, some 32⟩), (15, false, ⟨16704, 830002429952, some 39⟩), (16, false, ⟨32832, 1650341183488, some 40⟩)] else [], sq := fun i => bif Nat.beq i 5 then some (.rd true 0 (.rd true 1 (.rd true 2 (.rd true 3 (.rd false 4 (.rd true 5 (.rd true 6 (.rd false 7 (.rd true 9 (.rd true 10 (.rd true 11 (.rd false 12 (.rd true 13 (.rd true 14 (.ef 8 [12] (.rd true 15 (.rd true 16 .done))))))))))))))))) else none }
theorem space_Space_Objects_eq (t0 : Value) (w : World) (K : K1) : reads Try.prog space_Space_Objects_ann Try.f70 #[t0] w K = space_Space_Objects K t0 w := by kernel_rfl
theorem space_Space_Objects_of {t0 : Value} {w : World} {K : K1} (h : space_Space_Objects K t0 w) : Yld Try.prog n_space_Space_Objects #[t0] w K :=
  yld_of mixed space_Space_Objects_ann Try.func70 (by kernel_rfl) (space_Space_Objects_eq t0 w K) h

/-! (loam/image.reader).node: function 71 -/
def image_reader_node_l1 (K : K1) (nxt0 : List Value → World → Prop) (t1 t2 t4 t5 t7 t19 t20 : Value) (w : World) : Prop :=
 xBin Try.prog .lss 3 false t20 false t19 w fun t21_1 w =>
 xIf t21_1
 (xFieldAddr Try.prog 132 t2 0 w fun t24_1 w =>
 xLoad Try.prog 42 t24_1 w fun t25_1 w =>
 xNilCheck t25_1 w fun t26_1 w =>
 xFieldAddr Try.prog 102 t26_1 0 w fun t27_1 w =>
 xLoad Try.prog 99 t27_1 w fun t28_1 w =>
 xBin Try.prog .add 3 false t1 true (.int .i64 1) w fun t30_1 w =>
 xBin Try.prog .add 3 false t30_1 false t20 w fun t32_1 w =>
 xCall Try.prog (fnv 47) [t28_1, t32_1] w fun t33_1 w =>
 xExtract Try.prog t33_1 0 w fun t34_1 w =>
 xExtract Try.prog t33_1 1 w fun t35_1 w =>
 xSq w.drew fun w =>
 xPur w (fun w K => xFieldAddr Try.prog 72 t7 0 w K) fun t36_1 =>
 xRd w (fun K => xLoad Try.prog 66 t36_1 w K) fun t37_1 =>
 xRd w (fun K => xLoad Try.prog 132 t2 w K) fun t38_1 =>
 xPur w (fun w K => K t34_1 w) fun t39_1 =>
 xCall Try.prog (fnv 110) [t38_1, t39_1] w fun t40_1 w =>
 xRe w (fun K => xLoad Try.prog 66 t36_1 w K) t37_1 (
 xBuildSlice Try.prog 66 1 [(0, t40_1)] w fun t41_1 w =>
 xRe w (fun K => xLoad Try.prog 66 t36_1 w K) t37_1 (
 xBuiltin Try.prog .append #[66, 66] 66 [false, false] [t37_1, t41_1] w fun t42_1 w =>
 xPur w (fun w K => xFieldAddr Try.prog 72 t7 0 w K) fun t43_1 =>
 xStore Try.prog 66 t43_1 t42_1 w fun _x8 w =>
 xBin Try.prog .add 3 false t20 true (.int .i64 1) w fun t44_1 w =>
 nxt0 [t44_1] w)))
 (xFieldAddr Try.prog 132 t2 0 w fun t46 w =>
 xLoad Try.prog 42 t46 w fun t47 w =>
 xFieldAddr Try.prog 123 t5 1 w fun t49 w =>
 xLoad Try.prog 3 t49 w fun t50 w =>
 xCall Try.prog (fnv 111) [t47, t1, (.int .i64 0), t50] w fun t51 w =>
 xExtract Try.prog t51 0 w fun t52 w =>
 xExtract Try.prog t51 1 w fun t53 w =>
 xFieldAddr Try.prog 72 t7 1 w fun t54 w =>
 xStore Try.prog 70 t54 t52 w fun _ w =>
 xFieldAddr Try.prog 72 t7 0 w fun t55 w =>
 xLoad Try.prog 66 t55 w fun t56 w =>
 xCall Try.prog (fnv 109) [t56] w fun t57 w =>
 xFieldAddr Try.prog 72 t7 0 w fun t58 w =>
 xStore Try.prog 66 t58 t57 w fun _ w =>
 xLoad Try.prog 72 t7 w fun t59 w =>
 xStore Try.prog 72 t4 t59 w fun _ w =>
 xLoadR Try.prog 72 t4 w fun r0 =>
 K r0 w)
def image_reader_node (K : K1) (t0 t1 : Value) (w : World) : Prop :=
 xBox Try.prog 132 t0 w fun t2 w =>
 xAlloc Try.prog 72 w fun t4 w =>
 xFieldAddr Try.prog 132 t2 0 w fun t12 w =>
 xLoad Try.prog 42 t12 w fun t13 w =>
 xCall Try.prog (fnv 108) [t13, t1] w fun t15 w =>
 xExtract Try.prog t15 0 w fun t16 w =>
 xExtract Try.prog t15 1 w fun t17 w =>
 xAlloc Try.prog 123 w fun t5 w =>
 xStore Try.prog 123 t5 t16 w fun _ w =>
 xAlloc Try.prog 72 w fun t7 w =>
 xFieldAddr Try.prog 123 t5 0 w fun t18 w =>
 xLoad Try.prog 3 t18 w fun t19 w =>
 xLoop [(.int .i64 0)] w [20] fun u w nxt0 =>
 image_reader_node_l1 K nxt0 t1 t2 t4 t5 t7 t19 (u 20) w
abbrev n_image_reader_node : Nat := 71
def image_reader_node_ann : Ann := { loop := fun i => bif Nat.beq i 0 then [20] else [], wr := fun i => bif Nat.beq i 0 then [8, 9, 10, 20, 21, 22, 23, 24, 25, 26, 27, 28, 29, 30, 31, 32, 33, 34, 35, 36, 37, 38, 39, 40, 41, 42, 43, 44] else [], told := fun i => bif Nat.beq i 7 then [(0, false, ⟨0, 68719476864, some 36⟩), (1, false, ⟨1, 206158430208, some 37⟩), (2, false, ⟨0, 274877906948, some 38⟩), (3, false, ⟨0, 549755814400, some 39⟩), (4, false, ⟨12, 1924145348608, some 40⟩), (5, false, ⟨16, 3298534883328, some 41⟩), (6, false, ⟨50, 6734508720128, some 42⟩), (7, false, ⟨127, 8796093022336, some 43⟩), (8, false, ⟨255, 13194139533312, none⟩)] else [], sq := fun i => bif Nat.beq i 7 then some (.rd true 0 (.rd false 1 (.rd false 2 (.rd true 3 (.ef 4 [1] (.ef 5 [1] (.ef 6 [] (.rd true 7 (.ef 8 [] .done))))))))) else none }
theorem image_reader_node_eq (t0 t1 : Value) (w : World) (K : K1) : reads Try.prog image_reader_node_ann Try.f71 #[t0, t1] w K = image_reader_node K t0 t1 w := by kernel_rfl
theorem image_reader_node_of {t0 t1 : Value} {w : World} {K : K1} (h : image_reader_node K t0 t1 w) : Yld Try.prog n_image_reader_node #[t0, t1] w K :=
  yld_of mixed image_reader_node_ann Try.func71 (by kernel_rfl) (image_reader_node_eq t0 t1 w K) h

/-! (loam/image.reader).root: function 72 -/
def image_reader_root (K : K1) (t0 t1 : Value) (w : World) : Prop :=
 xBox Try.prog 132 t0 w fun t2 w =>
 xAlloc Try.prog 74 w fun t4 w =>
 xAlloc Try.prog 157 w fun t5 w =>
 xFieldAddr Try.prog 132 t2 0 w fun t11 w =>
 xLoad Try.prog 42 t11 w fun t12 w =>
 xNilCheck t12 w fun t13 w =>
 xFieldAddr Try.prog 102 t13 0 w fun t14 w =>
 xLoad Try.prog 99 t14 w fun t15 w =>
 xBin Try.prog .mul 3 false t1 true (.int .i64 8) w fun t17 w =>
 xCall Try.prog (fnv 112) [t15, t17, (.int .i64 32)] w fun t18 w =>
 xExtract Try.prog t18 0 w fun t19 w =>
 xExtract Try.prog t18 1 w fun t20 w =>
 xSlice Try.prog 157 t5 none none none w fun t21 w =>
 xBuiltin Try.prog .copy #[70, 70] 3 [false, false] [t21, t19] w fun t23 w =>
 xFieldAddr Try.prog 132 t2 0 w fun t25 w =>
 xLoad Try.prog 42 t25 w fun t26 w =>
 xNilCheck t26 w fun t27 w =>
 xFieldAddr Try.prog 102 t27 0 w fun t28 w =>
 xLoad Try.prog 99 t28 w fun t29 w =>
 xBin Try.prog .add 3 false t1 true (.int .i64 4) w fun t31 w =>
 xCall Try.prog (fnv 47) [t29, t31] w fun t32 w =>
 xExtract Try.prog t32 0 w fun t33 w =>
 xExtract Try.prog t32 1 w fun t34 w =>
 xSq w.drew fun w =>
 xRd w (fun K => xLoad Try.prog 157 t5 w K) fun t35 =>
 xRd w (fun K => xLoad Try.prog 132 t2 w K) fun t37 =>
 xPur w (fun w K => K t33 w) fun t38 =>
 xCall Try.prog (fnv 94) [t35] w fun t36 w =>
 xRe w (fun K => xLoad Try.prog 132 t2 w K) t37 (
 xCall Try.prog (fnv 110) [t37, t38] w fun t39 w =>
 xPur w (fun w K => xBuild Try.prog 74 [(0, t36), (1, t39)] w K) fun t40 =>
 xStore Try.prog 74 t4 t40 w fun _x6 w =>
 xLoadR Try.prog 74 t4 w fun r0 =>
 K r0 w)
abbrev n_image_reader_root : Nat := 72
def image_reader_root_ann : Ann := { loop := fun i => [], wr := fun i => [], told := fun i => bif Nat.beq i 5 then [(0, false, ⟨0, 34359738400, some 35⟩), (2, false, ⟨0, 137438953476, some 37⟩), (3, false, ⟨0, 274877907200, some 38⟩), (1, false, ⟨1, 103079215104, some 36⟩), (4, false, ⟨14, 962072674304, some 39⟩), (5, false, ⟨18, 1717986918400, some 40⟩), (6, false, ⟨63, 1099511627792, none⟩)] else [], sq := fun i => bif Nat.beq i 5 then some (.rd false 0 (.rd false 2 (.rd true 3 (.ef 1 [2] (.ef 4 [] (.rd true 5 (.ef 6 [] .done))))))) else none }
theorem image_reader_root_eq (t0 t1 : Value) (w : World) (K : K1) : reads Try.prog image_reader_root_ann Try.f72 #[t0, t1] w K = image_reader_root K t0 t1 w := by kernel_rfl
theorem image_reader_root_of {t0 t1 : Value} {w : World} {K : K1} (h : image_reader_root K t0 t1 w) : Yld Try.prog n_image_reader_root #[t0, t1] w K :=
  yld_of mixed image_reader_root_ann Try.func72 (by kernel_rfl) (image_reader_root_eq t0 t1 w K) h

/-! slices.Equal[[]uint64,uint64]: function 73 -/
def slices_Equal_uint64_uint64_l1 (K : K1) (nxt0 : List Value → World → Prop) (t0 t1 t12 t13 : Value) (w : World) : Prop :=
 xBin Try.prog .lss 3 false t13 false t12 w fun t14_1 w =>
 xIf t14_1
 (xSq w.drew fun w =>
 xPur w (fun w K => K t0 w) fun t16_1 =>
 xPur w (fun w K => K t13 w) fun t17_1 =>
 xPur w (fun w K => xIndexAddr Try.prog 28 t16_1 t17_1 w K) fun t18_1 =>
 xRd w (fun K => xLoad Try.prog 69 t18_1 w K) fun t19_1 =>
 xPur w (fun w K => K t1 w) fun t20_1 =>
 xPur w (fun w K => K t13 w) fun t21_1 =>
 xPur w (fun w K => xIndexAddr Try.prog 28 t20_1 t21_1 w K) fun t22_1 =>
 xRd w (fun K => xLoad Try.prog 69 t22_1 w K) fun t23_1 =>
 xPur w (fun w K => xBin Try.prog .neq 69 false t19_1 false t23_1 w K) fun t24_1 =>
 xIf t24_1
 (K (.bool false) w)
 (xBin Try.prog .add 3 false t13 true (.int .i64 1) w fun t25_1 w =>
 nxt0 [t25_1] w))
 (K (.bool true) w)
def slices_Equal_uint64_uint64 (K : K1) (t0 t1 : Value) (w : World) : Prop :=
 xBuiltin Try.prog .len #[28] 3 [false] [t0] w fun t7 w =>
 xBuiltin Try.prog .len #[28] 3 [false] [t1] w fun t9 w =>
 xBin Try.prog .neq 3 false t7 false t9 w fun t10 w =>
 xIf t10
 (K (.bool false) w)
 (xBuiltin Try.prog .len #[28] 3 [false] [t0] w fun t12 w =>
 xLoop [(.int .i64 0)] w [13] fun u w nxt0 =>
 slices_Equal_uint64_uint64_l1 K nxt0 t0 t1 t12 (u 13) w)
abbrev n_slices_Equal_uint64_uint64 : Nat := 73
def slices_Equal_uint64_uint64_ann : Ann := { loop := fun i => bif Nat.beq i 0 then [13] else [], wr := fun i => bif Nat.beq i 0 then [4, 5, 13, 14, 15, 16, 17, 18, 19, 20, 21, 22, 23, 24, 25] else [], told := fun i => bif Nat.beq i 6 then [(0, false, ⟨0, 65537, some 16⟩), (1, false, ⟨0, 131104, some 17⟩), (2, false, ⟨3, 458752, some 18⟩), (3, false, ⟨4, 786432, some 19⟩), (4, false, ⟨0, 1048578, some 20⟩), (5, false, ⟨0, 2097184, some 21⟩), (6, false, ⟨48, 7340032, some 22⟩), (7, false, ⟨64, 12582912, some 23⟩), (8, false, ⟨136, 25690112, some 24⟩)] else [], sq := fun i => bif Nat.beq i 6 then some (.rd true 0 (.rd true 1 (.rd true 2 (.rd false 3 (.rd true 4 (.rd true 5 (.rd true 6 (.rd false 7 (.rd true 8 .done))))))))) else none }
theorem slices_Equal_uint64_uint64_eq (t0 t1 : Value) (w : World) (K : K1) : reads Try.prog slices_Equal_uint64_uint64_ann Try.f73 #[t0, t1] w K = slices_Equal_uint64_uint64 K t0 t1 w := by kernel_rfl
theorem slices_Equal_uint64_uint64_of {t0 t1 : Value} {w : World} {K : K1} (h : slices_Equal_uint64_uint64 K t0 t1 w) : Yld Try.prog n_slices_Equal_uint64_uint64 #[t0, t1] w K :=
  yld_of mixed slices_Equal_uint64_uint64_ann Try.func73 (by kernel_rfl) (slices_Equal_uint64_uint64_eq t0 t1 w K) h

/-! slices.Clip[[]loam/graph.Node,loam/graph.Node]: function 74 -/
def slices_Clip_graph_Node_graph_Node (K : K1) (t0 : Value) (w : World) : Prop :=
 xBuiltin Try.prog .len #[22] 3 [false] [t0] w fun t5 w =>
 xBuiltin Try.prog .len #[22] 3 [false] [t0] w fun t7 w =>
 xSlice Try.prog 22 t0 none (some t5) (some t7) w fun t8 w =>
 K t8 w
abbrev n_slices_Clip_graph_Node_graph_Node : Nat := 74
def slices_Clip_graph_Node_graph_Node_ann : Ann := { loop := fun i => [], wr := fun i => [], told := fun i => [] }
theorem slices_Clip_graph_Node_graph_Node_eq (t0 : Value) (w : World) (K : K1) : reads Try.prog slices_Clip_graph_Node_graph_Node_ann Try.f74 #[t0] w K = slices_Clip_graph_Node_graph_Node K t0 w := by kernel_rfl
theorem slices_Clip_graph_Node_graph_Node_of {t0 : Value} {w : World} {K : K1} (h : slices_Clip_graph_Node_graph_Node K t0 w) : Yld Try.prog n_slices_Clip_graph_Node_graph_Node #[t0] w K :=
  yld_of mixed slices_Clip_graph_Node_graph_Node_ann Try.func74 (by kernel_rfl) (slices_Clip_graph_Node_graph_Node_eq t0 w K) h

/-! slices.Clip[[]loam/graph.Root,loam/graph.Root]: function 75 -/
def slices_Clip_graph_Root_graph_Root (K : K1) (t0 : Value) (w : World) : Prop :=
 xBuiltin Try.prog .len #[23] 3 [false] [t0] w fun t5 w =>
 xBuiltin Try.prog .len #[23] 3 [false] [t0] w fun t7 w =>
 xSlice Try.prog 23 t0 none (some t5) (some t7) w fun t8 w =>
 K t8 w
abbrev n_slices_Clip_graph_Root_graph_Root : Nat := 75
def slices_Clip_graph_Root_graph_Root_ann : Ann := { loop := fun i => [], wr := fun i => [], told := fun i => [] }
theorem slices_Clip_graph_Root_graph_Root_eq (t0 : Value) (w : World) (K : K1) : reads Try.prog slices_Clip_graph_Root_graph_Root_ann Try.f75 #[t0] w K = slices_Clip_graph_Root_graph_Root K t0 w := by kernel_rfl
theorem slices_Clip_graph_Root_graph_Root_of {t0 : Value} {w : World} {K : K1} (h : slices_Clip_graph_Root_graph_Root K t0 w) : Yld Try.prog n_slices_Clip_graph_Root_graph_Root #[t0] w K :=
  yld_of mixed slices_Clip_graph_Root_graph_Root_ann Try.func75 (by kernel_rfl) (slices_Clip_graph_Root_graph_Root_eq t0 w K) h

/-! slices.EqualFunc[[]loam/graph.Node,[]loam/graph.Node,loam/graph.Node,loam/graph.Node]: function 76 -/
def slices_EqualFunc_graph_Node_graph_Node_graph_Node_graph_Node_l1 (K : K1) (nxt0 : List Value → World → Prop) (t1 t2 t15 t16 t17 : Value) (w : World) : Prop :=
 xBin Try.prog .lss 3 false t17 false t16 w fun t18_1 w =>
 xIf t18_1
 (xIndexAddr Try.prog 22 t15 t17 w fun t20_1 w =>
 xLoad Try.prog 72 t20_1 w fun t21_1 w =>
 xAlloc Try.prog 72 w fun t8_1 w =>
 xStore Try.prog 72 t8_1 t21_1 w fun _ w =>
 xIndexAddr Try.prog 22 t1 t17 w fun t24_1 w =>
 xLoad Try.prog 72 t24_1 w fun t25_1 w =>
 xAlloc Try.prog 72 w fun t9_1 w =>
 xStore Try.prog 72 t9_1 t25_1 w fun _ w =>
 xLoad Try.prog 72 t8_1 w fun t27_1 w =>
 xLoad Try.prog 72 t9_1 w fun t28_1 w =>
 xCall Try.prog t2 [t27_1, t28_1] w fun t29_1 w =>
 xUn Try.prog .not t29_1 w fun t30_1 w =>
 xIf t30_1
 (K (.bool false) w)
 (xBin Try.prog .add 3 false t17 true (.int .i64 1) w fun t31_1 w =>
 nxt0 [t31_1] w))
 (K (.bool true) w)
def slices_EqualFunc_graph_Node_graph_Node_graph_Node_graph_Node (K : K1) (t0 t1 t2 : Value) (w : World) : Prop :=
 xBuiltin Try.prog .len #[22] 3 [false] [t0] w fun t11 w =>
 xBuiltin Try.prog .len #[22] 3 [false] [t1] w fun t13 w =>
 xBin Try.prog .neq 3 false t11 false t13 w fun t14 w =>
 xIf t14
 (K (.bool false) w)
 (xBuiltin Try.prog .len #[22] 3 [false] [t0] w fun t16 w =>
 xLoop [(.int .i64 0)] w [17] fun u w nxt0 =>
 slices_EqualFunc_graph_Node_graph_Node_graph_Node_graph_Node_l1 K nxt0 t1 t2 t0 t16 (u 17) w)
abbrev n_slices_EqualFunc_graph_Node_graph_Node_graph_Node_graph_Node : Nat := 76
def slices_EqualFunc_graph_Node_graph_Node_graph_Node_graph_Node_ann : Ann := { loop := fun i => bif Nat.beq i 0 then [17] else [], wr := fun i => bif Nat.beq i 0 then [6, 7, 8, 9, 17, 18, 19, 20, 21, 22, 23, 24, 25, 26, 27, 28, 29, 30, 31] else [], told := fun i => [] }
theorem slices_EqualFunc_graph_Node_graph_Node_graph_Node_graph_Node_eq (t0 t1 t2 : Value) (w : World) (K : K1) : reads Try.prog slices_EqualFunc_graph_Node_graph_Node_graph_Node_graph_Node_ann Try.f76 #[t0, t1, t2] w K = slices_EqualFunc_graph_Node_graph_Node_graph_Node_graph_Node K t0 t1 t2 w := by kernel_rfl
theorem slices_EqualFunc_graph_Node_graph_Node_graph_Node_graph_Node_of {t0 t1 t2 : Value} {w : World} {K : K1} (h : slices_EqualFunc_graph_Node_graph_Node_graph_Node_graph_Node K t0 t1 t2 w) : Yld Try.prog n_slices_EqualFunc_graph_Node_graph_Node_graph_Node_graph_Node #[t0, t1, t2] w K :=
  yld_of mixed slices_EqualFunc_graph_Node_graph_Node_graph_Node_graph_Node_ann Try.func76 (by kernel_rfl) (slices_EqualFunc_graph_Node_graph_Node_graph_Node_graph_Node_eq t0 t1 t2 w K) h

/-! loam/graph.Equal$1: function 77 -/
def graph_Equal_1 (K : K1) (t0 t1 : Value) (w : World) : Prop :=
 xBox Try.prog 72 t0 w fun t2 w =>
 xBox Try.prog 72 t1 w fun t3 w =>
 xFieldAddr Try.prog 72 t2 0 w fun t5 w =>
 xLoad Try.prog 66 t5 w fun t6 w =>
 xFieldAddr Try.prog 72 t3 0 w fun t7 w =>
 xLoad Try.prog 66 t7 w fun t8 w =>
 xCall Try.prog (fnv 78) [t6, t8] w fun t9 w =>
 xGuard t9 true (fun w K => xFieldAddr Try.prog 72 t2 1 w K) w fun t11 w =>
 xGuard t9 true (fun w K => xLoad Try.prog 70 t11 w K) w fun t12 w =>
 xGuard t9 true (fun w K => xFieldAddr Try.prog 72 t3 1 w K) w fun t13 w =>
 xGuard t9 true (fun w K => xLoad Try.prog 70 t13 w K) w fun t14 w =>
 xGuard t9 true (fun w K => xCall Try.prog (fnv 79) [t12, t14] w K) w fun t15 w =>
 xPick t9 t15 (.bool false) w fun t16 w =>
 K t16 w
abbrev n_graph_Equal_1 : Nat := 77
def graph_Equal_1_ann : Ann := { loop := fun i => [], wr := fun i => [], told := fun i => [] }
theorem graph_Equal_1_eq (t0 t1 : Value) (w : World) (K : K1) : reads Try.prog graph_Equal_1_ann Try.f77 #[t0, t1] w K = graph_Equal_1 K t0 t1 w := by kernel_rfl
theorem graph_Equal_1_of {t0 t1 : Value} {w : World} {K : K1} (h : graph_Equal_1 K t0 t1 w) : Yld Try.prog n_graph_Equal_1 #[t0, t1] w K :=
  yld_of mixed graph_Equal_1_ann Try.func77 (by kernel_rfl) (graph_Equal_1_eq t0 t1 w K) h

/-! slices.Equal[[]int,int]: function 78 -/
def slices_Equal_int_int_l1 (K : K1) (nxt0 : List Value → World → Prop) (t0 t1 t12 t13 : Value) (w : World) : Prop :=
 xBin Try.prog .lss 3 false t13 false t12 w fun t14_1 w =>
 xIf t14_1
 (xSq w.drew fun w =>
 xPur w (fun w K => K t0 w) fun t16_1 =>
 xPur w (fun w K => K t13 w) fun t17_1 =>
 xPur w (fun w K => xIndexAddr Try.prog 66 t16_1 t17_1 w K) fun t18_1 =>
 xRd w (fun K => xLoad Try.prog 3 t18_1 w K) fun t19_1 =>
 xPur w (fun w K => K t1 w) fun t20_1 =>
 xPur w (fun w K => K t13 w) fun t21_1 =>
 xPur w (fun w K => xIndexAddr Try.prog 66 t20_1 t21_1 w K) fun t22_1 =>
 xRd w (fun K => xLoad Try.prog 3 t22_1 w K) fun t23_1 =>
 xPur w (fun w K => xBin Try.prog .neq 3 false t19_1 false t23_1 w K) fun t24_1 =>
 xIf t24_1
 (K (.bool false) w)
 (xBin Try.prog .add 3 false t13 true (.int .i64 1) w fun t25_1 w =>
 nxt0 [t25_1] w))
 (K (.bool true) w)
def slices_Equal_int_int (K : K1) (t0 t1 : Value) (w : World) : Prop :=
 xBuiltin Try.prog .len #[66] 3 [false] [t0] w fun t7 w =>
 xBuiltin Try.prog .len #[66] 3 [false] [t1] w fun t9 w =>
 xBin Try.prog .neq 3 false t7 false t9 w fun t10 w =>
 xIf t10
 (K (.bool false) w)
 (xBuiltin Try.prog .len #[66] 3 [false] [t0] w fun t12 w =>
 xLoop [(.int .i64 0)] w [13] fun u w nxt0 =>
 slices_Equal_int_int_l1 K nxt0 t0 t1 t12 (u 13) w)
abbrev n_slices_Equal_int_int : Nat := 78
def slices_Equal_int_int_ann : Ann := { loop := fun i => bif Nat.beq i 0 then [13] else [], wr := fun i => bif Nat.beq i 0 then [4, 5, 13, 14, 15, 16, 17, 18, 19, 20, 21, 22, 23, 24, 25] else [], told := fun i => bif Nat.beq i 6 then [(0, false, ⟨0, 65537, some 16⟩), (1, false, ⟨0, 131104, some 17⟩), (2, false, ⟨3, 458752, some 18⟩), (3, false, ⟨4, 786432, some 19⟩), (4, false, ⟨0, 1048578, some 20⟩), (5, false, ⟨0, 2097184, some 21⟩), (6, false, ⟨48, 7340032, some 22⟩), (7, false, ⟨64, 12582912, some 23⟩), (8, false, ⟨136, 25690112, some 24⟩)] else [], sq := fun i => bif Nat.beq i 6 then some (.rd true 0 (.rd true 1 (.rd true 2 (.rd false 3 (.rd true 4 (.rd true 5 (.rd true 6 (.rd false 7 (.rd true 8 .done))))))))) else none }
theorem slices_Equal_int_int_eq (t0 t1 : Value) (w : World) (K : K1) : reads Try.prog slices_Equal_int_int_ann Try.f78 #[t0, t1] w K = slices_Equal_int_int K t0 t1 w := by kernel_rfl
theorem slices_Equal_int_int_of {t0 t1 : Value} {w : World} {K : K1} (h : slices_Equal_int_int K t0 t1 w) : Yld Try.prog n_slices_Equal_int_int #[t0, t1] w K :=
  yld_of mixed slices_Equal_int_int_ann Try.func78 (by kernel_rfl) (slices_Equal_int_int_eq t0 t1 w K) h

/-! bytes.Equal: function 79 -/
def bytes_Equal (K : K1) (t0 t1 : Value) (w : World) : Prop :=
 xConv Try.prog 70 9 t0 w fun t6 w =>
 xConv Try.prog 70 9 t1 w fun t8 w =>
 xBin Try.prog .eql 9 false t6 false t8 w fun t9 w =>
 K t9 w
abbrev n_bytes_Equal : Nat := 79
def bytes_Equal_ann : Ann := { loop := fun i => [], wr := fun i => [], told := fun i => [] }
theorem bytes_Equal_eq (t0 t1 : Value) (w : World) (K : K1) : reads Try.prog bytes_Equal_ann Try.f79 #[t0, t1] w K = bytes_Equal K t0 t1 w := by kernel_rfl
theorem bytes_Equal_of {t0 t1 : Value} {w : World} {K : K1} (h : bytes_Equal K t0 t1 w) : Yld Try.prog n_bytes_Equal #[t0, t1] w K :=
  yld_of mixed bytes_Equal_ann Try.func79 (by kernel_rfl) (bytes_Equal_eq t0 t1 w K) h

/-! slices.Equal[[]loam/graph.Root,loam/graph.Root]: function 80 -/
def slices_Equal_graph_Root_graph_Root_l1 (K : K1) (nxt0 : List Value → World → Prop) (t0 t1 t12 t13 : Value) (w : World) : Prop :=
 xBin Try.prog .lss 3 false t13 false t12 w fun t14_1 w =>
 xIf t14_1
 (xSq w.drew fun w =>
 xPur w (fun w K => K t0 w) fun t16_1 =>
 xPur w (fun w K => K t13 w) fun t17_1 =>
 xPur w (fun w K => xIndexAddr Try.prog 23 t16_1 t17_1 w K) fun t18_1 =>
 xRd w (fun K => xLoad Try.prog 74 t18_1 w K) fun t19_1 =>
 xPur w (fun w K => K t1 w) fun t20_1 =>
 xPur w (fun w K => K t13 w) fun t21_1 =>
 xPur w (fun w K => xIndexAddr Try.prog 23 t20_1 t21_1 w K) fun t22_1 =>
 xRd w (fun K => xLoad Try.prog 74 t22_1 w K) fun t23_1 =>
 xPur w (fun w K => xBin Try.prog .neq 74 false t19_1 false t23_1 w K) fun t24_1 =>
 xIf t24_1
 (K (.bool false) w)
 (xBin Try.prog .add 3 false t13 true (.int .i64 1) w fun t25_1 w =>
 nxt0 [t25_1] w))
 (K (.bool true) w)
def slices_Equal_graph_Root_graph_Root (K : K1) (t0 t1 : Value) (w : World) : Prop :=
 xBuiltin Try.prog .len #[23] 3 [false] [t0] w fun t7 w =>
 xBuiltin Try.prog .len #[23] 3 [false] [t1] w fun t9 w =>
 xBin Try.prog .neq 3 false t7 false t9 w fun t10 w =>
 xIf t10
 (K (.bool false) w)
 (xBuiltin Try.prog .len #[23] 3 [false] [t0] w fun t12 w =>
 xLoop [(.int .i64 0)] w [13] fun u w nxt0 =>
 slices_Equal_graph_Root_graph_Root_l1 K nxt0 t0 t1 t12 (u 13) w)
abbrev n_slices_Equal_graph_Root_graph_Root : Nat := 80
def slices_Equal_graph_Root_graph_Root_ann : Ann := { loop := fun i => bif Nat.beq i 0 then [13] else [], wr := fun i => bif Nat.beq i 0 then [4, 5, 13, 14, 15, 16, 17, 18, 19, 20, 21, 22, 23, 24, 25] else [], told := fun i => bif Nat.beq i 6 then [(0, false, ⟨0, 65537, some 16⟩), (1, false, ⟨0, 131104, some 17⟩), (2, false, ⟨3, 458752, some 18⟩), (3, false, ⟨4, 786432, some 19⟩), (4, false, ⟨0, 1048578, some 20⟩), (5, false, ⟨0, 2097184, some 21⟩), (6, false, ⟨48, 7340032, some 22⟩), (7, false, ⟨64, 12582912, some 23⟩), (8, false, ⟨136, 25690112, some 24⟩)] else [], sq := fun i => bif Nat.beq i 6 then some (.rd true 0 (.rd true 1 (.rd true 2 (.rd false 3 (.rd true 4 (.rd true 5 (.rd true 6 (.rd false 7 (.rd true 8 .done))))))))) else none }
theorem slices_Equal_graph_Root_graph_Root_eq (t0 t1 : Value) (w : World) (K : K1) : reads Try.prog slices_Equal_graph_Root_graph_Root_ann Try.f80 #[t0, t1] w K = slices_Equal_graph_Root_graph_Root K t0 t1 w := by kernel_rfl
theorem slices_Equal_graph_Root_graph_Root_of {t0 t1 : Value} {w : World} {K : K1} (h : slices_Equal_graph_Root_graph_Root K t0 t1 w) : Yld Try.prog n_slices_Equal_graph_Root_graph_Root #[t0, t1] w K :=
  yld_of mixed slices_Equal_graph_Root_graph_Root_ann Try.func80 (by kernel_rfl) (slices_Equal_graph_Root_graph_Root_eq t0 t1 w K) h

/-! loam/loamref1.Field: function 81 -/
/-! loam/loamref14.Bytes: function 82 -/
/-! loam/loamref17.number: function 83 -/
/-! loam/loamref17.name: function 84 -/
/-! loam/graph.Reach: function 85 -/
def graph_Reach_l1 (K : K1) (nxt0 : List Value → World → Prop) (t2 t5 t6 : Value) (w : World) : Prop :=
 xBuiltin Try.prog .len #[66] 3 [false] [t6] w fun t15_1 w =>
 xBin Try.prog .gtr 3 false t15_1 true (.int .i64 0) w fun t16_1 w =>
 xIf t16_1
 (xBuiltin Try.prog .len #[66] 3 [false] [t6] w fun t19_1 w =>
 xBin Try.prog .sub 3 false t19_1 true (.int .i64 1) w fun t20_1 w =>
 xIndexAddr Try.prog 66 t6 t20_1 w fun t21_1 w =>
 xLoad Try.prog 3 t21_1 w fun t22_1 w =>
 xBuiltin Try.prog .len #[66] 3 [false] [t6] w fun t25_1 w =>
 xBin Try.prog .sub 3 false t25_1 true (.int .i64 1) w fun t26_1 w =>
 xSlice Try.prog 66 t6 none (some t26_1) none w fun t27_1 w =>
 xBin Try.prog .lss 3 false t22_1 true (.int .i64 1) w fun t29_1 w =>
 xGuard t29_1 false (fun w K => K t22_1 w) w fun t31_1 w =>
 xGuard t29_1 false (fun w K => xFieldAddr Try.prog 25 t2 0 w K) w fun t32_1 w =>
 xGuard t29_1 false (fun w K => xLoad Try.prog 22 t32_1 w K) w fun t33_1 w =>
 xGuard t29_1 false (fun w K => xBuiltin Try.prog .len #[22] 3 [false] [t33_1] w K) w fun t34_1 w =>
 xGuard t29_1 false (fun w K => xBin Try.prog .gtr 3 false t31_1 false t34_1 w K) w fun t35_1 w =>
 xPick t29_1 (.bool true) t35_1 w fun t36_1 w =>
 xGuard t36_1 false (fun w K => K t5 w) w fun t38_1 w =>
 xGuard t36_1 false (fun w K => K t22_1 w) w fun t39_1 w =>
 xGuard t36_1 false (fun w K => xBin Try.prog .sub 3 false t39_1 true (.int .i64 1) w K) w fun t40_1 w =>
 xGuard t36_1 false (fun w K => xIndexAddr Try.prog 147 t38_1 t40_1 w K) w fun t41_1 w =>
 xGuard t36_1 false (fun w K => xLoad Try.prog 4 t41_1 w K) w fun t42_1 w =>
 xPick t36_1 (.bool true) t42_1 w fun t43_1 w =>
 xIf t43_1
 (nxt0 [t27_1] w)
 (xBin Try.prog .sub 3 false t22_1 true (.int .i64 1) w fun t46_1 w =>
 xIndexAddr Try.prog 147 t5 t46_1 w fun t47_1 w =>
 xStore Try.prog 4 t47_1 (.bool true) w fun _ w =>
 xFieldAddr Try.prog 25 t2 0 w fun t49_1 w =>
 xLoad Try.prog 22 t49_1 w fun t50_1 w =>
 xBin Try.prog .sub 3 false t22_1 true (.int .i64 1) w fun t52_1 w =>
 xIndexAddr Try.prog 22 t50_1 t52_1 w fun t53_1 w =>
 xFieldAddr Try.prog 72 t53_1 0 w fun t54_1 w =>
 xLoad Try.prog 66 t54_1 w fun t55_1 w =>
 xBuiltin Try.prog .append #[66, 66] 66 [false, false] [t27_1, t55_1] w fun t56_1 w =>
 nxt0 [t56_1] w))
 (K t5 w)
def graph_Reach (K : K1) (t0 t1 : Value) (w : World) : Prop :=
 xBox Try.prog 25 t0 w fun t2 w =>
 xFieldAddr Try.prog 25 t2 0 w fun t8 w =>
 xLoad Try.prog 22 t8 w fun t9 w =>
 xBuiltin Try.prog .len #[22] 3 [false] [t9] w fun t10 w =>
 xMakeSlice Try.prog 147 t10 t10 w fun t11 w =>
 xCall Try.prog (fnv 114) [t1] w fun t13 w =>
 xLoop [t13] w [6] fun u w nxt0 =>
 graph_Reach_l1 K nxt0 t2 t11 (u 6) w
abbrev n_graph_Reach : Nat := 85
def graph_Reach_ann : Ann := { loop := fun i => bif Nat.beq i 0 then [6] else [], wr := fun i => bif Nat.beq i 0 then [6, 7, 14, 15, 16, 17, 18, 19, 20, 21, 22, 23, 24, 25, 26, 27, 28, 29, 30, 31, 32, 33, 34, 35, 36, 37, 38, 39, 40, 41, 42, 43, 44, 45, 46, 47, 48, 49, 50, 51, 52, 53, 54, 55, 56] else [], told := fun i => [] }
theorem graph_Reach_eq (t0 t1 : Value) (w : World) (K : K1) : reads Try.prog graph_Reach_ann Try.f85 #[t0, t1] w K = graph_Reach K t0 t1 w := by kernel_rfl
theorem graph_Reach_of {t0 t1 : Value} {w : World} {K : K1} (h : graph_Reach K t0 t1 w) : Yld Try.prog n_graph_Reach #[t0, t1] w K :=
  yld_of mixed graph_Reach_ann Try.func85 (by kernel_rfl) (graph_Reach_eq t0 t1 w K) h

/-! loam/graph.Named: function 86 -/
def graph_Named_l1 (K : K1) (nxt0 : List Value → World → Prop) (t3 t7 t8 t9 : Value) (w : World) : Prop :=
 xBin Try.prog .lss 3 false t9 false t8 w fun t10_1 w =>
 xIf t10_1
 (xIndexAddr Try.prog 23 t7 t9 w fun t11_1 w =>
 xLoad Try.prog 74 t11_1 w fun t12_1 w =>
 xAlloc Try.prog 74 w fun t5_1 w =>
 xStore Try.prog 74 t5_1 t12_1 w fun _ w =>
 xFieldAddr Try.prog 74 t5_1 1 w fun t14_1 w =>
 xLoad Try.prog 3 t14_1 w fun t15_1 w =>
 xBuildSlice Try.prog 66 1 [(0, t15_1)] w fun t16_1 w =>
 xBuiltin Try.prog .append #[66, 66] 66 [false, false] [t3, t16_1] w fun t17_1 w =>
 xBin Try.prog .add 3 false t9 true (.int .i64 1) w fun t18_1 w =>
 nxt0 [t17_1, t18_1] w)
 (xCall Try.prog (fnv 109) [t3] w fun t20 w =>
 K t20 w)
def graph_Named (K : K1) (t0 : Value) (w : World) : Prop :=
 xBox Try.prog 25 t0 w fun t1 w =>
 xFieldAddr Try.prog 25 t1 1 w fun t6 w =>
 xLoad Try.prog 23 t6 w fun t7 w =>
 xBuiltin Try.prog .len #[23] 3 [false] [t7] w fun t8 w =>
 xLoop [(.slice none 0 0), (.int .i64 0)] w [3, 9] fun u w nxt0 =>
 graph_Named_l1 K nxt0 (u 3) t7 t8 (u 9) w
abbrev n_graph_Named : Nat := 86
def graph_Named_ann : Ann := { loop := fun i => bif Nat.beq i 0 then [3, 9] else [], wr := fun i => bif Nat.beq i 0 then [3, 5, 9, 10, 11, 12, 13, 14, 15, 16, 17, 18] else [], told := fun i => [] }
theorem graph_Named_eq (t0 : Value) (w : World) (K : K1) : reads Try.prog graph_Named_ann Try.f86 #[t0] w K = graph_Named K t0 w := by kernel_rfl
theorem graph_Named_of {t0 : Value} {w : World} {K : K1} (h : graph_Named K t0 w) : Yld Try.prog n_graph_Named #[t0] w K :=
  yld_of mixed graph_Named_ann Try.func86 (by kernel_rfl) (graph_Named_eq t0 w K) h

/-! loam/graph.Trim$1: function 87 -/
def graph_Trim_1 (K : K1) (t0 t1 : Value) (w : World) : Prop :=
 xBin Try.prog .lss 3 false t0 true (.int .i64 1) w fun t5 w =>
 xGuard t5 false (fun w K => K t0 w) w fun t7 w =>
 xGuard t5 false (fun w K => xLoad Try.prog 66 t1 w K) w fun t8 w =>
 xGuard t5 false (fun w K => xBuiltin Try.prog .len #[66] 3 [false] [t8] w K) w fun t9 w =>
 xGuard t5 false (fun w K => xBin Try.prog .gtr 3 false t7 false t9 w K) w fun t10 w =>
 xPick t5 (.bool true) t10 w fun t11 w =>
 xIf t11
 (K (.int .i64 0) w)
 (xLoad Try.prog 66 t1 w fun t12 w =>
 xBin Try.prog .sub 3 false t0 true (.int .i64 1) w fun t14 w =>
 xIndexAddr Try.prog 66 t12 t14 w fun t15 w =>
 xLoad Try.prog 3 t15 w fun t16 w =>
 K t16 w)
abbrev n_graph_Trim_1 : Nat := 87
def graph_Trim_1_ann : Ann := { loop := fun i => [], wr := fun i => [], told := fun i => [] }
theorem graph_Trim_1_eq (t0 t1 : Value) (w : World) (K : K1) : reads Try.prog graph_Trim_1_ann Try.f87 #[t0, t1] w K = graph_Trim_1 K t0 t1 w := by kernel_rfl
theorem graph_Trim_1_of {t0 t1 : Value} {w : World} {K : K1} (h : graph_Trim_1 K t0 t1 w) : Yld Try.prog n_graph_Trim_1 #[t0, t1] w K :=
  yld_of mixed graph_Trim_1_ann Try.func87 (by kernel_rfl) (graph_Trim_1_eq t0 t1 w K) h

/-! (loam/graph.Node).apart: function 88 -/
def graph_Node_apart_l1 (K : K1) (nxt0 : List Value → World → Prop) (t1 t4 t5 t14 t15 t16 : Value) (w : World) : Prop :=
 xBin Try.prog .lss 3 false t16 false t15 w fun t17_1 w =>
 xIf t17_1
 (xIndexAddr Try.prog 66 t14 t16 w fun t18_1 w =>
 xLoad Try.prog 3 t18_1 w fun t19_1 w =>
 xSq w.drew fun w =>
 xPur w (fun w K => xFieldAddr Try.prog 72 t5 0 w K) fun t20_1 =>
 xRd w (fun K => xLoad Try.prog 66 t20_1 w K) fun t21_1 =>
 xPur w (fun w K => K t1 w) fun t22_1 =>
 xPur w (fun w K => K t19_1 w) fun t23_1 =>
 xCall Try.prog t22_1 [t23_1] w fun t24_1 w =>
 xRe w (fun K => xLoad Try.prog 66 t20_1 w K) t21_1 (
 xBuildSlice Try.prog 66 1 [(0, t24_1)] w fun t25_1 w =>
 xRe w (fun K => xLoad Try.prog 66 t20_1 w K) t21_1 (
 xBuiltin Try.prog .append #[66, 66] 66 [false, false] [t21_1, t25_1] w fun t26_1 w =>
 xPur w (fun w K => xFieldAddr Try.prog 72 t5 0 w K) fun t27_1 =>
 xStore Try.prog 66 t27_1 t26_1 w fun _x8 w =>
 xBin Try.prog .add 3 false t16 true (.int .i64 1) w fun t28_1 w =>
 nxt0 [t28_1] w)))
 (xFieldAddr Try.prog 72 t5 0 w fun t29 w =>
 xLoad Try.prog 66 t29 w fun t30 w =>
 xCall Try.prog (fnv 109) [t30] w fun t31 w =>
 xFieldAddr Try.prog 72 t5 0 w fun t32 w =>
 xStore Try.prog 66 t32 t31 w fun _ w =>
 xLoad Try.prog 72 t5 w fun t33 w =>
 xStore Try.prog 72 t4 t33 w fun _ w =>
 xLoadR Try.prog 72 t4 w fun r0 =>
 K r0 w)
def graph_Node_apart (K : K1) (t0 t1 : Value) (w : World) : Prop :=
 xBox Try.prog 72 t0 w fun t2 w =>
 xAlloc Try.prog 72 w fun t4 w =>
 xFieldAddr Try.prog 72 t2 1 w fun t8 w =>
 xLoad Try.prog 70 t8 w fun t9 w =>
 xCall Try.prog (fnv 116) [t9] w fun t10 w =>
 xCall Try.prog (fnv 115) [t10] w fun t11 w =>
 xBuild Try.prog 72 [(1, t11)] w fun t12 w =>
 xAlloc Try.prog 72 w fun t5 w =>
 xStore Try.prog 72 t5 t12 w fun _ w =>
 xFieldAddr Try.prog 72 t2 0 w fun t13 w =>
 xLoad Try.prog 66 t13 w fun t14 w =>
 xBuiltin Try.prog .len #[66] 3 [false] [t14] w fun t15 w =>
 xLoop [(.int .i64 0)] w [16] fun u w nxt0 =>
 graph_Node_apart_l1 K nxt0 t1 t4 t5 t14 t15 (u 16) w
abbrev n_graph_Node_apart : Nat := 88
def graph_Node_apart_ann : Ann := { loop := fun i => bif Nat.beq i 0 then [16] else [], wr := fun i => bif Nat.beq i 0 then [7, 16, 17, 18, 19, 20, 21, 22, 23, 24, 25, 26, 27, 28] else [], told := fun i => bif Nat.beq i 5 then [(0, false, ⟨0, 1048608, some 20⟩), (1, false, ⟨1, 3145728, some 21⟩), (2, false, ⟨0, 4194306, some 22⟩), (3, false, ⟨0, 8388736, some 23⟩), (4, false, ⟨12, 29360128, some 24⟩), (5, false, ⟨16, 50331648, some 25⟩), (6, false, ⟨50, 102760448, some 26⟩), (7, false, ⟨127, 134217760, some 27⟩), (8, false, ⟨255, 201326592, none⟩)] else [], sq := fun i => bif Nat.beq i 5 then some (.rd true 0 (.rd false 1 (.rd true 2 (.rd true 3 (.ef 4 [1] (.ef 5 [1] (.ef 6 [] (.rd true 7 (.ef 8 [] .done))))))))) else none }
theorem graph_Node_apart_eq (t0 t1 : Value) (w : World) (K : K1) : reads Try.prog graph_Node_apart_ann Try.f88 #[t0, t1] w K = graph_Node_apart K t0 t1 w := by kernel_rfl
theorem graph_Node_apart_of {t0 t1 : Value} {w : World} {K : K1} (h : graph_Node_apart K t0 t1 w) : Yld Try.prog n_graph_Node_apart #[t0, t1] w K :=
  yld_of mixed graph_Node_apart_ann Try.func88 (by kernel_rfl) (graph_Node_apart_eq t0 t1 w K) h

/-! loam/canon.Canon: function 89 -/
def canon_Canon_l3 (K : K1) (nxt2 : List Value → World → Prop) (nxt4 : List Value → World → Prop) (t3 t7 t10 t32 t52 t53 t54 : Value) (w : World) : Prop :=
 xBin Try.prog .lss 3 false t54 false t53 w fun t55_1 w =>
 xIf t55_1
 (xIndexAddr Try.prog 66 t52 t54 w fun t56_1 w =>
 xLoad Try.prog 3 t56_1 w fun t57_1 w =>
 xFieldAddr Try.prog 72 t10 0 w fun t58_1 w =>
 xLoad Try.prog 66 t58_1 w fun t59_1 w =>
 xLookup Try.prog 184 t3 t57_1 false w fun t62_1 w =>
 xBuildSlice Try.prog 66 1 [(0, t62_1)] w fun t63_1 w =>
 xBuiltin Try.prog .append #[66, 66] 66 [false, false] [t59_1, t63_1] w fun t64_1 w =>
 xFieldAddr Try.prog 72 t10 0 w fun t65_1 w =>
 xStore Try.prog 66 t65_1 t64_1 w fun _ w =>
 xBin Try.prog .add 3 false t54 true (.int .i64 1) w fun t66_1 w =>
 nxt4 [t66_1] w)
 (xFieldAddr Try.prog 72 t10 0 w fun t67_1 w =>
 xLoad Try.prog 66 t67_1 w fun t68_1 w =>
 xCall Try.prog (fnv 109) [t68_1] w fun t69_1 w =>
 xFieldAddr Try.prog 72 t10 0 w fun t70_1 w =>
 xStore Try.prog 66 t70_1 t69_1 w fun _ w =>
 xFieldAddr Try.prog 25 t7 0 w fun t71_1 w =>
 xLoad Try.prog 22 t71_1 w fun t72_1 w =>
 xLoad Try.prog 72 t10 w fun t73_1 w =>
 xBuildSlice Try.prog 22 1 [(0, t73_1)] w fun t74_1 w =>
 xBuiltin Try.prog .append #[22, 22] 22 [false, false] [t72_1, t74_1] w fun t75_1 w =>
 xFieldAddr Try.prog 25 t7 0 w fun t76_1 w =>
 xStore Try.prog 22 t76_1 t75_1 w fun _ w =>
 xBin Try.prog .add 3 false t32 true (.int .i64 1) w fun t77_1 w =>
 nxt2 [t77_1] w)
def canon_Canon_l4 (K : K1) (nxt6 : List Value → World → Prop) (t2 t3 t7 t79 t80 t81 : Value) (w : World) : Prop :=
 xBin Try.prog .lss 3 false t81 false t80 w fun t82_1 w =>
 xIf t82_1
 (xIndexAddr Try.prog 23 t79 t81 w fun t83_1 w =>
 xLoad Try.prog 74 t83_1 w fun t84_1 w =>
 xAlloc Try.prog 74 w fun t14_1 w =>
 xStore Try.prog 74 t14_1 t84_1 w fun _ w =>
 xFieldAddr Try.prog 25 t7 1 w fun t85_1 w =>
 xLoad Try.prog 23 t85_1 w fun t86_1 w =>
 xFieldAddr Try.prog 74 t14_1 0 w fun t87_1 w =>
 xLoad Try.prog 9 t87_1 w fun t88_1 w =>
 xFieldAddr Try.prog 74 t14_1 1 w fun t90_1 w =>
 xLoad Try.prog 3 t90_1 w fun t91_1 w =>
 xLookup Try.prog 184 t3 t91_1 false w fun t92_1 w =>
 xBuild Try.prog 74 [(0, t88_1), (1, t92_1)] w fun t93_1 w =>
 xBuildSlice Try.prog 23 1 [(0, t93_1)] w fun t94_1 w =>
 xBuiltin Try.prog .append #[23, 23] 23 [false, false] [t86_1, t94_1] w fun t95_1 w =>
 xFieldAddr Try.prog 25 t7 1 w fun t96_1 w =>
 xStore Try.prog 23 t96_1 t95_1 w fun _ w =>
 xBin Try.prog .add 3 false t81 true (.int .i64 1) w fun t97_1 w =>
 nxt6 [t97_1] w)
 (xSq w.drew fun w =>
 xPur w (fun w K => xFieldAddr Try.prog 25 t7 0 w K) fun t98 =>
 xRd w (fun K => xLoad Try.prog 22 t98 w K) fun t99 =>
 xPur w (fun w K => xFieldAddr Try.prog 25 t7 1 w K) fun t101 =>
 xRd w (fun K => xLoad Try.prog 23 t101 w K) fun t102 =>
 xCall Try.prog (fnv 74) [t99] w fun t100 w =>
 xRe w (fun K => xLoad Try.prog 23 t101 w K) t102 (
 xPur w (fun w K => xFieldAddr Try.prog 25 t7 0 w K) fun t104 =>
 xCall Try.prog (fnv 75) [t102] w fun t103 w =>
 xStore Try.prog 22 t104 t100 w fun _x7 w =>
 xPur w (fun w K => xFieldAddr Try.prog 25 t7 1 w K) fun t105 =>
 xStore Try.prog 23 t105 t103 w fun _x9 w =>
 xLoad Try.prog 25 t7 w fun t106 w =>
 xStore Try.prog 25 t2 t106 w fun _ w =>
 xLoadR Try.prog 25 t2 w fun r0 =>
 K r0 w))
def canon_Canon_l2 (K : K1) (nxt2 : List Value → World → Prop) (t1 t2 t3 t4 t7 t31 t32 : Value) (w : World) : Prop :=
 xBin Try.prog .lss 3 false t32 false t31 w fun t33_1 w =>
 xIf t33_1
 (xIndexAddr Try.prog 66 t4 t32 w fun t34_1 w =>
 xLoad Try.prog 3 t34_1 w fun t35_1 w =>
 xFieldAddr Try.prog 25 t1 0 w fun t36_1 w =>
 xLoad Try.prog 22 t36_1 w fun t37_1 w =>
 xBin Try.prog .sub 3 false t35_1 true (.int .i64 1) w fun t39_1 w =>
 xIndexAddr Try.prog 22 t37_1 t39_1 w fun t40_1 w =>
 xFieldAddr Try.prog 72 t40_1 1 w fun t41_1 w =>
 xLoad Try.prog 70 t41_1 w fun t42_1 w =>
 xCall Try.prog (fnv 116) [t42_1] w fun t43_1 w =>
 xCall Try.prog (fnv 115) [t43_1] w fun t44_1 w =>
 xBuild Try.prog 72 [(1, t44_1)] w fun t45_1 w =>
 xAlloc Try.prog 72 w fun t10_1 w =>
 xStore Try.prog 72 t10_1 t45_1 w fun _ w =>
 xFieldAddr Try.prog 25 t1 0 w fun t46_1 w =>
 xLoad Try.prog 22 t46_1 w fun t47_1 w =>
 xBin Try.prog .sub 3 false t35_1 true (.int .i64 1) w fun t49_1 w =>
 xIndexAddr Try.prog 22 t47_1 t49_1 w fun t50_1 w =>
 xFieldAddr Try.prog 72 t50_1 0 w fun t51_1 w =>
 xLoad Try.prog 66 t51_1 w fun t52_1 w =>
 xBuiltin Try.prog .len #[66] 3 [false] [t52_1] w fun t53_1 w =>
 xLoop [(.int .i64 0)] w [54] fun u w nxt4 =>
 canon_Canon_l3 K nxt2 nxt4 t3 t7 t10_1 t32 t52_1 t53_1 (u 54) w)
 (xFieldAddr Try.prog 25 t1 1 w fun t78 w =>
 xLoad Try.prog 23 t78 w fun t79 w =>
 xBuiltin Try.prog .len #[23] 3 [false] [t79] w fun t80 w =>
 xLoop [(.int .i64 0)] w [81] fun u w nxt6 =>
 canon_Canon_l4 K nxt6 t2 t3 t7 t79 t80 (u 81) w)
def canon_Canon_l1 (K : K1) (nxt0 : List Value → World → Prop) (t1 t2 t3 t4 t18 t19 t20 : Value) (w : World) : Prop :=
 xBin Try.prog .lss 3 false t20 false t19 w fun t21_1 w =>
 xIf t21_1
 (xIndexAddr Try.prog 66 t18 t20 w fun t23_1 w =>
 xLoad Try.prog 3 t23_1 w fun t24_1 w =>
 xBin Try.prog .add 3 false t20 true (.int .i64 1) w fun t28_1 w =>
 xMapUpdate Try.prog 184 t3 t24_1 t28_1 w fun _ w =>
 xBin Try.prog .add 3 false t20 true (.int .i64 1) w fun t29_1 w =>
 nxt0 [t29_1] w)
 (xAlloc Try.prog 25 w fun t7 w =>
 xBuiltin Try.prog .len #[66] 3 [false] [t4] w fun t31 w =>
 xLoop [(.int .i64 0)] w [32] fun u w nxt2 =>
 canon_Canon_l2 K nxt2 t1 t2 t3 t4 t7 t31 (u 32) w)
def canon_Canon (K : K1) (t0 : Value) (w : World) : Prop :=
 xBox Try.prog 25 t0 w fun t1 w =>
 xAlloc Try.prog 25 w fun t2 w =>
 xMakeMap Try.prog 184 none w fun t15 w =>
 xLoad Try.prog 25 t1 w fun t16 w =>
 xCall Try.prog (fnv 117) [t16] w fun t17 w =>
 xBuiltin Try.prog .len #[66] 3 [false] [t17] w fun t19 w =>
 xLoop [(.int .i64 0)] w [20] fun u w nxt0 =>
 canon_Canon_l1 K nxt0 t1 t2 t15 t17 t17 t19 (u 20) w
abbrev n_canon_Canon : Nat := 89
def canon_Canon_ann : Ann := { loop := fun i => bif Nat.beq i 4 then [54] else bif Nat.beq i 6 then [81] else bif Nat.beq i 2 then [32] else bif Nat.beq i 0 then [20] else [], wr := fun i => bif Nat.beq i 4 then [12, 54, 55, 56, 57, 58, 59, 60, 61, 62, 63, 64, 65, 66] else bif Nat.beq i 6 then [14, 81, 82, 83, 84, 85, 86, 87, 88, 89, 90, 91, 92, 93, 94, 95, 96, 97] else bif Nat.beq i 2 then [9, 10, 12, 32, 33, 34, 35, 36, 37, 38, 39, 40, 41, 42, 43, 44, 45, 46, 47, 48, 49, 50, 51, 52, 53, 54, 55, 56, 57, 58, 59, 60, 61, 62, 63, 64, 65, 66, 67, 68, 69, 70, 71, 72, 73, 74, 75, 76, 77] else bif Nat.beq i 0 then [5, 6, 20, 21, 22, 23, 24, 25, 26, 27, 28, 29] else [], told := fun i => bif Nat.beq i 26 then [(0, false, ⟨0, 316912650057057350374175801472, some 98⟩), (1, false, ⟨1, 950737950171172051122527404032, some 99⟩), (3, false, ⟨0, 2535301200456458802993406410880, some 101⟩), (4, false, ⟨8, 7605903601369376408980219232256, some 102⟩), (2, false, ⟨2, 1901475900342344102245054808064, some 100⟩), (6, false, ⟨31, 20282409603651670423947251286144, some 104⟩), (5, false, ⟨20, 15211807202738752817960438464512, some 103⟩), (7, false, ⟨127, 21550060203879899825443954491392, none⟩), (8, false, ⟨255, 40564819207303340847894502572160, some 105⟩), (9, false, ⟨511, 50706024009129176059868128215040, none⟩)] else [], sq := fun i => bif Nat.beq i 26 then some (.rd true 0 (.rd false 1 (.rd true 3 (.rd false 4 (.ef 2 [4] (.rd true 6 (.ef 5 [] (.ef 7 [] (.rd true 8 (.ef 9 [] .done)))))))))) else none }
theorem canon_Canon_eq (t0 : Value) (w : World) (K : K1) : reads Try.prog canon_Canon_ann Try.f89 #[t0] w K = canon_Canon K t0 w := by kernel_rfl
theorem canon_Canon_of {t0 : Value} {w : World} {K : K1} (h : canon_Canon K t0 w) : Yld Try.prog n_canon_Canon #[t0] w K :=
  yld_of mixed canon_Canon_ann Try.func89 (by kernel_rfl) (canon_Canon_eq t0 w K) h

/-! loam/loamref14.Right: function 90 -/
/-! (*loam/check.walk).objects: function 91 -/
/-! (*loam/check.walk).object: function 92 -/
/-! loam/table.Fix: function 93 -/
def table_Fix (K : K1) (t0 : Value) (w : World) : Prop :=
 xAlloc Try.prog 157 w fun t2 w =>
 xAlloc Try.prog 157 w fun t4 w =>
 xBuiltin Try.prog .len #[9] 3 [false] [t0] w fun t6 w =>
 xBin Try.prog .lss 3 false t6 true (.int .i64 1) w fun t7 w =>
 xGuard t7 false (fun w K => K t0 w) w fun t9 w =>
 xGuard t7 false (fun w K => xBuiltin Try.prog .len #[9] 3 [false] [t9] w K) w fun t10 w =>
 xGuard t7 false (fun w K => xBin Try.prog .gtr 3 false t10 true (.int .i64 32) w K) w fun t11 w =>
 xPick t7 (.bool true) t11 w fun t12 w =>
 xGuard t12 false (fun w K => K t0 w) w fun t14 w =>
 xGuard t12 false (fun w K => xCall Try.prog (fnv 120) [t14, (.string { data := #[0] })] w K) w fun t15 w =>
 xPick t12 (.bool true) t15 w fun t16 w =>
 xIf t16
 (xBuild Try.prog 157 [] w fun t17 w =>
 xStore Try.prog 157 t2 t17 w fun _ w =>
 xLoadR Try.prog 157 t2 w fun r0 =>
 K (.tuple #[r0, (.int .i64 4)]) w)
 (xSlice Try.prog 157 t4 none none none w fun t18 w =>
 xBuiltin Try.prog .copy #[70, 9] 3 [false, false] [t18, t0] w fun t20 w =>
 xLoad Try.prog 157 t4 w fun t21 w =>
 xStore Try.prog 157 t2 t21 w fun _ w =>
 xLoadR Try.prog 157 t2 w fun r0 =>
 K (.tuple #[r0, (.int .i64 0)]) w)
abbrev n_table_Fix : Nat := 93
def table_Fix_ann : Ann := { loop := fun i => [], wr := fun i => [], told := fun i => [] }
theorem table_Fix_eq (t0 : Value) (w : World) (K : K1) : reads Try.prog table_Fix_ann Try.f93 #[t0] w K = table_Fix K t0 w := by kernel_rfl
theorem table_Fix_of {t0 : Value} {w : World} {K : K1} (h : table_Fix K t0 w) : Yld Try.prog n_table_Fix #[t0] w K :=
  yld_of mixed table_Fix_ann Try.func93 (by kernel_rfl) (table_Fix_eq t0 w K) h

/-! (loam/table.Name).String: function 94 -/
def table_Name_String (K : K1) (t0 : Value) (w : World) : Prop :=
 xBox Try.prog 157 t0 w fun t1 w =>
 xSlice Try.prog 157 t1 none none none w fun t7 w =>
 xConv Try.prog 70 9 t7 w fun t8 w =>
 xCall Try.prog (fnv 121) [t8, (.string { data := #[0] })] w fun t9 w =>
 xExtract Try.prog t9 0 w fun t10 w =>
 xExtract Try.prog t9 1 w fun t11 w =>
 xExtract Try.prog t9 2 w fun t12 w =>
 K t10 w
abbrev n_table_Name_String : Nat := 94
def table_Name_String_ann : Ann := { loop := fun i => [], wr := fun i => [], told := fun i => [] }
theorem table_Name_String_eq (t0 : Value) (w : World) (K : K1) : reads Try.prog table_Name_String_ann Try.f94 #[t0] w K = table_Name_String K t0 w := by kernel_rfl
theorem table_Name_String_of {t0 : Value} {w : World} {K : K1} (h : table_Name_String K t0 w) : Yld Try.prog n_table_Name_String #[t0] w K :=
  yld_of mixed table_Name_String_ann Try.func94 (by kernel_rfl) (table_Name_String_eq t0 w K) h

/-! loam/space.may: function 95 -/
def space_may (K : K1) (t0 t1 t2 t3 : Value) (w : World) : Prop :=
 xBin Try.prog .neq 99 false t0 true (.pointer none) w fun t10 w =>
 xGuard t10 true (fun w K => K t1 w) w fun t12 w =>
 xGuard t10 true (fun w K => xBin Try.prog .geq 3 false t12 true (.int .i64 0) w K) w fun t13 w =>
 xPick t10 t13 (.bool false) w fun t14 w =>
 xGuard t14 true (fun w K => K t1 w) w fun t16 w =>
 xGuard t14 true (fun w K => K t2 w) w fun t17 w =>
 xGuard t14 true (fun w K => xBin Try.prog .leq 3 false t16 false t17 w K) w fun t18 w =>
 xPick t14 t18 (.bool false) w fun t19 w =>
 xGuard t19 true (fun w K => K t2 w) w fun t21 w =>
 xGuard t19 true (fun w K => K t3 w) w fun t22 w =>
 xGuard t19 true (fun w K => xBin Try.prog .leq 3 false t21 false t22 w K) w fun t23 w =>
 xPick t19 t23 (.bool false) w fun t24 w =>
 xGuard t24 true (fun w K => K t3 w) w fun t26 w =>
 xGuard t24 true (fun w K => K t0 w) w fun t27 w =>
 xGuard t24 true (fun w K => xCall Try.prog (fnv 58) [t27] w K) w fun t28 w =>
 xGuard t24 true (fun w K => xBin Try.prog .leq 3 false t26 false t28 w K) w fun t29 w =>
 xPick t24 t29 (.bool false) w fun t30 w =>
 K t30 w
abbrev n_space_may : Nat := 95
def space_may_ann : Ann := { loop := fun i => [], wr := fun i => [], told := fun i => [] }
theorem space_may_eq (t0 t1 t2 t3 : Value) (w : World) (K : K1) : reads Try.prog space_may_ann Try.f95 #[t0, t1, t2, t3] w K = space_may K t0 t1 t2 t3 w := by kernel_rfl
theorem space_may_of {t0 t1 t2 t3 : Value} {w : World} {K : K1} (h : space_may K t0 t1 t2 t3 w) : Yld Try.prog n_space_may #[t0, t1, t2, t3] w K :=
  yld_of mixed space_may_ann Try.func95 (by kernel_rfl) (space_may_eq t0 t1 t2 t3 w K) h

/-! loam/mem.in: function 96 -/
def mem_in (K : K1) (t0 t1 t2 : Value) (w : World) : Prop :=
 xBin Try.prog .geq 3 false t0 true (.int .i64 0) w fun t8 w =>
 xGuard t8 true (fun w K => K t1 w) w fun t10 w =>
 xGuard t8 true (fun w K => xBin Try.prog .geq 3 false t10 true (.int .i64 0) w K) w fun t11 w =>
 xPick t8 t11 (.bool false) w fun t12 w =>
 xGuard t12 true (fun w K => K t1 w) w fun t14 w =>
 xGuard t12 true (fun w K => K t2 w) w fun t15 w =>
 xGuard t12 true (fun w K => xBin Try.prog .leq 3 false t14 false t15 w K) w fun t16 w =>
 xPick t12 t16 (.bool false) w fun t17 w =>
 xGuard t17 true (fun w K => K t0 w) w fun t19 w =>
 xGuard t17 true (fun w K => K t2 w) w fun t20 w =>
 xGuard t17 true (fun w K => K t1 w) w fun t21 w =>
 xGuard t17 true (fun w K => xBin Try.prog .sub 3 false t20 false t21 w K) w fun t22 w =>
 xGuard t17 true (fun w K => xBin Try.prog .leq 3 false t19 false t22 w K) w fun t23 w =>
 xPick t17 t23 (.bool false) w fun t24 w =>
 K t24 w
abbrev n_mem_in : Nat := 96
def mem_in_ann : Ann := { loop := fun i => [], wr := fun i => [], told := fun i => [] }
theorem mem_in_eq (t0 t1 t2 : Value) (w : World) (K : K1) : reads Try.prog mem_in_ann Try.f96 #[t0, t1, t2] w K = mem_in K t0 t1 t2 w := by kernel_rfl
theorem mem_in_of {t0 t1 t2 : Value} {w : World} {K : K1} (h : mem_in K t0 t1 t2 w) : Yld Try.prog n_mem_in #[t0, t1, t2] w K :=
  yld_of mixed mem_in_ann Try.func96 (by kernel_rfl) (mem_in_eq t0 t1 t2 w K) h

/-! loam/loamref14.among: function 97 -/
/-! loam/loamref14.byteAt: function 98 -/
/-! (loam/graph.Graph).node: function 99 -/
def graph_Graph_node_l1 (K : K1) (nxt0 : List Value → World → Prop) (t2 t3 t8 t9 t10 : Value) (w : World) : Prop :=
 xBin Try.prog .lss 3 false t10 false t9 w fun t11_1 w =>
 xIf t11_1
 (xIndexAddr Try.prog 66 t8 t10 w fun t12_1 w =>
 xLoad Try.prog 3 t12_1 w fun t13_1 w =>
 xBin Try.prog .lss 3 false t13_1 true (.int .i64 0) w fun t15_1 w =>
 xGuard t15_1 false (fun w K => K t13_1 w) w fun t17_1 w =>
 xGuard t15_1 false (fun w K => xFieldAddr Try.prog 25 t2 0 w K) w fun t18_1 w =>
 xGuard t15_1 false (fun w K => xLoad Try.prog 22 t18_1 w K) w fun t19_1 w =>
 xGuard t15_1 false (fun w K => xBuiltin Try.prog .len #[22] 3 [false] [t19_1] w K) w fun t20_1 w =>
 xGuard t15_1 false (fun w K => xBin Try.prog .gtr 3 false t17_1 false t20_1 w K) w fun t21_1 w =>
 xPick t15_1 (.bool true) t21_1 w fun t22_1 w =>
 xIf t22_1
 (K (.int .i64 1) w)
 (xBin Try.prog .add 3 false t10 true (.int .i64 1) w fun t23_1 w =>
 nxt0 [t23_1] w))
 (xFieldAddr Try.prog 72 t3 0 w fun t24 w =>
 xLoad Try.prog 66 t24 w fun t25 w =>
 xBuiltin Try.prog .len #[66] 3 [false] [t25] w fun t26 w =>
 xBin Try.prog .gtr 3 false t26 true (.int .i64 64) w fun t27 w =>
 xGuard t27 false (fun w K => xFieldAddr Try.prog 72 t3 1 w K) w fun t29 w =>
 xGuard t27 false (fun w K => xLoad Try.prog 70 t29 w K) w fun t30 w =>
 xGuard t27 false (fun w K => xBuiltin Try.prog .len #[70] 3 [false] [t30] w K) w fun t31 w =>
 xGuard t27 false (fun w K => xBin Try.prog .gtr 3 false t31 true (.int .i64 1024) w K) w fun t32 w =>
 xPick t27 (.bool true) t32 w fun t33 w =>
 xIf t33
 (K (.int .i64 3) w)
 (K (.int .i64 0) w))
def graph_Graph_node (K : K1) (t0 t1 : Value) (w : World) : Prop :=
 xBox Try.prog 25 t0 w fun t2 w =>
 xBox Try.prog 72 t1 w fun t3 w =>
 xFieldAddr Try.prog 72 t3 0 w fun t7 w =>
 xLoad Try.prog 66 t7 w fun t8 w =>
 xBuiltin Try.prog .len #[66] 3 [false] [t8] w fun t9 w =>
 xLoop [(.int .i64 0)] w [10] fun u w nxt0 =>
 graph_Graph_node_l1 K nxt0 t2 t3 t8 t9 (u 10) w
abbrev n_graph_Graph_node : Nat := 99
def graph_Graph_node_ann : Ann := { loop := fun i => bif Nat.beq i 0 then [10] else [], wr := fun i => bif Nat.beq i 0 then [4, 6, 10, 11, 12, 13, 14, 15, 16, 17, 18, 19, 20, 21, 22, 23] else [], told := fun i => [] }
theorem graph_Graph_node_eq (t0 t1 : Value) (w : World) (K : K1) : reads Try.prog graph_Graph_node_ann Try.f99 #[t0, t1] w K = graph_Graph_node K t0 t1 w := by kernel_rfl
theorem graph_Graph_node_of {t0 t1 : Value} {w : World} {K : K1} (h : graph_Graph_node K t0 t1 w) : Yld Try.prog n_graph_Graph_node #[t0, t1] w K :=
  yld_of mixed graph_Graph_node_ann Try.func99 (by kernel_rfl) (graph_Graph_node_eq t0 t1 w K) h

/-! (loam/graph.Graph).root: function 100 -/
def graph_Graph_root (K : K1) (t0 t1 : Value) (w : World) : Prop :=
 xBox Try.prog 25 t0 w fun t2 w =>
 xFieldAddr Try.prog 25 t2 1 w fun t6 w =>
 xLoad Try.prog 23 t6 w fun t7 w =>
 xIndexAddr Try.prog 23 t7 t1 w fun t9 w =>
 xLoad Try.prog 74 t9 w fun t10 w =>
 xAlloc Try.prog 74 w fun t5 w =>
 xStore Try.prog 74 t5 t10 w fun _ w =>
 xFieldAddr Try.prog 74 t5 0 w fun t12 w =>
 xLoad Try.prog 9 t12 w fun t13 w =>
 xBuiltin Try.prog .len #[9] 3 [false] [t13] w fun t14 w =>
 xBin Try.prog .lss 3 false t14 true (.int .i64 1) w fun t15 w =>
 xGuard t15 false (fun w K => xFieldAddr Try.prog 74 t5 0 w K) w fun t17 w =>
 xGuard t15 false (fun w K => xLoad Try.prog 9 t17 w K) w fun t18 w =>
 xGuard t15 false (fun w K => xBuiltin Try.prog .len #[9] 3 [false] [t18] w K) w fun t19 w =>
 xGuard t15 false (fun w K => xBin Try.prog .gtr 3 false t19 true (.int .i64 32) w K) w fun t20 w =>
 xPick t15 (.bool true) t20 w fun t21 w =>
 xGuard t21 false (fun w K => xFieldAddr Try.prog 74 t5 0 w K) w fun t23 w =>
 xGuard t21 false (fun w K => xLoad Try.prog 9 t23 w K) w fun t24 w =>
 xGuard t21 false (fun w K => xCall Try.prog (fnv 120) [t24, (.string { data := #[0] })] w K) w fun t25 w =>
 xPick t21 (.bool true) t25 w fun t26 w =>
 xIf t26
 (K (.int .i64 4) w)
 (xSq w.drew fun w =>
 xPur w (fun w K => K t1 w) fun t28 =>
 xPur w (fun w K => xBin Try.prog .gtr 3 false t28 true (.int .i64 0) w K) fun t29 =>
 xPur w (fun w K => K t29 w) fun t30 =>
 xPur w (fun w K => xGuard t30 true (fun w K => xFieldAddr Try.prog 25 t2 1 w K) w K) fun t31 =>
 xRd w (fun K => xGuard t30 true (fun w K => xLoad Try.prog 23 t31 w K) w K) fun t32 =>
 xPur w (fun w K => xGuard t30 true (fun w K => K t1 w) w K) fun t33 =>
 xPur w (fun w K => xGuard t30 true (fun w K => xBin Try.prog .sub 3 false t33 true (.int .i64 1) w K) w K) fun t34 =>
 xPur w (fun w K => xGuard t30 true (fun w K => xIndexAddr Try.prog 23 t32 t34 w K) w K) fun t35 =>
 xPur w (fun w K => xGuard t30 true (fun w K => xFieldAddr Try.prog 74 t35 0 w K) w K) fun t36 =>
 xRd w (fun K => xGuard t30 true (fun w K => xLoad Try.prog 9 t36 w K) w K) fun t37 =>
 xPur w (fun w K => xGuard t30 true (fun w K => xFieldAddr Try.prog 74 t5 0 w K) w K) fun t38 =>
 xRd w (fun K => xGuard t30 true (fun w K => xLoad Try.prog 9 t38 w K) w K) fun t39 =>
 xPur w (fun w K => xGuard t30 true (fun w K => xBin Try.prog .geq 9 false t37 false t39 w K) w K) fun t40 =>
 xPur w (fun w K => xPick t30 t40 (.bool false) w K) fun t41 =>
 xPur w (fun w K => K t41 w) fun t27 =>
 xIf t27
 (K (.int .i64 4) w)
 (xFieldAddr Try.prog 74 t5 1 w fun t43 w =>
 xLoad Try.prog 3 t43 w fun t44 w =>
 xBin Try.prog .lss 3 false t44 true (.int .i64 0) w fun t45 w =>
 xGuard t45 false (fun w K => xFieldAddr Try.prog 74 t5 1 w K) w fun t47 w =>
 xGuard t45 false (fun w K => xLoad Try.prog 3 t47 w K) w fun t48 w =>
 xGuard t45 false (fun w K => xFieldAddr Try.prog 25 t2 0 w K) w fun t49 w =>
 xGuard t45 false (fun w K => xLoad Try.prog 22 t49 w K) w fun t50 w =>
 xGuard t45 false (fun w K => xBuiltin Try.prog .len #[22] 3 [false] [t50] w K) w fun t51 w =>
 xGuard t45 false (fun w K => xBin Try.prog .gtr 3 false t48 false t51 w K) w fun t52 w =>
 xPick t45 (.bool true) t52 w fun t53 w =>
 xIf t53
 (K (.int .i64 1) w)
 (K (.int .i64 0) w)))
abbrev n_graph_Graph_root : Nat := 100
def graph_Graph_root_ann : Ann := { loop := fun i => [], wr := fun i => [], told := fun i => bif Nat.beq i 4 then [(0, false, ⟨0, 268435458, some 28⟩), (1, false, ⟨1, 805306368, some 29⟩), (2, false, ⟨2, 1610612736, some 30⟩), (3, false, ⟨4, 3221225476, some 31⟩), (4, false, ⟨12, 7516192768, some 32⟩), (5, false, ⟨4, 9663676418, some 33⟩), (6, false, ⟨36, 26843545600, some 34⟩), (7, false, ⟨84, 56908316672, some 35⟩), (8, false, ⟨132, 104152956928, some 36⟩), (9, false, ⟨260, 207232172032, some 37⟩), (10, false, ⟨4, 275951648800, some 38⟩), (11, false, ⟨1028, 825707462656, some 39⟩), (12, false, ⟨2564, 1787780136960, some 40⟩), (13, false, ⟨4100, 3299608625152, some 41⟩), (14, false, ⟨8196, 2199157473280, some 27⟩)] else [], sq := fun i => bif Nat.beq i 4 then some (.rd true 0 (.rd true 1 (.rd true 2 (.rd true 3 (.rd false 4 (.rd true 5 (.rd true 6 (.rd true 7 (.rd true 8 (.rd false 9 (.rd true 10 (.rd false 11 (.rd true 12 (.rd true 13 (.rd true 14 .done))))))))))))))) else none }
theorem graph_Graph_root_eq (t0 t1 : Value) (w : World) (K : K1) : reads Try.prog graph_Graph_root_ann Try.f100 #[t0, t1] w K = graph_Graph_root K t0 t1 w := by kernel_rfl
theorem graph_Graph_root_of {t0 t1 : Value} {w : World} {K : K1} (h : graph_Graph_root K t0 t1 w) : Yld Try.prog n_graph_Graph_root #[t0, t1] w K :=
  yld_of mixed graph_Graph_root_ann Try.func100 (by kernel_rfl) (graph_Graph_root_eq t0 t1 w K) h

/-! loam/bits.mask: function 101 -/
def bits_mask (K : K1) (t0 t1 : Value) (w : World) : Prop :=
 xBin Try.prog .lss 3 false t0 true (.int .i64 0) w fun t7 w =>
 xGuard t7 false (fun w K => K t0 w) w fun t9 w =>
 xGuard t7 false (fun w K => xBin Try.prog .geq 3 false t9 true (.int .i64 64) w K) w fun t10 w =>
 xPick t7 (.bool true) t10 w fun t11 w =>
 xGuard t11 false (fun w K => K t1 w) w fun t13 w =>
 xGuard t11 false (fun w K => xBin Try.prog .lss 3 false t13 true (.int .i64 1) w K) w fun t14 w =>
 xPick t11 (.bool true) t14 w fun t15 w =>
 xGuard t15 false (fun w K => K t1 w) w fun t17 w =>
 xGuard t15 false (fun w K => K t0 w) w fun t18 w =>
 xGuard t15 false (fun w K => xBin Try.prog .sub 3 true (.int .i64 64) false t18 w K) w fun t19 w =>
 xGuard t15 false (fun w K => xBin Try.prog .gtr 3 false t17 false t19 w K) w fun t20 w =>
 xPick t15 (.bool true) t20 w fun t21 w =>
 xIf t21
 (K (.tuple #[(c64 0), (.bool false)]) w)
 (xBin Try.prog .sub 3 true (.int .i64 64) false t1 w fun t23 w =>
 xBin Try.prog .shr 69 true (c64 18446744073709551615) false t23 w fun t24 w =>
 xBin Try.prog .shl 69 false t24 false t0 w fun t26 w =>
 K (.tuple #[t26, (.bool true)]) w)
abbrev n_bits_mask : Nat := 101
def bits_mask_ann : Ann := { loop := fun i => [], wr := fun i => [], told := fun i => [] }
theorem bits_mask_eq (t0 t1 : Value) (w : World) (K : K1) : reads Try.prog bits_mask_ann Try.f101 #[t0, t1] w K = bits_mask K t0 t1 w := by kernel_rfl
theorem bits_mask_of {t0 t1 : Value} {w : World} {K : K1} (h : bits_mask K t0 t1 w) : Yld Try.prog n_bits_mask #[t0, t1] w K :=
  yld_of mixed bits_mask_ann Try.func101 (by kernel_rfl) (bits_mask_eq t0 t1 w K) h

/-! loam/head.Pack: function 102 -/
def head_Pack (K : K1) (t0 : Value) (w : World) : Prop :=
 xBox Try.prog 123 t0 w fun t1 w =>
 xLoad Try.prog 123 t1 w fun t5 w =>
 xCall Try.prog (fnv 122) [t5] w fun t6 w =>
 xUn Try.prog .not t6 w fun t7 w =>
 xIf t7
 (K (.tuple #[(c64 0), (.int .i64 1)]) w)
 (xFieldAddr Try.prog 123 t1 2 w fun t8 w =>
 xLoad Try.prog 4 t8 w fun t9 w =>
 xIf t9
 (xBin Try.prog .or 69 false (c64 9223372036854775808) true (c64 1) w fun t11 w =>
 xFieldAddr Try.prog 123 t1 3 w fun t12 w =>
 xLoad Try.prog 3 t12 w fun t13 w =>
 xConv Try.prog 3 69 t13 w fun t14 w =>
 xCall Try.prog (fnv 57) [t11, (.int .i64 32), (.int .i64 16), t14] w fun t15 w =>
 K (.tuple #[t15, (.int .i64 0)]) w)
 (xDraw w.drew fun le H =>
 xDet le (H) (fun w K => K (c64 9223372036854775808) w) fun t16 =>
 xDet le (H) (fun w K => xFieldAddr Try.prog 123 t1 0 w K) fun t17 =>
 xDet le (H) (fun w K => xLoad Try.prog 3 t17 w K) fun t18 =>
 xDet le (H) (fun w K => xConv Try.prog 3 69 t18 w K) fun t19 =>
 xDet le (H) (fun w K => xFieldAddr Try.prog 123 t1 1 w K) fun t21 =>
 xDet le (H) (fun w K => xLoad Try.prog 3 t21 w K) fun t22 =>
 xDet le (H) (fun w K => xConv Try.prog 3 69 t22 w K) fun t23 =>
 xDet le (H) (fun w K => xCall Try.prog (fnv 57) [t16, (.int .i64 1), (.int .i64 8), t19] w K) fun t20 =>
 xDet le (H) (fun w K => xCall Try.prog (fnv 57) [t20, (.int .i64 16), (.int .i64 12), t23] w K) fun t24 =>
 xDet le (H) (fun w K => K t24 w) fun t2 =>
 xDet le (H) (fun w K => K (.int .i64 0) w) fun t3 =>
 xEnd (H) fun w =>
 K (.tuple #[t2, t3]) w))
abbrev n_head_Pack : Nat := 102
def head_Pack_ann : Ann := { loop := fun i => [], wr := fun i => [], told := fun i => bif Nat.beq i 6 then [(0, false, ⟨0, 65552, some 16⟩), (1, false, ⟨0, 131074, some 17⟩), (2, false, ⟨2, 393216, some 18⟩), (3, false, ⟨4, 786432, some 19⟩), (5, false, ⟨0, 2097154, some 21⟩), (6, false, ⟨32, 6291456, some 22⟩), (7, false, ⟨64, 12582912, some 23⟩), (4, false, ⟨9, 1638400, some 20⟩), (8, false, ⟨144, 26214400, some 24⟩), (9, false, ⟨511, 16777220, some 2⟩), (10, false, ⟨1023, 8, some 3⟩)] else [] }
theorem head_Pack_eq (t0 : Value) (w : World) (K : K1) : reads Try.prog head_Pack_ann Try.f102 #[t0] w K = head_Pack K t0 w := by kernel_rfl
theorem head_Pack_of {t0 : Value} {w : World} {K : K1} (h : head_Pack K t0 w) : Yld Try.prog n_head_Pack #[t0] w K :=
  yld_of mixed head_Pack_ann Try.func102 (by kernel_rfl) (head_Pack_eq t0 w K) h

/-! loam/head.Size: function 103 -/
def head_Size (K : K1) (t0 : Value) (w : World) : Prop :=
 xBox Try.prog 123 t0 w fun t1 w =>
 xLoad Try.prog 123 t1 w fun t3 w =>
 xCall Try.prog (fnv 122) [t3] w fun t4 w =>
 xUn Try.prog .not t4 w fun t5 w =>
 xGuard t5 false (fun w K => xFieldAddr Try.prog 123 t1 2 w K) w fun t7 w =>
 xGuard t5 false (fun w K => xLoad Try.prog 4 t7 w K) w fun t8 w =>
 xPick t5 (.bool true) t8 w fun t9 w =>
 xIf t9
 (K (.int .i64 0) w)
 (xFieldAddr Try.prog 123 t1 0 w fun t10 w =>
 xLoad Try.prog 3 t10 w fun t11 w =>
 xBin Try.prog .add 3 true (.int .i64 1) false t11 w fun t12 w =>
 xFieldAddr Try.prog 123 t1 1 w fun t13 w =>
 xLoad Try.prog 3 t13 w fun t14 w =>
 xBin Try.prog .add 3 false t14 true (.int .i64 8) w fun t15 w =>
 xBin Try.prog .sub 3 false t15 true (.int .i64 1) w fun t16 w =>
 xBin Try.prog .quo 3 false t16 true (.int .i64 8) w fun t17 w =>
 xBin Try.prog .add 3 false t12 false t17 w fun t18 w =>
 K t18 w)
abbrev n_head_Size : Nat := 103
def head_Size_ann : Ann := { loop := fun i => [], wr := fun i => [], told := fun i => [] }
theorem head_Size_eq (t0 : Value) (w : World) (K : K1) : reads Try.prog head_Size_ann Try.f103 #[t0] w K = head_Size K t0 w := by kernel_rfl
theorem head_Size_of {t0 : Value} {w : World} {K : K1} (h : head_Size K t0 w) : Yld Try.prog n_head_Size #[t0] w K :=
  yld_of mixed head_Size_ann Try.func103 (by kernel_rfl) (head_Size_eq t0 w K) h

/-! (*loam/space.Space).Free: function 104 -/
def space_Space_Free (K : K1) (t0 : Value) (w : World) : Prop :=
 xSq w.drew fun w =>
 xPur w (fun w K => K t0 w) fun t3 =>
 xPur w (fun w K => xNilCheck t3 w K) fun t4 =>
 xPur w (fun w K => xFieldAddr Try.prog 102 t4 3 w K) fun t5 =>
 xRd w (fun K => xLoad Try.prog 3 t5 w K) fun t6 =>
 xPur w (fun w K => K t0 w) fun t7 =>
 xPur w (fun w K => xNilCheck t7 w K) fun t8 =>
 xPur w (fun w K => xFieldAddr Try.prog 102 t8 2 w K) fun t9 =>
 xRd w (fun K => xLoad Try.prog 3 t9 w K) fun t10 =>
 xPur w (fun w K => xBin Try.prog .sub 3 false t6 false t10 w K) fun t11 =>
 xPur w (fun w K => K t11 w) fun t2 =>
 K t2 w
abbrev n_space_Space_Free : Nat := 104
def space_Space_Free_ann : Ann := { loop := fun i => [], wr := fun i => [], told := fun i => bif Nat.beq i 1 then [(0, false, ⟨0, 9, some 3⟩), (1, false, ⟨1, 24, some 4⟩), (2, false, ⟨2, 48, some 5⟩), (3, false, ⟨4, 96, some 6⟩), (4, false, ⟨0, 129, some 7⟩), (5, false, ⟨16, 384, some 8⟩), (6, false, ⟨32, 768, some 9⟩), (7, false, ⟨64, 1536, some 10⟩), (8, false, ⟨136, 3136, some 11⟩), (9, false, ⟨511, 2052, some 2⟩)] else [], sq := fun i => bif Nat.beq i 1 then some (.rd true 0 (.rd true 1 (.rd true 2 (.rd false 3 (.rd true 4 (.rd true 5 (.rd true 6 (.rd false 7 (.rd true 8 (.rd true 9 .done)))))))))) else none }
theorem space_Space_Free_eq (t0 : Value) (w : World) (K : K1) : reads Try.prog space_Space_Free_ann Try.f104 #[t0] w K = space_Space_Free K t0 w := by kernel_rfl
theorem space_Space_Free_of {t0 : Value} {w : World} {K : K1} (h : space_Space_Free K t0 w) : Yld Try.prog n_space_Space_Free #[t0] w K :=
  yld_of mixed space_Space_Free_ann Try.func104 (by kernel_rfl) (space_Space_Free_eq t0 w K) h

/-! (*loam/mem.Mem).SetBytes: function 105 -/
def mem_Mem_SetBytes_l1 (K : K1) (nxt0 : List Value → World → Prop) (t0 t1 t23 t24 t25 : Value) (w : World) : Prop :=
 xBin Try.prog .lss 3 false t25 false t24 w fun t26_1 w =>
 xIf t26_1
 (xIndexAddr Try.prog 70 t23 t25 w fun t28_1 w =>
 xLoad Try.prog 5 t28_1 w fun t29_1 w =>
 xBin Try.prog .add 3 false t1 false t25 w fun t32_1 w =>
 xBin Try.prog .rem 3 false t32_1 true (.int .i64 8) w fun t34_1 w =>
 xBin Try.prog .mul 3 true (.int .i64 8) false t34_1 w fun t35_1 w =>
 xNilCheck t0 w fun t37_1 w =>
 xFieldAddr Try.prog 165 t37_1 0 w fun t38_1 w =>
 xLoad Try.prog 28 t38_1 w fun t39_1 w =>
 xBin Try.prog .quo 3 false t32_1 true (.int .i64 8) w fun t41_1 w =>
 xIndexAddr Try.prog 28 t39_1 t41_1 w fun t42_1 w =>
 xDraw w.drew fun le H =>
 xDet le (H) (fun w K => K t42_1 w) fun t43_1 =>
 xDet le (H) (fun w K => K t42_1 w) fun t44_1 =>
 xDet le (H) (fun w K => xNilCheck t44_1 w K) fun t45_1 =>
 xDet le (H) (fun w K => xLoad Try.prog 69 t45_1 w K) fun t46_1 =>
 xDet le (H) (fun w K => K t35_1 w) fun t47_1 =>
 xDet le (H) (fun w K => xBin Try.prog .shl 69 true (c64 255) false t47_1 w K) fun t48_1 =>
 xDet le (H) (fun w K => xBin Try.prog .andNot 69 false t46_1 false t48_1 w K) fun t49_1 =>
 xDet le (H) (fun w K => K t29_1 w) fun t50_1 =>
 xDet le (H) (fun w K => xConv Try.prog 5 69 t50_1 w K) fun t51_1 =>
 xDet le (H) (fun w K => K t35_1 w) fun t52_1 =>
 xDet le (H) (fun w K => xBin Try.prog .shl 69 false t51_1 false t52_1 w K) fun t53_1 =>
 xDet le (H) (fun w K => xBin Try.prog .or 69 false t49_1 false t53_1 w K) fun t54_1 =>
 xDet le (H) (fun w K => xNilCheck t43_1 w K) fun t55_1 =>
 xEnd (H) fun w =>
 xStore Try.prog 69 t55_1 t54_1 w fun _x13 w =>
 xBin Try.prog .add 3 false t25 true (.int .i64 1) w fun t56_1 w =>
 nxt0 [t56_1] w)
 (K (.int .i64 0) w)
def mem_Mem_SetBytes (K : K1) (t0 t1 t2 : Value) (w : World) : Prop :=
 xBuiltin Try.prog .len #[70] 3 [false] [t2] w fun t14 w =>
 xNilCheck t0 w fun t16 w =>
 xFieldAddr Try.prog 165 t16 0 w fun t17 w =>
 xLoad Try.prog 28 t17 w fun t18 w =>
 xBuiltin Try.prog .len #[28] 3 [false] [t18] w fun t19 w =>
 xBin Try.prog .mul 3 false t19 true (.int .i64 8) w fun t20 w =>
 xCall Try.prog (fnv 96) [t1, t14, t20] w fun t21 w =>
 xUn Try.prog .not t21 w fun t22 w =>
 xIf t22
 (K (.int .i64 1) w)
 (xBuiltin Try.prog .len #[70] 3 [false] [t2] w fun t24 w =>
 xLoop [(.int .i64 0)] w [25] fun u w nxt0 =>
 mem_Mem_SetBytes_l1 K nxt0 t0 t1 t2 t24 (u 25) w)
abbrev n_mem_Mem_SetBytes : Nat := 105
def mem_Mem_SetBytes_ann : Ann := { loop := fun i => bif Nat.beq i 0 then [25] else [], wr := fun i => bif Nat.beq i 0 then [7, 8, 9, 10, 11, 25, 26, 27, 28, 29, 30, 31, 32, 33, 34, 35, 36, 37, 38, 39, 40, 41, 42, 43, 44, 45, 46, 47, 48, 49, 50, 51, 52, 53, 54, 55, 56] else [], told := fun i => bif Nat.beq i 9 then [(0, false, ⟨0, 8796093024256, some 43⟩), (1, false, ⟨0, 17592186046464, some 44⟩), (2, false, ⟨2, 52776558133248, some 45⟩), (3, false, ⟨4, 105553116266496, some 46⟩), (4, false, ⟨0, 140737488356352, some 47⟩), (5, false, ⟨16, 422212465065984, some 48⟩), (6, false, ⟨40, 914793674309632, some 49⟩), (7, false, ⟨0, 1125899906842880, some 50⟩), (8, false, ⟨128, 3377699720527872, some 51⟩), (9, false, ⟨0, 4503599627371520, some 52⟩), (10, false, ⟨768, 15762598695796736, some 53⟩), (11, false, ⟨1088, 27584547717644288, some 54⟩), (12, false, ⟨4095, 36037593111986176, some 55⟩), (13, true, ⟨8191, 54043195528445952, none⟩)] else [] }
theorem mem_Mem_SetBytes_eq (t0 t1 t2 : Value) (w : World) (K : K1) : reads Try.prog mem_Mem_SetBytes_ann Try.f105 #[t0, t1, t2] w K = mem_Mem_SetBytes K t0 t1 t2 w := by kernel_rfl
theorem mem_Mem_SetBytes_of {t0 t1 t2 : Value} {w : World} {K : K1} (h : mem_Mem_SetBytes K t0 t1 t2 w) : Yld Try.prog n_mem_Mem_SetBytes #[t0, t1, t2] w K :=
  yld_of mixed mem_Mem_SetBytes_ann Try.func105 (by kernel_rfl) (mem_Mem_SetBytes_eq t0 t1 t2 w K) h

/-! slices.Clip[[]uint64,uint64]: function 106 -/
def slices_Clip_uint64_uint64 (K : K1) (t0 : Value) (w : World) : Prop :=
 xBuiltin Try.prog .len #[28] 3 [false] [t0] w fun t5 w =>
 xBuiltin Try.prog .len #[28] 3 [false] [t0] w fun t7 w =>
 xSlice Try.prog 28 t0 none (some t5) (some t7) w fun t8 w =>
 K t8 w
abbrev n_slices_Clip_uint64_uint64 : Nat := 106
def slices_Clip_uint64_uint64_ann : Ann := { loop := fun i => [], wr := fun i => [], told := fun i => [] }
theorem slices_Clip_uint64_uint64_eq (t0 : Value) (w : World) (K : K1) : reads Try.prog slices_Clip_uint64_uint64_ann Try.f106 #[t0] w K = slices_Clip_uint64_uint64 K t0 w := by kernel_rfl
theorem slices_Clip_uint64_uint64_of {t0 : Value} {w : World} {K : K1} (h : slices_Clip_uint64_uint64 K t0 w) : Yld Try.prog n_slices_Clip_uint64_uint64 #[t0] w K :=
  yld_of mixed slices_Clip_uint64_uint64_ann Try.func106 (by kernel_rfl) (slices_Clip_uint64_uint64_eq t0 w K) h

/-! slices.Clone[[]uint64,uint64]: function 107 -/
def slices_Clone_uint64_uint64 (K : K1) (t0 : Value) (w : World) : Prop :=
 xBin Try.prog .eql 28 false t0 true (.slice none 0 0) w fun t4 w =>
 xIf t4
 (K (.slice none 0 0) w)
 (xBuildSlice Try.prog 28 0 [] w fun t5 w =>
 xBuiltin Try.prog .append #[28, 28] 28 [false, false] [t5, t0] w fun t7 w =>
 K t7 w)
abbrev n_slices_Clone_uint64_uint64 : Nat := 107
def slices_Clone_uint64_uint64_ann : Ann := { loop := fun i => [], wr := fun i => [], told := fun i => [] }
theorem slices_Clone_uint64_uint64_eq (t0 : Value) (w : World) (K : K1) : reads Try.prog slices_Clone_uint64_uint64_ann Try.f107 #[t0] w K = slices_Clone_uint64_uint64 K t0 w := by kernel_rfl
theorem slices_Clone_uint64_uint64_of {t0 : Value} {w : World} {K : K1} (h : slices_Clone_uint64_uint64 K t0 w) : Yld Try.prog n_slices_Clone_uint64_uint64 #[t0] w K :=
  yld_of mixed slices_Clone_uint64_uint64_ann Try.func107 (by kernel_rfl) (slices_Clone_uint64_uint64_eq t0 w K) h

/-! (*loam/space.Space).Head: function 108 -/
def space_Space_Head (K : K1) (t0 t1 : Value) (w : World) : Prop :=
 xAlloc Try.prog 123 w fun t4 w =>
 xNilCheck t0 w fun t10 w =>
 xFieldAddr Try.prog 102 t10 1 w fun t11 w =>
 xLoad Try.prog 3 t11 w fun t12 w =>
 xBin Try.prog .lss 3 false t1 false t12 w fun t13 w =>
 xGuard t13 false (fun w K => K t1 w) w fun t15 w =>
 xGuard t13 false (fun w K => K t0 w) w fun t16 w =>
 xGuard t13 false (fun w K => xNilCheck t16 w K) w fun t17 w =>
 xGuard t13 false (fun w K => xFieldAddr Try.prog 102 t17 2 w K) w fun t18 w =>
 xGuard t13 false (fun w K => xLoad Try.prog 3 t18 w K) w fun t19 w =>
 xGuard t13 false (fun w K => xBin Try.prog .geq 3 false t15 false t19 w K) w fun t20 w =>
 xPick t13 (.bool true) t20 w fun t21 w =>
 xIf t21
 (xBuild Try.prog 123 [] w fun t22 w =>
 xStore Try.prog 123 t4 t22 w fun _ w =>
 xLoadR Try.prog 123 t4 w fun r0 =>
 K (.tuple #[r0, (.int .i64 1)]) w)
 (xNilCheck t0 w fun t25 w =>
 xFieldAddr Try.prog 102 t25 0 w fun t26 w =>
 xLoad Try.prog 99 t26 w fun t27 w =>
 xCall Try.prog (fnv 47) [t27, t1] w fun t29 w =>
 xExtract Try.prog t29 0 w fun t30 w =>
 xExtract Try.prog t29 1 w fun t31 w =>
 xBin Try.prog .neq 53 false t31 true (.int .i64 0) w fun t33 w =>
 xIf t33
 (xBuild Try.prog 123 [] w fun t34 w =>
 xStore Try.prog 123 t4 t34 w fun _ w =>
 xLoadR Try.prog 123 t4 w fun r0 =>
 K (.tuple #[r0, t31]) w)
 (xCall Try.prog (fnv 118) [t30] w fun t37 w =>
 xExtract Try.prog t37 0 w fun t38 w =>
 xExtract Try.prog t37 1 w fun t39 w =>
 xStore Try.prog 123 t4 t38 w fun _ w =>
 xLoadR Try.prog 123 t4 w fun r0 =>
 K (.tuple #[r0, t39]) w))
abbrev n_space_Space_Head : Nat := 108
def space_Space_Head_ann : Ann := { loop := fun i => [], wr := fun i => [], told := fun i => [] }
theorem space_Space_Head_eq (t0 t1 : Value) (w : World) (K : K1) : reads Try.prog space_Space_Head_ann Try.f108 #[t0, t1] w K = space_Space_Head K t0 t1 w := by kernel_rfl
theorem space_Space_Head_of {t0 t1 : Value} {w : World} {K : K1} (h : space_Space_Head K t0 t1 w) : Yld Try.prog n_space_Space_Head #[t0, t1] w K :=
  yld_of mixed space_Space_Head_ann Try.func108 (by kernel_rfl) (space_Space_Head_eq t0 t1 w K) h

/-! slices.Clip[[]int,int]: function 109 -/
def slices_Clip_int_int (K : K1) (t0 : Value) (w : World) : Prop :=
 xBuiltin Try.prog .len #[66] 3 [false] [t0] w fun t5 w =>
 xBuiltin Try.prog .len #[66] 3 [false] [t0] w fun t7 w =>
 xSlice Try.prog 66 t0 none (some t5) (some t7) w fun t8 w =>
 K t8 w
abbrev n_slices_Clip_int_int : Nat := 109
def slices_Clip_int_int_ann : Ann := { loop := fun i => [], wr := fun i => [], told := fun i => [] }
theorem slices_Clip_int_int_eq (t0 : Value) (w : World) (K : K1) : reads Try.prog slices_Clip_int_int_ann Try.f109 #[t0] w K = slices_Clip_int_int K t0 w := by kernel_rfl
theorem slices_Clip_int_int_of {t0 : Value} {w : World} {K : K1} (h : slices_Clip_int_int K t0 w) : Yld Try.prog n_slices_Clip_int_int #[t0] w K :=
  yld_of mixed slices_Clip_int_int_ann Try.func109 (by kernel_rfl) (slices_Clip_int_int_eq t0 w K) h

/-! (loam/image.reader).number: function 110 -/
def image_reader_number (K : K1) (t0 t1 : Value) (w : World) : Prop :=
 xBox Try.prog 132 t0 w fun t2 w =>
 xBin Try.prog .eql 69 false t1 true (c64 0) w fun t8 w =>
 xGuard t8 false (fun w K => K t1 w) w fun t10 w =>
 xGuard t8 false (fun w K => xBin Try.prog .gtr 69 false t10 true (c64 8192) w K) w fun t11 w =>
 xPick t8 (.bool true) t11 w fun t12 w =>
 xIf t12
 (K (.int .i64 0) w)
 (xFieldAddr Try.prog 132 t2 1 w fun t14 w =>
 xLoad Try.prog 66 t14 w fun t15 w =>
 xConv Try.prog 69 3 t1 w fun t17 w =>
 xBin Try.prog .sub 3 false t17 true (.int .i64 1) w fun t18 w =>
 xCall Try.prog (fnv 123) [t15, t18] w fun t19 w =>
 xExtract Try.prog t19 0 w fun t20 w =>
 xExtract Try.prog t19 1 w fun t21 w =>
 xUn Try.prog .not t21 w fun t23 w =>
 xIf t23
 (K (.int .i64 0) w)
 (xBin Try.prog .add 3 false t20 true (.int .i64 1) w fun t25 w =>
 K t25 w))
abbrev n_image_reader_number : Nat := 110
def image_reader_number_ann : Ann := { loop := fun i => [], wr := fun i => [], told := fun i => [] }
theorem image_reader_number_eq (t0 t1 : Value) (w : World) (K : K1) : reads Try.prog image_reader_number_ann Try.f110 #[t0, t1] w K = image_reader_number K t0 t1 w := by kernel_rfl
theorem image_reader_number_of {t0 t1 : Value} {w : World} {K : K1} (h : image_reader_number K t0 t1 w) : Yld Try.prog n_image_reader_number #[t0, t1] w K :=
  yld_of mixed image_reader_number_ann Try.func110 (by kernel_rfl) (image_reader_number_eq t0 t1 w K) h

/-! loam/obj.Read: function 111 -/
def obj_Read (K : K1) (t0 t1 t2 t3 : Value) (w : World) : Prop :=
 xCall Try.prog (fnv 124) [t0, t1, t2, t3] w fun t17 w =>
 xExtract Try.prog t17 0 w fun t18 w =>
 xExtract Try.prog t17 1 w fun t19 w =>
 xBin Try.prog .neq 53 false t19 true (.int .i64 0) w fun t21 w =>
 xIf t21
 (K (.tuple #[(.slice none 0 0), t19]) w)
 (xNilCheck t0 w fun t24 w =>
 xFieldAddr Try.prog 102 t24 0 w fun t25 w =>
 xLoad Try.prog 99 t25 w fun t26 w =>
 xCall Try.prog (fnv 112) [t26, t18, t3] w fun t29 w =>
 xExtract Try.prog t29 0 w fun t30 w =>
 xExtract Try.prog t29 1 w fun t31 w =>
 K (.tuple #[t30, t31]) w)
abbrev n_obj_Read : Nat := 111
def obj_Read_ann : Ann := { loop := fun i => [], wr := fun i => [], told := fun i => [] }
theorem obj_Read_eq (t0 t1 t2 t3 : Value) (w : World) (K : K1) : reads Try.prog obj_Read_ann Try.f111 #[t0, t1, t2, t3] w K = obj_Read K t0 t1 t2 t3 w := by kernel_rfl
theorem obj_Read_of {t0 t1 t2 t3 : Value} {w : World} {K : K1} (h : obj_Read K t0 t1 t2 t3 w) : Yld Try.prog n_obj_Read #[t0, t1, t2, t3] w K :=
  yld_of mixed obj_Read_ann Try.func111 (by kernel_rfl) (obj_Read_eq t0 t1 t2 t3 w K) h

/-! (*loam/mem.Mem).Bytes: function 112 -/
def mem_Mem_Bytes_l1 (K : K1) (nxt0 : List Value → World → Prop) (t0 t1 t2 t8 t9 : Value) (w : World) : Prop :=
 xBin Try.prog .add 3 false t1 false t2 w fun t24_1 w =>
 xBin Try.prog .lss 3 false t9 false t24_1 w fun t25_1 w =>
 xIf t25_1
 (xNilCheck t0 w fun t30_1 w =>
 xFieldAddr Try.prog 165 t30_1 0 w fun t31_1 w =>
 xLoad Try.prog 28 t31_1 w fun t32_1 w =>
 xBin Try.prog .quo 3 false t9 true (.int .i64 8) w fun t34_1 w =>
 xIndexAddr Try.prog 28 t32_1 t34_1 w fun t35_1 w =>
 xLoad Try.prog 69 t35_1 w fun t36_1 w =>
 xBin Try.prog .rem 3 false t9 true (.int .i64 8) w fun t38_1 w =>
 xBin Try.prog .mul 3 true (.int .i64 8) false t38_1 w fun t39_1 w =>
 xBin Try.prog .shr 69 false t36_1 false t39_1 w fun t40_1 w =>
 xConv Try.prog 69 5 t40_1 w fun t41_1 w =>
 xBuildSlice Try.prog 70 1 [(0, t41_1)] w fun t42_1 w =>
 xBuiltin Try.prog .append #[70, 70] 70 [false, false] [t8, t42_1] w fun t43_1 w =>
 xBin Try.prog .add 3 false t9 true (.int .i64 1) w fun t27_1 w =>
 nxt0 [t43_1, t27_1] w)
 (xCall Try.prog (fnv 115) [t8] w fun t45 w =>
 K (.tuple #[t45, (.int .i64 0)]) w)
def mem_Mem_Bytes (K : K1) (t0 t1 t2 : Value) (w : World) : Prop :=
 xNilCheck t0 w fun t13 w =>
 xFieldAddr Try.prog 165 t13 0 w fun t14 w =>
 xLoad Try.prog 28 t14 w fun t15 w =>
 xBuiltin Try.prog .len #[28] 3 [false] [t15] w fun t16 w =>
 xBin Try.prog .mul 3 false t16 true (.int .i64 8) w fun t17 w =>
 xCall Try.prog (fnv 96) [t1, t2, t17] w fun t18 w =>
 xUn Try.prog .not t18 w fun t19 w =>
 xIf t19
 (K (.tuple #[(.slice none 0 0), (.int .i64 1)]) w)
 (xLoop [(.slice none 0 0), t1] w [8, 9] fun u w nxt0 =>
 mem_Mem_Bytes_l1 K nxt0 t0 t1 t2 (u 8) (u 9) w)
abbrev n_mem_Mem_Bytes : Nat := 112
def mem_Mem_Bytes_ann : Ann := { loop := fun i => bif Nat.beq i 0 then [8, 9] else [], wr := fun i => bif Nat.beq i 0 then [8, 9, 21, 22, 23, 24, 25, 26, 27, 28, 29, 30, 31, 32, 33, 34, 35, 36, 37, 38, 39, 40, 41, 42, 43] else [], told := fun i => [] }
theorem mem_Mem_Bytes_eq (t0 t1 t2 : Value) (w : World) (K : K1) : reads Try.prog mem_Mem_Bytes_ann Try.f112 #[t0, t1, t2] w K = mem_Mem_Bytes K t0 t1 t2 w := by kernel_rfl
theorem mem_Mem_Bytes_of {t0 t1 t2 : Value} {w : World} {K : K1} (h : mem_Mem_Bytes K t0 t1 t2 w) : Yld Try.prog n_mem_Mem_Bytes #[t0, t1, t2] w K :=
  yld_of mixed mem_Mem_Bytes_ann Try.func112 (by kernel_rfl) (mem_Mem_Bytes_eq t0 t1 t2 w K) h

/-! loam/loamref1.mask: function 113 -/
/-! slices.Clone[[]int,int]: function 114 -/
def slices_Clone_int_int (K : K1) (t0 : Value) (w : World) : Prop :=
 xBin Try.prog .eql 66 false t0 true (.slice none 0 0) w fun t4 w =>
 xIf t4
 (K (.slice none 0 0) w)
 (xBuildSlice Try.prog 66 0 [] w fun t5 w =>
 xBuiltin Try.prog .append #[66, 66] 66 [false, false] [t5, t0] w fun t7 w =>
 K t7 w)
abbrev n_slices_Clone_int_int : Nat := 114
def slices_Clone_int_int_ann : Ann := { loop := fun i => [], wr := fun i => [], told := fun i => [] }
theorem slices_Clone_int_int_eq (t0 : Value) (w : World) (K : K1) : reads Try.prog slices_Clone_int_int_ann Try.f114 #[t0] w K = slices_Clone_int_int K t0 w := by kernel_rfl
theorem slices_Clone_int_int_of {t0 : Value} {w : World} {K : K1} (h : slices_Clone_int_int K t0 w) : Yld Try.prog n_slices_Clone_int_int #[t0] w K :=
  yld_of mixed slices_Clone_int_int_ann Try.func114 (by kernel_rfl) (slices_Clone_int_int_eq t0 w K) h

/-! slices.Clip[[]byte,byte]: function 115 -/
def slices_Clip_byte_byte (K : K1) (t0 : Value) (w : World) : Prop :=
 xBuiltin Try.prog .len #[70] 3 [false] [t0] w fun t5 w =>
 xBuiltin Try.prog .len #[70] 3 [false] [t0] w fun t7 w =>
 xSlice Try.prog 70 t0 none (some t5) (some t7) w fun t8 w =>
 K t8 w
abbrev n_slices_Clip_byte_byte : Nat := 115
def slices_Clip_byte_byte_ann : Ann := { loop := fun i => [], wr := fun i => [], told := fun i => [] }
theorem slices_Clip_byte_byte_eq (t0 : Value) (w : World) (K : K1) : reads Try.prog slices_Clip_byte_byte_ann Try.f115 #[t0] w K = slices_Clip_byte_byte K t0 w := by kernel_rfl
theorem slices_Clip_byte_byte_of {t0 : Value} {w : World} {K : K1} (h : slices_Clip_byte_byte K t0 w) : Yld Try.prog n_slices_Clip_byte_byte #[t0] w K :=
  yld_of mixed slices_Clip_byte_byte_ann Try.func115 (by kernel_rfl) (slices_Clip_byte_byte_eq t0 w K) h

/-! slices.Clone[[]byte,byte]: function 116 -/
def slices_Clone_byte_byte (K : K1) (t0 : Value) (w : World) : Prop :=
 xBin Try.prog .eql 70 false t0 true (.slice none 0 0) w fun t4 w =>
 xIf t4
 (K (.slice none 0 0) w)
 (xBuildSlice Try.prog 70 0 [] w fun t5 w =>
 xBuiltin Try.prog .append #[70, 70] 70 [false, false] [t5, t0] w fun t7 w =>
 K t7 w)
abbrev n_slices_Clone_byte_byte : Nat := 116
def slices_Clone_byte_byte_ann : Ann := { loop := fun i => [], wr := fun i => [], told := fun i => [] }
theorem slices_Clone_byte_byte_eq (t0 : Value) (w : World) (K : K1) : reads Try.prog slices_Clone_byte_byte_ann Try.f116 #[t0] w K = slices_Clone_byte_byte K t0 w := by kernel_rfl
theorem slices_Clone_byte_byte_of {t0 : Value} {w : World} {K : K1} (h : slices_Clone_byte_byte K t0 w) : Yld Try.prog n_slices_Clone_byte_byte #[t0] w K :=
  yld_of mixed slices_Clone_byte_byte_ann Try.func116 (by kernel_rfl) (slices_Clone_byte_byte_eq t0 w K) h

/-! loam/canon.Order: function 117 -/
def canon_Order_l3 (K : K1) (nxt2 : List Value → World → Prop) (nxt4 : List Value → World → Prop) (t5 t8 t40 t41 t42 : Value) (w : World) : Prop :=
 xBin Try.prog .lss 3 false t42 false t41 w fun t43_1 w =>
 xIf t43_1
 (xIndexAddr Try.prog 66 t40 t42 w fun t44_1 w =>
 xLoad Try.prog 3 t44_1 w fun t45_1 w =>
 xCall Try.prog t5 [t45_1] w fun t48_1 w =>
 xBin Try.prog .add 3 false t42 true (.int .i64 1) w fun t49_1 w =>
 nxt4 [t49_1] w)
 (xBin Try.prog .add 3 false t8 true (.int .i64 1) w fun t30_1 w =>
 nxt2 [t30_1] w)
def canon_Order_l2 (K : K1) (nxt2 : List Value → World → Prop) (t1 t4 t5 t8 : Value) (w : World) : Prop :=
 xLoad Try.prog 66 t4 w fun t26_1 w =>
 xBuiltin Try.prog .len #[66] 3 [false] [t26_1] w fun t27_1 w =>
 xBin Try.prog .lss 3 false t8 false t27_1 w fun t28_1 w =>
 xIf t28_1
 (xSq w.drew fun w =>
 xPur w (fun w K => xFieldAddr Try.prog 25 t1 0 w K) fun t31_1 =>
 xRd w (fun K => xLoad Try.prog 22 t31_1 w K) fun t32_1 =>
 xRd w (fun K => xLoad Try.prog 66 t4 w K) fun t33_1 =>
 xPur w (fun w K => K t8 w) fun t34_1 =>
 xPur w (fun w K => xIndexAddr Try.prog 66 t33_1 t34_1 w K) fun t35_1 =>
 xRd w (fun K => xLoad Try.prog 3 t35_1 w K) fun t36_1 =>
 xPur w (fun w K => xBin Try.prog .sub 3 false t36_1 true (.int .i64 1) w K) fun t37_1 =>
 xPur w (fun w K => xIndexAddr Try.prog 22 t32_1 t37_1 w K) fun t38_1 =>
 xPur w (fun w K => xFieldAddr Try.prog 72 t38_1 0 w K) fun t39_1 =>
 xRd w (fun K => xLoad Try.prog 66 t39_1 w K) fun t40_1 =>
 xPur w (fun w K => xBuiltin Try.prog .len #[66] 3 [false] [t40_1] w K) fun t41_1 =>
 xPur w (fun w K => K (.int .i64 0) w) fun t42_1 =>
 xLoop [t42_1] w [42] fun u w nxt4 =>
 canon_Order_l3 K nxt2 nxt4 t5 t8 t40_1 t41_1 (u 42) w)
 (xLoad Try.prog 66 t4 w fun t50 w =>
 xCall Try.prog (fnv 109) [t50] w fun t51 w =>
 K t51 w)
def canon_Order_l1 (K : K1) (nxt0 : List Value → World → Prop) (t1 t4 t5 t14 t15 t16 : Value) (w : World) : Prop :=
 xBin Try.prog .lss 3 false t16 false t15 w fun t17_1 w =>
 xIf t17_1
 (xIndexAddr Try.prog 23 t14 t16 w fun t18_1 w =>
 xLoad Try.prog 74 t18_1 w fun t19_1 w =>
 xAlloc Try.prog 74 w fun t7_1 w =>
 xStore Try.prog 74 t7_1 t19_1 w fun _ w =>
 xFieldAddr Try.prog 74 t7_1 1 w fun t21_1 w =>
 xLoad Try.prog 3 t21_1 w fun t22_1 w =>
 xCall Try.prog t5 [t22_1] w fun t23_1 w =>
 xBin Try.prog .add 3 false t16 true (.int .i64 1) w fun t24_1 w =>
 nxt0 [t24_1] w)
 (xLoop [(.int .i64 0)] w [8] fun u w nxt2 =>
 canon_Order_l2 K nxt2 t1 t4 t5 (u 8) w)
def canon_Order (K : K1) (t0 : Value) (w : World) : Prop :=
 xBox Try.prog 25 t0 w fun t1 w =>
 xMakeMap Try.prog 194 none w fun t11 w =>
 xAlloc Try.prog 194 w fun t3 w =>
 xStore Try.prog 194 t3 t11 w fun _ w =>
 xAlloc Try.prog 66 w fun t4 w =>
 xMakeFunc Try.prog (.func 125) [] [t1, t3, t4] w fun t12 w =>
 xFieldAddr Try.prog 25 t1 1 w fun t13 w =>
 xLoad Try.prog 23 t13 w fun t14 w =>
 xBuiltin Try.prog .len #[23] 3 [false] [t14] w fun t15 w =>
 xLoop [(.int .i64 0)] w [16] fun u w nxt0 =>
 canon_Order_l1 K nxt0 t1 t4 t12 t14 t15 (u 16) w
abbrev n_canon_Order : Nat := 117
def canon_Order_ann : Ann := { loop := fun i => bif Nat.beq i 4 then [42] else bif Nat.beq i 2 then [8] else bif Nat.beq i 0 then [16] else [], wr := fun i => bif Nat.beq i 4 then [10, 42, 43, 44, 45, 46, 47, 48, 49] else bif Nat.beq i 2 then [8, 10, 25, 26, 27, 28, 29, 30, 31, 32, 33, 34, 35, 36, 37, 38, 39, 40, 41, 42, 43, 44, 45, 46, 47, 48, 49] else bif Nat.beq i 0 then [7, 16, 17, 18, 19, 20, 21, 22, 23, 24] else [], told := fun i => bif Nat.beq i 12 then [(0, false, ⟨0, 2147483650, some 31⟩), (1, false, ⟨1, 6442450944, some 32⟩), (2, false, ⟨0, 8589934608, some 33⟩), (3, false, ⟨0, 17179869440, some 34⟩), (4, false, ⟨12, 60129542144, some 35⟩), (5, false, ⟨16, 103079215104, some 36⟩), (6, false, ⟨32, 206158430208, some 37⟩), (7, false, ⟨66, 416611827712, some 38⟩), (8, false, ⟨128, 824633720832, some 39⟩), (9, false, ⟨256, 1649267441664, some 40⟩), (10, false, ⟨512, 3298534883328, some 41⟩), (11, false, ⟨0, 4398046511104, some 42⟩)] else [], sq := fun i => bif Nat.beq i 12 then some (.rd true 0 (.rd false 1 (.rd false 2 (.rd true 3 (.rd true 4 (.rd false 5 (.rd true 6 (.rd true 7 (.rd true 8 (.rd false 9 (.rd true 10 (.rd true 11 .done)))))))))))) else none }
theorem canon_Order_eq (t0 : Value) (w : World) (K : K1) : reads Try.prog canon_Order_ann Try.f117 #[t0] w K = canon_Order K t0 w := by kernel_rfl
theorem canon_Order_of {t0 : Value} {w : World} {K : K1} (h : canon_Order K t0 w) : Yld Try.prog n_canon_Order #[t0] w K :=
  yld_of mixed canon_Order_ann Try.func117 (by kernel_rfl) (canon_Order_eq t0 w K) h

/-! loam/head.Unpack: function 118 -/
def head_Unpack_j1 (K : K1) (t0 t2 t4 : Value) (w : World) : Prop :=
 xLoad Try.prog 123 t4 w fun t22_1 w =>
 xCall Try.prog (fnv 102) [t22_1] w fun t23_1 w =>
 xExtract Try.prog t23_1 0 w fun t24_1 w =>
 xExtract Try.prog t23_1 1 w fun t25_1 w =>
 xBin Try.prog .neq 53 false t25_1 true (.int .i64 0) w fun t27_1 w =>
 xGuard t27_1 false (fun w K => K t24_1 w) w fun t29_1 w =>
 xGuard t27_1 false (fun w K => K t0 w) w fun t30_1 w =>
 xGuard t27_1 false (fun w K => xBin Try.prog .neq 69 false t29_1 false t30_1 w K) w fun t31_1 w =>
 xPick t27_1 (.bool true) t31_1 w fun t32_1 w =>
 xIf t32_1
 (xBuild Try.prog 123 [] w fun t33_1 w =>
 xStore Try.prog 123 t2 t33_1 w fun _ w =>
 xLoadR Try.prog 123 t2 w fun r0 =>
 K (.tuple #[r0, (.int .i64 2)]) w)
 (xLoad Try.prog 123 t4 w fun t34_1 w =>
 xStore Try.prog 123 t2 t34_1 w fun _ w =>
 xLoadR Try.prog 123 t2 w fun r0 =>
 K (.tuple #[r0, (.int .i64 0)]) w)
def head_Unpack (K : K1) (t0 : Value) (w : World) : Prop :=
 xAlloc Try.prog 123 w fun t2 w =>
 xCall Try.prog (fnv 69) [t0, (.int .i64 1), (.int .i64 8)] w fun t8 w =>
 xConv Try.prog 69 3 t8 w fun t9 w =>
 xCall Try.prog (fnv 69) [t0, (.int .i64 16), (.int .i64 12)] w fun t11 w =>
 xConv Try.prog 69 3 t11 w fun t12 w =>
 xBuild Try.prog 123 [(0, t9), (1, t12)] w fun t13 w =>
 xAlloc Try.prog 123 w fun t4 w =>
 xStore Try.prog 123 t4 t13 w fun _ w =>
 xBin Try.prog .and 69 false t0 true (c64 1) w fun t15 w =>
 xBin Try.prog .eql 69 false t15 true (c64 1) w fun t16 w =>
 xIf t16
 (xCall Try.prog (fnv 69) [t0, (.int .i64 32), (.int .i64 16)] w fun t18 w =>
 xConv Try.prog 69 3 t18 w fun t19 w =>
 xBuild Try.prog 123 [(2, (.bool true)), (3, t19)] w fun t20 w =>
 xStore Try.prog 123 t4 t20 w fun _ w =>
 head_Unpack_j1 K t0 t2 t4 w)
 (head_Unpack_j1 K t0 t2 t4 w)
abbrev n_head_Unpack : Nat := 118
def head_Unpack_ann : Ann := { loop := fun i => [], wr := fun i => [], told := fun i => [] }
theorem head_Unpack_eq (t0 : Value) (w : World) (K : K1) : reads Try.prog head_Unpack_ann Try.f118 #[t0] w K = head_Unpack K t0 w := by kernel_rfl
theorem head_Unpack_of {t0 : Value} {w : World} {K : K1} (h : head_Unpack K t0 w) : Yld Try.prog n_head_Unpack #[t0] w K :=
  yld_of mixed head_Unpack_ann Try.func118 (by kernel_rfl) (head_Unpack_eq t0 w K) h

/-! loam/check.pad: function 119 -/
/-! strings.Contains: function 120 -/
def strings_Contains (K : K1) (t0 t1 : Value) (w : World) : Prop :=
 xCall Try.prog (fnv 126) [t0, t1] w fun t7 w =>
 xBin Try.prog .geq 3 false t7 true (.int .i64 0) w fun t8 w =>
 K t8 w
abbrev n_strings_Contains : Nat := 120
def strings_Contains_ann : Ann := { loop := fun i => [], wr := fun i => [], told := fun i => [] }
theorem strings_Contains_eq (t0 t1 : Value) (w : World) (K : K1) : reads Try.prog strings_Contains_ann Try.f120 #[t0, t1] w K = strings_Contains K t0 t1 w := by kernel_rfl
theorem strings_Contains_of {t0 t1 : Value} {w : World} {K : K1} (h : strings_Contains K t0 t1 w) : Yld Try.prog n_strings_Contains #[t0, t1] w K :=
  yld_of mixed strings_Contains_ann Try.func120 (by kernel_rfl) (strings_Contains_eq t0 t1 w K) h

/-! strings.Cut: function 121 -/
def strings_Cut (K : K1) (t0 t1 : Value) (w : World) : Prop :=
 xCall Try.prog (fnv 127) [t0, t1] w fun t9 w =>
 xExtract Try.prog t9 0 w fun t10 w =>
 xExtract Try.prog t9 1 w fun t11 w =>
 xExtract Try.prog t9 2 w fun t12 w =>
 K (.tuple #[t10, t11, t12]) w
abbrev n_strings_Cut : Nat := 121
def strings_Cut_ann : Ann := { loop := fun i => [], wr := fun i => [], told := fun i => [] }
theorem strings_Cut_eq (t0 t1 : Value) (w : World) (K : K1) : reads Try.prog strings_Cut_ann Try.f121 #[t0, t1] w K = strings_Cut K t0 t1 w := by kernel_rfl
theorem strings_Cut_of {t0 t1 : Value} {w : World} {K : K1} (h : strings_Cut K t0 t1 w) : Yld Try.prog n_strings_Cut #[t0, t1] w K :=
  yld_of mixed strings_Cut_ann Try.func121 (by kernel_rfl) (strings_Cut_eq t0 t1 w K) h

/-! loam/head.Right: function 122 -/
def head_Right (K : K1) (t0 : Value) (w : World) : Prop :=
 xBox Try.prog 123 t0 w fun t1 w =>
 xFieldAddr Try.prog 123 t1 2 w fun t3 w =>
 xLoad Try.prog 4 t3 w fun t4 w =>
 xIf t4
 (xFieldAddr Try.prog 123 t1 0 w fun t5 w =>
 xLoad Try.prog 3 t5 w fun t6 w =>
 xBin Try.prog .eql 3 false t6 true (.int .i64 0) w fun t7 w =>
 xGuard t7 true (fun w K => xFieldAddr Try.prog 123 t1 1 w K) w fun t9 w =>
 xGuard t7 true (fun w K => xLoad Try.prog 3 t9 w K) w fun t10 w =>
 xGuard t7 true (fun w K => xBin Try.prog .eql 3 false t10 true (.int .i64 0) w K) w fun t11 w =>
 xPick t7 t11 (.bool false) w fun t12 w =>
 xGuard t12 true (fun w K => xFieldAddr Try.prog 123 t1 3 w K) w fun t14 w =>
 xGuard t12 true (fun w K => xLoad Try.prog 3 t14 w K) w fun t15 w =>
 xGuard t12 true (fun w K => xBin Try.prog .geq 3 false t15 true (.int .i64 0) w K) w fun t16 w =>
 xPick t12 t16 (.bool false) w fun t17 w =>
 xGuard t17 true (fun w K => xFieldAddr Try.prog 123 t1 3 w K) w fun t19 w =>
 xGuard t17 true (fun w K => xLoad Try.prog 3 t19 w K) w fun t20 w =>
 xGuard t17 true (fun w K => xBin Try.prog .lss 3 false t20 true (.int .i64 8192) w K) w fun t21 w =>
 xPick t17 t21 (.bool false) w fun t22 w =>
 K t22 w)
 (xFieldAddr Try.prog 123 t1 3 w fun t23 w =>
 xLoad Try.prog 3 t23 w fun t24 w =>
 xBin Try.prog .eql 3 false t24 true (.int .i64 0) w fun t25 w =>
 xGuard t25 true (fun w K => xFieldAddr Try.prog 123 t1 0 w K) w fun t27 w =>
 xGuard t25 true (fun w K => xLoad Try.prog 3 t27 w K) w fun t28 w =>
 xGuard t25 true (fun w K => xBin Try.prog .geq 3 false t28 true (.int .i64 0) w K) w fun t29 w =>
 xPick t25 t29 (.bool false) w fun t30 w =>
 xGuard t30 true (fun w K => xFieldAddr Try.prog 123 t1 0 w K) w fun t32 w =>
 xGuard t30 true (fun w K => xLoad Try.prog 3 t32 w K) w fun t33 w =>
 xGuard t30 true (fun w K => xBin Try.prog .leq 3 false t33 true (.int .i64 64) w K) w fun t34 w =>
 xPick t30 t34 (.bool false) w fun t35 w =>
 xGuard t35 true (fun w K => xFieldAddr Try.prog 123 t1 1 w K) w fun t37 w =>
 xGuard t35 true (fun w K => xLoad Try.prog 3 t37 w K) w fun t38 w =>
 xGuard t35 true (fun w K => xBin Try.prog .geq 3 false t38 true (.int .i64 0) w K) w fun t39 w =>
 xPick t35 t39 (.bool false) w fun t40 w =>
 xGuard t40 true (fun w K => xFieldAddr Try.prog 123 t1 1 w K) w fun t42 w =>
 xGuard t40 true (fun w K => xLoad Try.prog 3 t42 w K) w fun t43 w =>
 xGuard t40 true (fun w K => xBin Try.prog .leq 3 false t43 true (.int .i64 1024) w K) w fun t44 w =>
 xPick t40 t44 (.bool false) w fun t45 w =>
 K t45 w)
abbrev n_head_Right : Nat := 122
def head_Right_ann : Ann := { loop := fun i => [], wr := fun i => [], told := fun i => [] }
theorem head_Right_eq (t0 : Value) (w : World) (K : K1) : reads Try.prog head_Right_ann Try.f122 #[t0] w K = head_Right K t0 w := by kernel_rfl
theorem head_Right_of {t0 : Value} {w : World} {K : K1} (h : head_Right K t0 w) : Yld Try.prog n_head_Right #[t0] w K :=
  yld_of mixed head_Right_ann Try.func122 (by kernel_rfl) (head_Right_eq t0 w K) h

/-! slices.BinarySearch[[]int,int]: function 123 -/
def slices_BinarySearch_int_int_l1 (K : K1) (nxt0 : List Value → World → Prop) (t0 t1 t6 t7 t8 : Value) (w : World) : Prop :=
 xBin Try.prog .lss 3 false t7 false t8 w fun t15_1 w =>
 xIf t15_1
 (xBin Try.prog .add 3 false t7 false t8 w fun t18_1 w =>
 xConv Try.prog 3 77 t18_1 w fun t19_1 w =>
 xBin Try.prog .shr 77 false t19_1 true (c64 1) w fun t20_1 w =>
 xConv Try.prog 77 3 t20_1 w fun t21_1 w =>
 xIndexAddr Try.prog 66 t0 t21_1 w fun t24_1 w =>
 xLoad Try.prog 3 t24_1 w fun t25_1 w =>
 xCall Try.prog (fnv 128) [t25_1, t1] w fun t27_1 w =>
 xIf t27_1
 (xBin Try.prog .add 3 false t21_1 true (.int .i64 1) w fun t29_1 w =>
 nxt0 [t29_1, t8] w)
 (nxt0 [t7, t21_1] w))
 (xBin Try.prog .lss 3 false t7 false t6 w fun t34 w =>
 xGuard t34 true (fun w K => K t0 w) w fun t36 w =>
 xGuard t34 true (fun w K => K t7 w) w fun t37 w =>
 xGuard t34 true (fun w K => xIndexAddr Try.prog 66 t36 t37 w K) w fun t38 w =>
 xGuard t34 true (fun w K => xLoad Try.prog 3 t38 w K) w fun t39 w =>
 xGuard t34 true (fun w K => K t1 w) w fun t40 w =>
 xGuard t34 true (fun w K => xBin Try.prog .eql 3 false t39 false t40 w K) w fun t41 w =>
 xGuard t34 true (fun w K => K t41 w) w fun t42 w =>
 xGuard t42 false (fun w K => K t0 w) w fun t43 w =>
 xGuard t42 false (fun w K => K t7 w) w fun t44 w =>
 xGuard t42 false (fun w K => xIndexAddr Try.prog 66 t43 t44 w K) w fun t45 w =>
 xGuard t42 false (fun w K => xLoad Try.prog 3 t45 w K) w fun t46 w =>
 xGuard t42 false (fun w K => xCall Try.prog (fnv 129) [t46] w K) w fun t47 w =>
 xGuard t42 false (fun w K => K t47 w) w fun t48 w =>
 xGuard t48 true (fun w K => K t1 w) w fun t49 w =>
 xGuard t48 true (fun w K => xCall Try.prog (fnv 129) [t49] w K) w fun t50 w =>
 xGuard t42 false (fun w K => xPick t48 t50 (.bool false) w K) w fun t51 w =>
 xGuard t34 true (fun w K => xPick t42 (.bool true) t51 w K) w fun t52 w =>
 xPick t34 t52 (.bool false) w fun t53 w =>
 K (.tuple #[t7, t53]) w)
def slices_BinarySearch_int_int (K : K1) (t0 t1 : Value) (w : World) : Prop :=
 xBuiltin Try.prog .len #[66] 3 [false] [t0] w fun t11 w =>
 xLoop [(.int .i64 0), t11] w [7, 8] fun u w nxt0 =>
 slices_BinarySearch_int_int_l1 K nxt0 t0 t1 t11 (u 7) (u 8) w
abbrev n_slices_BinarySearch_int_int : Nat := 123
def slices_BinarySearch_int_int_ann : Ann := { loop := fun i => bif Nat.beq i 0 then [7, 8] else [], wr := fun i => bif Nat.beq i 0 then [7, 8, 9, 13, 14, 15, 16, 17, 18, 19, 20, 21, 22, 23, 24, 25, 26, 27, 28, 29, 30] else [], told := fun i => [] }
theorem slices_BinarySearch_int_int_eq (t0 t1 : Value) (w : World) (K : K1) : reads Try.prog slices_BinarySearch_int_int_ann Try.f123 #[t0, t1] w K = slices_BinarySearch_int_int K t0 t1 w := by kernel_rfl
theorem slices_BinarySearch_int_int_of {t0 t1 : Value} {w : World} {K : K1} (h : slices_BinarySearch_int_int K t0 t1 w) : Yld Try.prog n_slices_BinarySearch_int_int #[t0, t1] w K :=
  yld_of mixed slices_BinarySearch_int_int_ann Try.func123 (by kernel_rfl) (slices_BinarySearch_int_int_eq t0 t1 w K) h

/-! loam/obj.bytes: function 124 -/
def obj_bytes (K : K1) (t0 t1 t2 t3 : Value) (w : World) : Prop :=
 xCall Try.prog (fnv 130) [t0, t1] w fun t15 w =>
 xExtract Try.prog t15 0 w fun t16 w =>
 xExtract Try.prog t15 1 w fun t17 w =>
 xAlloc Try.prog 123 w fun t10 w =>
 xStore Try.prog 123 t10 t16 w fun _ w =>
 xBin Try.prog .neq 53 false t17 true (.int .i64 0) w fun t20 w =>
 xIf t20
 (K (.tuple #[(.int .i64 0), t17]) w)
 (xBin Try.prog .lss 3 false t2 true (.int .i64 0) w fun t24 w =>
 xGuard t24 false (fun w K => K t3 w) w fun t26 w =>
 xGuard t24 false (fun w K => xBin Try.prog .lss 3 false t26 true (.int .i64 0) w K) w fun t27 w =>
 xPick t24 (.bool true) t27 w fun t28 w =>
 xGuard t28 false (fun w K => K t3 w) w fun t30 w =>
 xGuard t28 false (fun w K => xFieldAddr Try.prog 123 t10 1 w K) w fun t31 w =>
 xGuard t28 false (fun w K => xLoad Try.prog 3 t31 w K) w fun t32 w =>
 xGuard t28 false (fun w K => xBin Try.prog .gtr 3 false t30 false t32 w K) w fun t33 w =>
 xPick t28 (.bool true) t33 w fun t34 w =>
 xGuard t34 false (fun w K => K t2 w) w fun t36 w =>
 xGuard t34 false (fun w K => xFieldAddr Try.prog 123 t10 1 w K) w fun t37 w =>
 xGuard t34 false (fun w K => xLoad Try.prog 3 t37 w K) w fun t38 w =>
 xGuard t34 false (fun w K => K t3 w) w fun t39 w =>
 xGuard t34 false (fun w K => xBin Try.prog .sub 3 false t38 false t39 w K) w fun t40 w =>
 xGuard t34 false (fun w K => xBin Try.prog .gtr 3 false t36 false t40 w K) w fun t41 w =>
 xPick t34 (.bool true) t41 w fun t42 w =>
 xIf t42
 (K (.tuple #[(.int .i64 0), (.int .i64 1)]) w)
 (xBin Try.prog .add 3 false t1 true (.int .i64 1) w fun t44 w =>
 xFieldAddr Try.prog 123 t10 0 w fun t45 w =>
 xLoad Try.prog 3 t45 w fun t46 w =>
 xBin Try.prog .add 3 false t44 false t46 w fun t47 w =>
 xBin Try.prog .mul 3 false t47 true (.int .i64 8) w fun t48 w =>
 xBin Try.prog .add 3 false t48 false t2 w fun t50 w =>
 K (.tuple #[t50, (.int .i64 0)]) w))
abbrev n_obj_bytes : Nat := 124
def obj_bytes_ann : Ann := { loop := fun i => [], wr := fun i => [], told := fun i => [] }
theorem obj_bytes_eq (t0 t1 t2 t3 : Value) (w : World) (K : K1) : reads Try.prog obj_bytes_ann Try.f124 #[t0, t1, t2, t3] w K = obj_bytes K t0 t1 t2 t3 w := by kernel_rfl
theorem obj_bytes_of {t0 t1 t2 t3 : Value} {w : World} {K : K1} (h : obj_bytes K t0 t1 t2 t3 w) : Yld Try.prog n_obj_bytes #[t0, t1, t2, t3] w K :=
  yld_of mixed obj_bytes_ann Try.func124 (by kernel_rfl) (obj_bytes_eq t0 t1 t2 t3 w K) h

/-! loam/canon.Order$1: function 125 -/
def canon_Order_1 (K : K1) (t0 t1 t2 t3 : Value) (w : World) : Prop :=
 xBin Try.prog .geq 3 false t0 true (.int .i64 1) w fun t6 w =>
 xGuard t6 true (fun w K => K t0 w) w fun t8 w =>
 xGuard t6 true (fun w K => xFieldAddr Try.prog 25 t1 0 w K) w fun t9 w =>
 xGuard t6 true (fun w K => xLoad Try.prog 22 t9 w K) w fun t10 w =>
 xGuard t6 true (fun w K => xBuiltin Try.prog .len #[22] 3 [false] [t10] w K) w fun t11 w =>
 xGuard t6 true (fun w K => xBin Try.prog .leq 3 false t8 false t11 w K) w fun t12 w =>
 xPick t6 t12 (.bool false) w fun t13 w =>
 xGuard t13 true (fun w K => xLoad Try.prog 194 t2 w K) w fun t15 w =>
 xGuard t13 true (fun w K => K t0 w) w fun t16 w =>
 xGuard t13 true (fun w K => xLookup Try.prog 194 t15 t16 false w K) w fun t17 w =>
 xGuard t13 true (fun w K => xUn Try.prog .not t17 w K) w fun t18 w =>
 xPick t13 t18 (.bool false) w fun t19 w =>
 xIf t19
 (xLoad Try.prog 194 t2 w fun t20 w =>
 xMapUpdate Try.prog 194 t20 t0 (.bool true) w fun _ w =>
 xLoad Try.prog 66 t3 w fun t22 w =>
 xBuildSlice Try.prog 66 1 [(0, t0)] w fun t24 w =>
 xBuiltin Try.prog .append #[66, 66] 66 [false, false] [t22, t24] w fun t25 w =>
 xStore Try.prog 66 t3 t25 w fun _ w =>
 K (.tuple #[]) w)
 (K (.tuple #[]) w)
abbrev n_canon_Order_1 : Nat := 125
def canon_Order_1_ann : Ann := { loop := fun i => [], wr := fun i => [], told := fun i => [] }
theorem canon_Order_1_eq (t0 t1 t2 t3 : Value) (w : World) (K : K1) : reads Try.prog canon_Order_1_ann Try.f125 #[t0, t1, t2, t3] w K = canon_Order_1 K t0 t1 t2 t3 w := by kernel_rfl
theorem canon_Order_1_of {t0 t1 t2 t3 : Value} {w : World} {K : K1} (h : canon_Order_1 K t0 t1 t2 t3 w) : Yld Try.prog n_canon_Order_1 #[t0, t1, t2, t3] w K :=
  yld_of mixed canon_Order_1_ann Try.func125 (by kernel_rfl) (canon_Order_1_eq t0 t1 t2 t3 w K) h

/-! strings.Index: function 126 -/
def strings_Index (K : K1) (t0 t1 : Value) (w : World) : Prop :=
 xCall Try.prog (fnv 131) [t0, t1] w fun t7 w =>
 K t7 w
abbrev n_strings_Index : Nat := 126
def strings_Index_ann : Ann := { loop := fun i => [], wr := fun i => [], told := fun i => [] }
theorem strings_Index_eq (t0 t1 : Value) (w : World) (K : K1) : reads Try.prog strings_Index_ann Try.f126 #[t0, t1] w K = strings_Index K t0 t1 w := by kernel_rfl
theorem strings_Index_of {t0 t1 : Value} {w : World} {K : K1} (h : strings_Index K t0 t1 w) : Yld Try.prog n_strings_Index #[t0, t1] w K :=
  yld_of mixed strings_Index_ann Try.func126 (by kernel_rfl) (strings_Index_eq t0 t1 w K) h

/-! internal/stringslite.Cut: function 127 -/
def internal_stringslite_Cut (K : K1) (t0 t1 : Value) (w : World) : Prop :=
 xCall Try.prog (fnv 131) [t0, t1] w fun t10 w =>
 xBin Try.prog .geq 3 false t10 true (.int .i64 0) w fun t12 w =>
 xIf t12
 (xSq w.drew fun w =>
 xPur w (fun w K => K t0 w) fun t13 =>
 xPur w (fun w K => K t10 w) fun t14 =>
 xPur w (fun w K => xSlice Try.prog 9 t13 none (some t14) none w K) fun t15 =>
 xPur w (fun w K => K t0 w) fun t16 =>
 xPur w (fun w K => K t10 w) fun t17 =>
 xPur w (fun w K => K t1 w) fun t18 =>
 xPur w (fun w K => xBuiltin Try.prog .len #[9] 3 [false] [t18] w K) fun t19 =>
 xPur w (fun w K => xBin Try.prog .add 3 false t17 false t19 w K) fun t20 =>
 xPur w (fun w K => xSlice Try.prog 9 t16 (some t20) none none w K) fun t21 =>
 xPur w (fun w K => K t15 w) fun t4 =>
 xPur w (fun w K => K t21 w) fun t5 =>
 xPur w (fun w K => K (.bool true) w) fun t6 =>
 K (.tuple #[t4, t5, t6]) w)
 (K (.tuple #[t0, (.string { data := #[] }), (.bool false)]) w)
abbrev n_internal_stringslite_Cut : Nat := 127
def internal_stringslite_Cut_ann : Ann := { loop := fun i => [], wr := fun i => [], told := fun i => bif Nat.beq i 3 then [(0, false, ⟨0, 8193, some 13⟩), (1, false, ⟨0, 16512, some 14⟩), (2, false, ⟨3, 57344, some 15⟩), (3, false, ⟨0, 65537, some 16⟩), (4, false, ⟨0, 131200, some 17⟩), (5, false, ⟨0, 262146, some 18⟩), (6, false, ⟨32, 786432, some 19⟩), (7, false, ⟨80, 1703936, some 20⟩), (8, false, ⟨136, 3211264, some 21⟩), (9, false, ⟨7, 32784, some 4⟩), (10, false, ⟨1023, 2097184, some 5⟩), (11, false, ⟨2047, 64, some 6⟩)] else [], sq := fun i => bif Nat.beq i 3 then some (.rd true 0 (.rd true 1 (.rd true 2 (.rd true 3 (.rd true 4 (.rd true 5 (.rd true 6 (.rd true 7 (.rd true 8 (.rd true 9 (.rd true 10 (.rd true 11 .done)))))))))))) else none }
theorem internal_stringslite_Cut_eq (t0 t1 : Value) (w : World) (K : K1) : reads Try.prog internal_stringslite_Cut_ann Try.f127 #[t0, t1] w K = internal_stringslite_Cut K t0 t1 w := by kernel_rfl
theorem internal_stringslite_Cut_of {t0 t1 : Value} {w : World} {K : K1} (h : internal_stringslite_Cut K t0 t1 w) : Yld Try.prog n_internal_stringslite_Cut #[t0, t1] w K :=
  yld_of mixed internal_stringslite_Cut_ann Try.func127 (by kernel_rfl) (internal_stringslite_Cut_eq t0 t1 w K) h

/-! cmp.Less[int]: function 128 -/
def cmp_Less_int (K : K1) (t0 t1 : Value) (w : World) : Prop :=
 xCall Try.prog (fnv 132) [t0] w fun t6 w =>
 xGuard t6 true (fun w K => K t1 w) w fun t8 w =>
 xGuard t6 true (fun w K => xCall Try.prog (fnv 132) [t8] w K) w fun t9 w =>
 xGuard t6 true (fun w K => xUn Try.prog .not t9 w K) w fun t10 w =>
 xPick t6 t10 (.bool false) w fun t11 w =>
 xGuard t11 false (fun w K => K t0 w) w fun t13 w =>
 xGuard t11 false (fun w K => K t1 w) w fun t14 w =>
 xGuard t11 false (fun w K => xBin Try.prog .lss 3 false t13 false t14 w K) w fun t15 w =>
 xPick t11 (.bool true) t15 w fun t16 w =>
 K t16 w
abbrev n_cmp_Less_int : Nat := 128
def cmp_Less_int_ann : Ann := { loop := fun i => [], wr := fun i => [], told := fun i => [] }
theorem cmp_Less_int_eq (t0 t1 : Value) (w : World) (K : K1) : reads Try.prog cmp_Less_int_ann Try.f128 #[t0, t1] w K = cmp_Less_int K t0 t1 w := by kernel_rfl
theorem cmp_Less_int_of {t0 t1 : Value} {w : World} {K : K1} (h : cmp_Less_int K t0 t1 w) : Yld Try.prog n_cmp_Less_int #[t0, t1] w K :=
  yld_of mixed cmp_Less_int_ann Try.func128 (by kernel_rfl) (cmp_Less_int_eq t0 t1 w K) h

/-! slices.isNaN[int]: function 129 -/
def slices_isNaN_int (K : K1) (t0 : Value) (w : World) : Prop :=
 xBin Try.prog .neq 3 false t0 false t0 w fun t5 w =>
 K t5 w
abbrev n_slices_isNaN_int : Nat := 129
def slices_isNaN_int_ann : Ann := { loop := fun i => [], wr := fun i => [], told := fun i => [] }
theorem slices_isNaN_int_eq (t0 : Value) (w : World) (K : K1) : reads Try.prog slices_isNaN_int_ann Try.f129 #[t0] w K = slices_isNaN_int K t0 w := by kernel_rfl
theorem slices_isNaN_int_of {t0 : Value} {w : World} {K : K1} (h : slices_isNaN_int K t0 w) : Yld Try.prog n_slices_isNaN_int #[t0] w K :=
  yld_of mixed slices_isNaN_int_ann Try.func129 (by kernel_rfl) (slices_isNaN_int_eq t0 w K) h

/-! loam/obj.whole: function 130 -/
def obj_whole (K : K1) (t0 t1 : Value) (w : World) : Prop :=
 xAlloc Try.prog 123 w fun t4 w =>
 xCall Try.prog (fnv 108) [t0, t1] w fun t11 w =>
 xExtract Try.prog t11 0 w fun t12 w =>
 xExtract Try.prog t11 1 w fun t13 w =>
 xAlloc Try.prog 123 w fun t6 w =>
 xStore Try.prog 123 t6 t12 w fun _ w =>
 xBin Try.prog .neq 53 false t13 true (.int .i64 0) w fun t16 w =>
 xIf t16
 (xBuild Try.prog 123 [] w fun t17 w =>
 xStore Try.prog 123 t4 t17 w fun _ w =>
 xLoadR Try.prog 123 t4 w fun r0 =>
 K (.tuple #[r0, t13]) w)
 (xSq w.drew fun w =>
 xPur w (fun w K => xFieldAddr Try.prog 123 t6 2 w K) fun t20 =>
 xRd w (fun K => xLoad Try.prog 4 t20 w K) fun t21 =>
 xPur w (fun w K => K t21 w) fun t22 =>
 xRd w (fun K => xGuard t22 false (fun w K => xLoad Try.prog 123 t6 w K) w K) fun t23 =>
 xPur w (fun w K => xGuard t22 false (fun w K => K t0 w) w K) fun t25 =>
 xPur w (fun w K => xGuard t22 false (fun w K => xNilCheck t25 w K) w K) fun t26 =>
 xPur w (fun w K => xGuard t22 false (fun w K => xFieldAddr Try.prog 102 t26 2 w K) w K) fun t27 =>
 xRd w (fun K => xGuard t22 false (fun w K => xLoad Try.prog 3 t27 w K) w K) fun t28 =>
 xPur w (fun w K => xGuard t22 false (fun w K => K t1 w) w K) fun t29 =>
 xPur w (fun w K => xGuard t22 false (fun w K => xBin Try.prog .sub 3 false t28 false t29 w K) w K) fun t30 =>
 xGuard t22 false (fun w K => xCall Try.prog (fnv 103) [t23] w K) w fun t24 w =>
 xRe w (fun K => xGuard t22 false (fun w K => xLoad Try.prog 3 t27 w K) w K) t28 (
 xPur w (fun w K => xGuard t22 false (fun w K => xBin Try.prog .gtr 3 false t24 false t30 w K) w K) fun t31 =>
 xPur w (fun w K => xPick t22 (.bool true) t31 w K) fun t32 =>
 xPur w (fun w K => K t32 w) fun t19 =>
 xIf t19
 (xBuild Try.prog 123 [] w fun t33 w =>
 xStore Try.prog 123 t4 t33 w fun _ w =>
 xLoadR Try.prog 123 t4 w fun r0 =>
 K (.tuple #[r0, (.int .i64 2)]) w)
 (xLoad Try.prog 123 t6 w fun t34 w =>
 xStore Try.prog 123 t4 t34 w fun _ w =>
 xLoadR Try.prog 123 t4 w fun r0 =>
 K (.tuple #[r0, (.int .i64 0)]) w)))
abbrev n_obj_whole : Nat := 130
def obj_whole_ann : Ann := { loop := fun i => [], wr := fun i => [], told := fun i => bif Nat.beq i 4 then [(0, false, ⟨0, 1048640, some 20⟩), (1, false, ⟨1, 3145728, some 21⟩), (2, false, ⟨2, 6291456, some 22⟩), (3, false, ⟨4, 12582976, some 23⟩), (5, false, ⟨4, 37748737, some 25⟩), (6, false, ⟨36, 104857600, some 26⟩), (7, false, ⟨68, 205520896, some 27⟩), (8, false, ⟨132, 406847488, some 28⟩), (9, false, ⟨4, 541065218, some 29⟩), (10, false, ⟨772, 1883242496, some 30⟩), (4, false, ⟨12, 29360128, some 24⟩), (11, false, ⟨1044, 3242196992, some 31⟩), (12, false, ⟨2052, 6446645248, some 32⟩), (13, false, ⟨4112, 4295491584, some 19⟩)] else [], sq := fun i => bif Nat.beq i 4 then some (.rd true 0 (.rd false 1 (.rd true 2 (.rd false 3 (.rd true 5 (.rd true 6 (.rd true 7 (.rd false 8 (.rd true 9 (.rd true 10 (.ef 4 [8] (.rd true 11 (.rd true 12 (.rd true 13 .done)))))))))))))) else none }
theorem obj_whole_eq (t0 t1 : Value) (w : World) (K : K1) : reads Try.prog obj_whole_ann Try.f130 #[t0, t1] w K = obj_whole K t0 t1 w := by kernel_rfl
theorem obj_whole_of {t0 t1 : Value} {w : World} {K : K1} (h : obj_whole K t0 t1 w) : Yld Try.prog n_obj_whole #[t0, t1] w K :=
  yld_of mixed obj_whole_ann Try.func130 (by kernel_rfl) (obj_whole_eq t0 t1 w K) h

/-! internal/stringslite.Index: function 131 -/
def internal_stringslite_Index_j1 (K : K1) (nxt1 : List Value → World → Prop) (t0 t1 t5 t7 t8 t9 t10 : Value) (w : World) : Prop :=
 xBin Try.prog .add 3 false t8 true (.int .i64 1) w fun t80_1 w =>
 xIndex Try.prog 9 t0 t80_1 w fun t81_1 w =>
 xBin Try.prog .eql 5 false t81_1 false t7 w fun t83_1 w =>
 xGuard t83_1 true (fun w K => K t0 w) w fun t85_1 w =>
 xGuard t83_1 true (fun w K => K t8 w) w fun t86_1 w =>
 xGuard t83_1 true (fun w K => K t8 w) w fun t87_1 w =>
 xGuard t83_1 true (fun w K => K t5 w) w fun t88_1 w =>
 xGuard t83_1 true (fun w K => xBin Try.prog .add 3 false t87_1 false t88_1 w K) w fun t89_1 w =>
 xGuard t83_1 true (fun w K => xSlice Try.prog 9 t85_1 (some t86_1) (some t89_1) none w K) w fun t90_1 w =>
 xGuard t83_1 true (fun w K => K t1 w) w fun t91_1 w =>
 xGuard t83_1 true (fun w K => xBin Try.prog .eql 9 false t90_1 false t91_1 w K) w fun t92_1 w =>
 xPick t83_1 t92_1 (.bool false) w fun t93_1 w =>
 xIf t93_1
 (K t8 w)
 (xBin Try.prog .add 3 false t8 true (.int .i64 1) w fun t96_1 w =>
 xBin Try.prog .add 3 false t10 true (.int .i64 1) w fun t98_1 w =>
 xLoad Try.prog 3 (.pointer (some ⟨0, 0, none⟩)) w fun t100_1 w =>
 xBin Try.prog .leq 3 false t5 false t100_1 w fun t101_1 w =>
 xGuard t101_1 true (fun w K => K t98_1 w) w fun t103_1 w =>
 xGuard t101_1 true (fun w K => K t96_1 w) w fun t104_1 w =>
 xGuard t101_1 true (fun w K => xCall Try.prog (fnv 135) [t104_1] w K) w fun t105_1 w =>
 xGuard t101_1 true (fun w K => xBin Try.prog .gtr 3 false t103_1 false t105_1 w K) w fun t106_1 w =>
 xPick t101_1 t106_1 (.bool false) w fun t107_1 w =>
 xIf t107_1
 (xSlice Try.prog 9 t0 (some t96_1) none none w fun t110_1 w =>
 xCall Try.prog (fnv 134) [t110_1, t1] w fun t112_1 w =>
 xBin Try.prog .geq 3 false t112_1 true (.int .i64 0) w fun t114_1 w =>
 xIf t114_1
 (xBin Try.prog .add 3 false t112_1 false t96_1 w fun t117_1 w =>
 K t117_1 w)
 (K (.int .i64 (-1)) w))
 (xLoad Try.prog 3 (.pointer (some ⟨0, 0, none⟩)) w fun t119_1 w =>
 xBin Try.prog .gtr 3 false t5 false t119_1 w fun t120_1 w =>
 xGuard t120_1 true (fun w K => K t98_1 w) w fun t122_1 w =>
 xGuard t120_1 true (fun w K => K t96_1 w) w fun t123_1 w =>
 xGuard t120_1 true (fun w K => xBin Try.prog .shr 3 false t123_1 true (c64 4) w K) w fun t124_1 w =>
 xGuard t120_1 true (fun w K => xBin Try.prog .add 3 true (.int .i64 4) false t124_1 w K) w fun t125_1 w =>
 xGuard t120_1 true (fun w K => xBin Try.prog .geq 3 false t122_1 false t125_1 w K) w fun t126_1 w =>
 xPick t120_1 t126_1 (.bool false) w fun t127_1 w =>
 xGuard t127_1 true (fun w K => K t96_1 w) w fun t129_1 w =>
 xGuard t127_1 true (fun w K => K t9 w) w fun t130_1 w =>
 xGuard t127_1 true (fun w K => xBin Try.prog .lss 3 false t129_1 false t130_1 w K) w fun t131_1 w =>
 xPick t127_1 t131_1 (.bool false) w fun t132_1 w =>
 xIf t132_1
 (xSlice Try.prog 9 t0 (some t96_1) none none w fun t135_1 w =>
 xCall Try.prog (fnv 136) [t135_1, t1] w fun t137_1 w =>
 xBin Try.prog .lss 3 false t137_1 true (.int .i64 0) w fun t139_1 w =>
 xIf t139_1
 (K (.int .i64 (-1)) w)
 (xBin Try.prog .add 3 false t96_1 false t137_1 w fun t142_1 w =>
 K t142_1 w))
 (nxt1 [t96_1, t98_1] w)))
def internal_stringslite_Index_l1 (K : K1) (nxt1 : List Value → World → Prop) (t0 t1 t5 t6 t7 t8 t9 t10 : Value) (w : World) : Prop :=
 xBin Try.prog .lss 3 false t8 false t9 w fun t59_1 w =>
 xIf t59_1
 (xIndex Try.prog 9 t0 t8 w fun t62_1 w =>
 xBin Try.prog .neq 5 false t62_1 false t6 w fun t64_1 w =>
 xIf t64_1
 (xBin Try.prog .add 3 false t8 true (.int .i64 1) w fun t67_1 w =>
 xSlice Try.prog 9 t0 (some t67_1) (some t9) none w fun t69_1 w =>
 xCall Try.prog (fnv 133) [t69_1, t6] w fun t71_1 w =>
 xBin Try.prog .lss 3 false t71_1 true (.int .i64 0) w fun t73_1 w =>
 xIf t73_1
 (K (.int .i64 (-1)) w)
 (xBin Try.prog .add 3 false t71_1 true (.int .i64 1) w fun t76_1 w =>
 xBin Try.prog .add 3 false t8 false t76_1 w fun t77_1 w =>
 internal_stringslite_Index_j1 K nxt1 t0 t1 t5 t7 t77_1 t9 t10 w))
 (internal_stringslite_Index_j1 K nxt1 t0 t1 t5 t7 t8 t9 t10 w))
 (K (.int .i64 (-1)) w)
def internal_stringslite_Index (K : K1) (t0 t1 : Value) (w : World) : Prop :=
 xBuiltin Try.prog .len #[9] 3 [false] [t1] w fun t15 w =>
 xBin Try.prog .eql 3 false t15 true (.int .i64 0) w fun t18 w =>
 xGuard t18 false (fun w K => K t1 w) w fun t20 w =>
 xGuard t18 false (fun w K => K t0 w) w fun t21 w =>
 xGuard t18 false (fun w K => xBin Try.prog .eql 9 false t20 false t21 w K) w fun t22 w =>
 xPick t18 (.bool true) t22 w fun t23 w =>
 xIf t23
 (K (.int .i64 0) w)
 (xBin Try.prog .eql 3 false t15 true (.int .i64 1) w fun t26 w =>
 xIf t26
 (xIndex Try.prog 9 t1 (.int .i64 0) w fun t29 w =>
 xCall Try.prog (fnv 133) [t0, t29] w fun t30 w =>
 K t30 w)
 (xBuiltin Try.prog .len #[9] 3 [false] [t0] w fun t34 w =>
 xBin Try.prog .geq 3 false t15 false t34 w fun t35 w =>
 xIf t35
 (K (.int .i64 (-1)) w)
 (xLoad Try.prog 3 (.pointer (some ⟨0, 0, none⟩)) w fun t38 w =>
 xBin Try.prog .leq 3 false t15 false t38 w fun t39 w =>
 xGuard t39 true (fun w K => K t0 w) w fun t41 w =>
 xGuard t39 true (fun w K => xBuiltin Try.prog .len #[9] 3 [false] [t41] w K) w fun t42 w =>
 xGuard t39 true (fun w K => xBin Try.prog .leq 3 false t42 true (.int .i64 64) w K) w fun t43 w =>
 xPick t39 t43 (.bool false) w fun t44 w =>
 xIf t44
 (xCall Try.prog (fnv 134) [t0, t1] w fun t47 w =>
 K t47 w)
 (xIndex Try.prog 9 t1 (.int .i64 0) w fun t49 w =>
 xIndex Try.prog 9 t1 (.int .i64 1) w fun t51 w =>
 xBuiltin Try.prog .len #[9] 3 [false] [t0] w fun t53 w =>
 xBin Try.prog .sub 3 false t53 false t15 w fun t55 w =>
 xBin Try.prog .add 3 false t55 true (.int .i64 1) w fun t56 w =>
 xLoop [(.int .i64 0), (.int .i64 0)] w [8, 10] fun u w nxt1 =>
 internal_stringslite_Index_l1 K nxt1 t0 t1 t15 t49 t51 (u 8) t56 (u 10) w))))
abbrev n_internal_stringslite_Index : Nat := 131
def internal_stringslite_Index_ann : Ann := { loop := fun i => bif Nat.beq i 1 then [8, 10] else [], wr := fun i => bif Nat.beq i 1 then [4, 8, 10, 11, 12, 13, 57, 58, 59, 60, 61, 62, 63, 64, 65, 66, 67, 68, 69, 70, 71, 72, 73, 74, 75, 76, 77, 78, 79, 80, 81, 82, 83, 84, 85, 86, 87, 88, 89, 90, 91, 92, 93, 94, 95, 96, 97, 98, 99, 100, 101, 102, 103, 104, 105, 106, 107, 108, 109, 110, 111, 112, 113, 114, 115, 116, 117, 118, 119, 120, 121, 122, 123, 124, 125, 126, 127, 128, 129, 130, 131, 132, 133, 134, 135, 136, 137, 138, 139, 140, 141, 142] else [], told := fun i => [] }
theorem internal_stringslite_Index_eq (t0 t1 : Value) (w : World) (K : K1) : reads Try.prog internal_stringslite_Index_ann Try.f131 #[t0, t1] w K = internal_stringslite_Index K t0 t1 w := by kernel_rfl
theorem internal_stringslite_Index_of {t0 t1 : Value} {w : World} {K : K1} (h : internal_stringslite_Index K t0 t1 w) : Yld Try.prog n_internal_stringslite_Index #[t0, t1] w K :=
  yld_of mixed internal_stringslite_Index_ann Try.func131 (by kernel_rfl) (internal_stringslite_Index_eq t0 t1 w K) h

/-! cmp.isNaN[int]: function 132 -/
def cmp_isNaN_int (K : K1) (t0 : Value) (w : World) : Prop :=
 xBin Try.prog .neq 3 false t0 false t0 w fun t5 w =>
 K t5 w
abbrev n_cmp_isNaN_int : Nat := 132
def cmp_isNaN_int_ann : Ann := { loop := fun i => [], wr := fun i => [], told := fun i => [] }
theorem cmp_isNaN_int_eq (t0 : Value) (w : World) (K : K1) : reads Try.prog cmp_isNaN_int_ann Try.f132 #[t0] w K = cmp_isNaN_int K t0 w := by kernel_rfl
theorem cmp_isNaN_int_of {t0 : Value} {w : World} {K : K1} (h : cmp_isNaN_int K t0 w) : Yld Try.prog n_cmp_isNaN_int #[t0] w K :=
  yld_of mixed cmp_isNaN_int_ann Try.func132 (by kernel_rfl) (cmp_isNaN_int_eq t0 w K) h

/-! internal/stringslite.IndexByte: function 133 -/
def internal_stringslite_IndexByte (K : K1) (t0 t1 : Value) (w : World) : Prop :=
 xCall Try.prog (fnv 137) [t0, t1] w fun t7 w =>
 K t7 w
abbrev n_internal_stringslite_IndexByte : Nat := 133
def internal_stringslite_IndexByte_ann : Ann := { loop := fun i => [], wr := fun i => [], told := fun i => [] }
theorem internal_stringslite_IndexByte_eq (t0 t1 : Value) (w : World) (K : K1) : reads Try.prog internal_stringslite_IndexByte_ann Try.f133 #[t0, t1] w K = internal_stringslite_IndexByte K t0 t1 w := by kernel_rfl
theorem internal_stringslite_IndexByte_of {t0 t1 : Value} {w : World} {K : K1} (h : internal_stringslite_IndexByte K t0 t1 w) : Yld Try.prog n_internal_stringslite_IndexByte #[t0, t1] w K :=
  yld_of mixed internal_stringslite_IndexByte_ann Try.func133 (by kernel_rfl) (internal_stringslite_IndexByte_eq t0 t1 w K) h

/-! internal/bytealg.Cutover: function 135 -/
/-! internal/bytealg.IndexRabinKarp[string]: function 136 -/
abbrev n_internal_bytealg_IndexByteString : Nat := 137
/-! internal/bytealg.hashStr[string]: function 138 -/
end Go.Proofs.Ytdpmidgeipibbaa
