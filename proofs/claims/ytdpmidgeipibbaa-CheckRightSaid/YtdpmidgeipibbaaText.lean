/- Each function of the set, as it is loaded, read as a statement on values; and that a call gives what the reading asks. -/
import Derived.Test.YtdpmidgeipibbaaBase
set_option linter.unusedVariables false
namespace Go.Proofs.Ytdpmidgeipibbaa
open Go.Sh Go.RowKit
/-! loam/loamlaw26.CheckRight: function 3 -/
def loamlaw26_CheckRight (K : K1) (t0 : Value) (w : World) : Prop :=
 xBox Try.prog 25 t0 w fun t1 w =>
 xCall Try.prog (fnv 11) [] w fun t5 w =>
 xUn Try.prog .not t5 w fun t6 w =>
 xIf t6
 (K (.bool false) w)
 (xLoad Try.prog 25 t1 w fun t7 w =>
 xCall Try.prog (fnv 12) [t7] w fun t8 w =>
 xUn Try.prog .not t8 w fun t9 w =>
 xIf t9
 (K (.bool true) w)
 (xLoad Try.prog 25 t1 w fun t11 w =>
 xCall Try.prog (fnv 14) [t11] w fun t12 w =>
 xCall Try.prog (fnv 13) [t12] w fun t13 w =>
 xExtract Try.prog t13 0 w fun t14 w =>
 xExtract Try.prog t13 1 w fun t15 w =>
 xBin Try.prog .neq 3 false t15 true (.int .i64 0) w fun t17 w =>
 xIf t17
 (K (.bool true) w)
 (xCall Try.prog (fnv 15) [t14] w fun t19 w =>
 xGuard t19 true (fun w K => K t14 w) w fun t21 w =>
 xGuard t19 true (fun w K => xCall Try.prog (fnv 16) [t21] w K) w fun t22 w =>
 xGuard t19 true (fun w K => xBuiltin Try.prog .len #[37] 3 [false] [t22] w K) w fun t23 w =>
 xGuard t19 true (fun w K => xBin Try.prog .eql 3 false t23 true (.int .i64 0) w K) w fun t24 w =>
 xPick t19 t24 (.bool false) w fun t25 w =>
 K t25 w)))
abbrev n_loamlaw26_CheckRight : Nat := 3
def loamlaw26_CheckRight_ann : Ann := { loop := fun i => [], wr := fun i => [], told := fun i => [] }
theorem loamlaw26_CheckRight_eq (t0 : Value) (w : World) (K : K1) : reads Try.prog loamlaw26_CheckRight_ann Try.f3 #[t0] w K = loamlaw26_CheckRight K t0 w := by kernel_rfl
theorem loamlaw26_CheckRight_of {t0 : Value} {w : World} {K : K1} (h : loamlaw26_CheckRight K t0 w) : Yld Try.prog n_loamlaw26_CheckRight #[t0] w K :=
  yld_of mixed loamlaw26_CheckRight_ann Try.func3 (by kernel_rfl) (loamlaw26_CheckRight_eq t0 w K) h

/-! loam/loamlaw26.CheckMore: function 4 -/
/-! loam/loamlaw26.CheckSpaces: function 5 -/
/-! loam/loamlaw23.ImageBack: function 6 -/
/-! loam/loamlaw23.ImageWords: function 7 -/
/-! loam/loamlaw23.ImageUnlike: function 8 -/
/-! loam/loamlaw26.CheckImages: function 9 -/
/-! loam/loamlaw23.ImageTrims: function 10 -/
/-! loam/loamlaw26.known: function 11 -/
def loamlaw26_known (K : K1) (w : World) : Prop :=
 xBuildSlice Try.prog 28 3 [(0, (c64 1296125772)), (1, (c64 196608)), (2, (c64 9223372036854775808))] w fun t4 w =>
 xBuildSlice Try.prog 28 3 [(0, (c64 1296125772)), (1, (c64 196608)), (2, (c64 5))] w fun t5 w =>
 xCall Try.prog (fnv 16) [t5] w fun t6 w =>
 xCall Try.prog (fnv 16) [(.slice none 0 0)] w fun t7 w =>
 xCall Try.prog (fnv 15) [t4] w fun t9 w =>
 xGuard t9 true (fun w K => K t4 w) w fun t11 w =>
 xGuard t9 true (fun w K => xCall Try.prog (fnv 16) [t11] w K) w fun t12 w =>
 xGuard t9 true (fun w K => xBuiltin Try.prog .len #[37] 3 [false] [t12] w K) w fun t13 w =>
 xGuard t9 true (fun w K => xBin Try.prog .eql 3 false t13 true (.int .i64 0) w K) w fun t14 w =>
 xPick t9 t14 (.bool false) w fun t15 w =>
 xGuard t15 true (fun w K => K t6 w) w fun t17 w =>
 xGuard t15 true (fun w K => xBuiltin Try.prog .len #[37] 3 [false] [t17] w K) w fun t18 w =>
 xGuard t15 true (fun w K => xBin Try.prog .eql 3 false t18 true (.int .i64 1) w K) w fun t19 w =>
 xPick t15 t19 (.bool false) w fun t20 w =>
 xGuard t20 true (fun w K => K t6 w) w fun t22 w =>
 xGuard t20 true (fun w K => xIndexAddr Try.prog 37 t22 (.int .i64 0) w K) w fun t23 w =>
 xGuard t20 true (fun w K => xFieldAddr Try.prog 40 t23 0 w K) w fun t24 w =>
 xGuard t20 true (fun w K => xLoad Try.prog 3 t24 w K) w fun t25 w =>
 xGuard t20 true (fun w K => xBin Try.prog .eql 3 false t25 true (.int .i64 2) w K) w fun t26 w =>
 xPick t20 t26 (.bool false) w fun t27 w =>
 xGuard t27 true (fun w K => K t6 w) w fun t29 w =>
 xGuard t27 true (fun w K => xIndexAddr Try.prog 37 t29 (.int .i64 0) w K) w fun t30 w =>
 xGuard t27 true (fun w K => xFieldAddr Try.prog 40 t30 1 w K) w fun t31 w =>
 xGuard t27 true (fun w K => xLoad Try.prog 9 t31 w K) w fun t32 w =>
 xGuard t27 true (fun w K => xBin Try.prog .eql 9 false t32 true (.string { data := #[104, 101, 97, 100] }) w K) w fun t33 w =>
 xPick t27 t33 (.bool false) w fun t34 w =>
 xGuard t34 true (fun w K => K t7 w) w fun t36 w =>
 xGuard t34 true (fun w K => xBuiltin Try.prog .len #[37] 3 [false] [t36] w K) w fun t37 w =>
 xGuard t34 true (fun w K => xBin Try.prog .eql 3 false t37 true (.int .i64 2) w K) w fun t38 w =>
 xPick t34 t38 (.bool false) w fun t39 w =>
 xGuard t39 true (fun w K => K t7 w) w fun t41 w =>
 xGuard t39 true (fun w K => xIndexAddr Try.prog 37 t41 (.int .i64 0) w K) w fun t42 w =>
 xGuard t39 true (fun w K => xFieldAddr Try.prog 40 t42 1 w K) w fun t43 w =>
 xGuard t39 true (fun w K => xLoad Try.prog 9 t43 w K) w fun t44 w =>
 xGuard t39 true (fun w K => xBin Try.prog .eql 9 false t44 true (.string { data := #[109, 97, 103, 105, 99] }) w K) w fun t45 w =>
 xPick t39 t45 (.bool false) w fun t46 w =>
 xGuard t46 true (fun w K => K t7 w) w fun t48 w =>
 xGuard t46 true (fun w K => xIndexAddr Try.prog 37 t48 (.int .i64 1) w K) w fun t49 w =>
 xGuard t46 true (fun w K => xFieldAddr Try.prog 40 t49 1 w K) w fun t50 w =>
 xGuard t46 true (fun w K => xLoad Try.prog 9 t50 w K) w fun t51 w =>
 xGuard t46 true (fun w K => xBin Try.prog .eql 9 false t51 true (.string { data := #[115, 105, 122, 101] }) w K) w fun t52 w =>
 xPick t46 t52 (.bool false) w fun t53 w =>
 xGuard t53 true (fun w K => xCall Try.prog (fnv 15) [(.slice none 0 0)] w K) w fun t55 w =>
 xGuard t53 true (fun w K => xUn Try.prog .not t55 w K) w fun t56 w =>
 xPick t53 t56 (.bool false) w fun t57 w =>
 K t57 w
abbrev n_loamlaw26_known : Nat := 11
def loamlaw26_known_ann : Ann := { loop := fun i => [], wr := fun i => [], told := fun i => [] }
theorem loamlaw26_known_eq (w : World) (K : K1) : reads Try.prog loamlaw26_known_ann Try.f11 #[] w K = loamlaw26_known K  w := by kernel_rfl
theorem loamlaw26_known_of {w : World} {K : K1} (h : loamlaw26_known K w) : Yld Try.prog n_loamlaw26_known #[] w K :=
  yld_of mixed loamlaw26_known_ann Try.func11 (by kernel_rfl) (loamlaw26_known_eq  w K) h

/-! loam/loamlaw17.Few: function 12 -/
def loamlaw17_Few_l2 (K : K1) (nxt2 : List Value → World → Prop) (t1 t4 : Value) (w : World) : Prop :=
 xFieldAddr Try.prog 25 t1 1 w fun t41_1 w =>
 xLoad Try.prog 23 t41_1 w fun t42_1 w =>
 xBuiltin Try.prog .len #[23] 3 [false] [t42_1] w fun t43_1 w =>
 xBin Try.prog .lss 3 false t4 false t43_1 w fun t44_1 w =>
 xIf t44_1
 (xFieldAddr Try.prog 25 t1 1 w fun t47_1 w =>
 xLoad Try.prog 23 t47_1 w fun t48_1 w =>
 xIndexAddr Try.prog 23 t48_1 t4 w fun t50_1 w =>
 xFieldAddr Try.prog 74 t50_1 0 w fun t51_1 w =>
 xLoad Try.prog 9 t51_1 w fun t52_1 w =>
 xBuiltin Try.prog .len #[9] 3 [false] [t52_1] w fun t53_1 w =>
 xBin Try.prog .gtr 3 false t53_1 true (.int .i64 40) w fun t54_1 w =>
 xIf t54_1
 (K (.bool false) w)
 (xBin Try.prog .add 3 false t4 true (.int .i64 1) w fun t46_1 w =>
 nxt2 [t46_1] w))
 (K (.bool true) w)
def loamlaw17_Few_l1 (K : K1) (nxt0 : List Value → World → Prop) (t1 t3 : Value) (w : World) : Prop :=
 xFieldAddr Try.prog 25 t1 0 w fun t16_1 w =>
 xLoad Try.prog 22 t16_1 w fun t17_1 w =>
 xBuiltin Try.prog .len #[22] 3 [false] [t17_1] w fun t18_1 w =>
 xBin Try.prog .lss 3 false t3 false t18_1 w fun t19_1 w =>
 xIf t19_1
 (xFieldAddr Try.prog 25 t1 0 w fun t22_1 w =>
 xLoad Try.prog 22 t22_1 w fun t23_1 w =>
 xIndexAddr Try.prog 22 t23_1 t3 w fun t25_1 w =>
 xFieldAddr Try.prog 72 t25_1 0 w fun t26_1 w =>
 xLoad Try.prog 66 t26_1 w fun t27_1 w =>
 xBuiltin Try.prog .len #[66] 3 [false] [t27_1] w fun t28_1 w =>
 xBin Try.prog .gtr 3 false t28_1 true (.int .i64 70) w fun t29_1 w =>
 xGuard t29_1 false (fun w K => xFieldAddr Try.prog 25 t1 0 w K) w fun t31_1 w =>
 xGuard t29_1 false (fun w K => xLoad Try.prog 22 t31_1 w K) w fun t32_1 w =>
 xGuard t29_1 false (fun w K => K t3 w) w fun t33_1 w =>
 xGuard t29_1 false (fun w K => xIndexAddr Try.prog 22 t32_1 t33_1 w K) w fun t34_1 w =>
 xGuard t29_1 false (fun w K => xFieldAddr Try.prog 72 t34_1 1 w K) w fun t35_1 w =>
 xGuard t29_1 false (fun w K => xLoad Try.prog 70 t35_1 w K) w fun t36_1 w =>
 xGuard t29_1 false (fun w K => xBuiltin Try.prog .len #[70] 3 [false] [t36_1] w K) w fun t37_1 w =>
 xGuard t29_1 false (fun w K => xBin Try.prog .gtr 3 false t37_1 true (.int .i64 1100) w K) w fun t38_1 w =>
 xPick t29_1 (.bool true) t38_1 w fun t39_1 w =>
 xIf t39_1
 (K (.bool false) w)
 (xBin Try.prog .add 3 false t3 true (.int .i64 1) w fun t21_1 w =>
 nxt0 [t21_1] w))
 (xLoop [(.int .i64 0)] w [4] fun u w nxt2 =>
 loamlaw17_Few_l2 K nxt2 t1 (u 4) w)
def loamlaw17_Few (K : K1) (t0 : Value) (w : World) : Prop :=
 xBox Try.prog 25 t0 w fun t1 w =>
 xFieldAddr Try.prog 25 t1 0 w fun t5 w =>
 xLoad Try.prog 22 t5 w fun t6 w =>
 xBuiltin Try.prog .len #[22] 3 [false] [t6] w fun t7 w =>
 xBin Try.prog .gtr 3 false t7 true (.int .i64 60) w fun t8 w =>
 xGuard t8 false (fun w K => xFieldAddr Try.prog 25 t1 1 w K) w fun t10 w =>
 xGuard t8 false (fun w K => xLoad Try.prog 23 t10 w K) w fun t11 w =>
 xGuard t8 false (fun w K => xBuiltin Try.prog .len #[23] 3 [false] [t11] w K) w fun t12 w =>
 xGuard t8 false (fun w K => xBin Try.prog .gtr 3 false t12 true (.int .i64 80) w K) w fun t13 w =>
 xPick t8 (.bool true) t13 w fun t14 w =>
 xIf t14
 (K (.bool false) w)
 (xLoop [(.int .i64 0)] w [3] fun u w nxt0 =>
 loamlaw17_Few_l1 K nxt0 t1 (u 3) w)
abbrev n_loamlaw17_Few : Nat := 12
def loamlaw17_Few_ann : Ann := { loop := fun i => bif Nat.beq i 2 then [4] else bif Nat.beq i 0 then [3] else [], wr := fun i => bif Nat.beq i 2 then [2, 4, 40, 41, 42, 43, 44, 45, 46, 47, 48, 49, 50, 51, 52, 53, 54] else bif Nat.beq i 0 then [2, 3, 15, 16, 17, 18, 19, 20, 21, 22, 23, 24, 25, 26, 27, 28, 29, 30, 31, 32, 33, 34, 35, 36, 37, 38, 39] else [], told := fun i => [] }
theorem loamlaw17_Few_eq (t0 : Value) (w : World) (K : K1) : reads Try.prog loamlaw17_Few_ann Try.f12 #[t0] w K = loamlaw17_Few K t0 w := by kernel_rfl
theorem loamlaw17_Few_of {t0 : Value} {w : World} {K : K1} (h : loamlaw17_Few K t0 w) : Yld Try.prog n_loamlaw17_Few #[t0] w K :=
  yld_of mixed loamlaw17_Few_ann Try.func12 (by kernel_rfl) (loamlaw17_Few_eq t0 w K) h

/-! loam/loamref17.Encode: function 13 -/
def loamref17_Encode_l4 (K : K1) (nxt4 : List Value → World → Prop) (nxt6 : List Value → World → Prop) (t6 t8 t11 t12 t15 : Value) (w : World) : Prop :=
 xFieldAddr Try.prog 76 t12 0 w fun t123_1 w =>
 xLoad Try.prog 66 t123_1 w fun t124_1 w =>
 xBuiltin Try.prog .len #[66] 3 [false] [t124_1] w fun t125_1 w =>
 xBin Try.prog .lss 3 false t15 false t125_1 w fun t126_1 w =>
 xIf t126_1
 (xFieldAddr Try.prog 76 t12 0 w fun t131_1 w =>
 xLoad Try.prog 66 t131_1 w fun t132_1 w =>
 xIndexAddr Try.prog 66 t132_1 t15 w fun t134_1 w =>
 xLoad Try.prog 3 t134_1 w fun t135_1 w =>
 xCall Try.prog (fnv 37) [t6, t135_1] w fun t136_1 w =>
 xBuildSlice Try.prog 28 1 [(0, t136_1)] w fun t137_1 w =>
 xBuiltin Try.prog .append #[28, 28] 28 [false, false] [t8, t137_1] w fun t138_1 w =>
 xBin Try.prog .add 3 false t15 true (.int .i64 1) w fun t128_1 w =>
 nxt6 [t138_1, t128_1] w)
 (xFieldAddr Try.prog 76 t12 1 w fun t140_1 w =>
 xLoad Try.prog 70 t140_1 w fun t141_1 w =>
 xCall Try.prog (fnv 36) [t141_1] w fun t142_1 w =>
 xBuiltin Try.prog .append #[28, 28] 28 [false, false] [t8, t142_1] w fun t143_1 w =>
 xBin Try.prog .add 3 false t11 true (.int .i64 1) w fun t101_1 w =>
 nxt4 [t143_1, t101_1] w)
def loamref17_Encode_l3 (K : K1) (nxt4 : List Value → World → Prop) (t1 t6 t8 t11 : Value) (w : World) : Prop :=
 xFieldAddr Try.prog 34 t1 0 w fun t96_1 w =>
 xLoad Try.prog 31 t96_1 w fun t97_1 w =>
 xBuiltin Try.prog .len #[31] 3 [false] [t97_1] w fun t98_1 w =>
 xBin Try.prog .lss 3 false t11 false t98_1 w fun t99_1 w =>
 xIf t99_1
 (xFieldAddr Try.prog 34 t1 0 w fun t102_1 w =>
 xLoad Try.prog 31 t102_1 w fun t103_1 w =>
 xIndexAddr Try.prog 31 t103_1 t11 w fun t105_1 w =>
 xLoad Try.prog 76 t105_1 w fun t106_1 w =>
 xAlloc Try.prog 76 w fun t12_1 w =>
 xStore Try.prog 76 t12_1 t106_1 w fun _ w =>
 xFieldAddr Try.prog 76 t12_1 0 w fun t108_1 w =>
 xLoad Try.prog 66 t108_1 w fun t109_1 w =>
 xBuiltin Try.prog .len #[66] 3 [false] [t109_1] w fun t110_1 w =>
 xFieldAddr Try.prog 76 t12_1 1 w fun t111_1 w =>
 xLoad Try.prog 70 t111_1 w fun t112_1 w =>
 xBuiltin Try.prog .len #[70] 3 [false] [t112_1] w fun t113_1 w =>
 xBuild Try.prog 84 [(0, t110_1), (1, t113_1)] w fun t114_1 w =>
 xCall Try.prog (fnv 38) [t114_1] w fun t115_1 w =>
 xExtract Try.prog t115_1 0 w fun t116_1 w =>
 xExtract Try.prog t115_1 1 w fun t117_1 w =>
 xBuildSlice Try.prog 28 1 [(0, t116_1)] w fun t120_1 w =>
 xBuiltin Try.prog .append #[28, 28] 28 [false, false] [t8, t120_1] w fun t121_1 w =>
 xLoop [t121_1, (.int .i64 0)] w [8, 15] fun u w nxt6 =>
 loamref17_Encode_l4 K nxt4 nxt6 t6 (u 8) t11 t12_1 (u 15) w)
 (K (.tuple #[t8, (.int .i64 0)]) w)
def loamref17_Encode_l2 (K : K1) (nxt2 : List Value → World → Prop) (t1 t6 t8 t9 : Value) (w : World) : Prop :=
 xFieldAddr Try.prog 34 t1 1 w fun t58_1 w =>
 xLoad Try.prog 32 t58_1 w fun t59_1 w =>
 xBuiltin Try.prog .len #[32] 3 [false] [t59_1] w fun t60_1 w =>
 xBin Try.prog .lss 3 false t9 false t60_1 w fun t61_1 w =>
 xIf t61_1
 (xSq w.drew fun w =>
 xPur w (fun w K => xFieldAddr Try.prog 34 t1 1 w K) fun t64_1 =>
 xRd w (fun K => xLoad Try.prog 32 t64_1 w K) fun t65_1 =>
 xPur w (fun w K => K t9 w) fun t66_1 =>
 xPur w (fun w K => xIndexAddr Try.prog 32 t65_1 t66_1 w K) fun t67_1 =>
 xPur w (fun w K => xFieldAddr Try.prog 78 t67_1 0 w K) fun t68_1 =>
 xRd w (fun K => xLoad Try.prog 9 t68_1 w K) fun t69_1 =>
 xPur w (fun w K => xFieldAddr Try.prog 34 t1 1 w K) fun t71_1 =>
 xRd w (fun K => xLoad Try.prog 32 t71_1 w K) fun t72_1 =>
 xPur w (fun w K => K t9 w) fun t73_1 =>
 xPur w (fun w K => xIndexAddr Try.prog 32 t72_1 t73_1 w K) fun t74_1 =>
 xPur w (fun w K => xFieldAddr Try.prog 78 t74_1 0 w K) fun t75_1 =>
 xRd w (fun K => xLoad Try.prog 9 t75_1 w K) fun t76_1 =>
 xPur w (fun w K => xBuiltin Try.prog .len #[9] 3 [false] [t76_1] w K) fun t77_1 =>
 xPur w (fun w K => xBin Try.prog .sub 3 true (.int .i64 32) false t77_1 w K) fun t78_1 =>
 xConv Try.prog 9 70 t69_1 w fun t70_1 w =>
 xRe w (fun K => xLoad Try.prog 32 t71_1 w K) t72_1 (
 xRe w (fun K => xLoad Try.prog 9 t75_1 w K) t76_1 (
 xBuiltin Try.prog .append #[70, 3] 70 [false, false] [t70_1, t78_1] w fun t79_1 w =>
 xPur w (fun w K => K t79_1 w) fun t10_1 =>
 xCall Try.prog (fnv 36) [t10_1] w fun t82_1 w =>
 xBuiltin Try.prog .append #[28, 28] 28 [false, false] [t8, t82_1] w fun t83_1 w =>
 xFieldAddr Try.prog 34 t1 1 w fun t86_1 w =>
 xLoad Try.prog 32 t86_1 w fun t87_1 w =>
 xIndexAddr Try.prog 32 t87_1 t9 w fun t89_1 w =>
 xFieldAddr Try.prog 78 t89_1 1 w fun t90_1 w =>
 xLoad Try.prog 3 t90_1 w fun t91_1 w =>
 xCall Try.prog (fnv 37) [t6, t91_1] w fun t92_1 w =>
 xBuildSlice Try.prog 28 1 [(0, t92_1)] w fun t93_1 w =>
 xBuiltin Try.prog .append #[28, 28] 28 [false, false] [t83_1, t93_1] w fun t94_1 w =>
 xBin Try.prog .add 3 false t9 true (.int .i64 1) w fun t63_1 w =>
 nxt2 [t94_1, t63_1] w)))
 (xLoop [t8, (.int .i64 0)] w [8, 11] fun u w nxt4 =>
 loamref17_Encode_l3 K nxt4 t1 t6 (u 8) (u 11) w)
def loamref17_Encode_l1 (K : K1) (nxt0 : List Value → World → Prop) (t1 t5 t6 t7 : Value) (w : World) : Prop :=
 xFieldAddr Try.prog 34 t1 0 w fun t30_1 w =>
 xLoad Try.prog 31 t30_1 w fun t31_1 w =>
 xBuiltin Try.prog .len #[31] 3 [false] [t31_1] w fun t32_1 w =>
 xBin Try.prog .lss 3 false t7 false t32_1 w fun t33_1 w =>
 xIf t33_1
 (xBuildSlice Try.prog 66 1 [(0, t5)] w fun t38_1 w =>
 xBuiltin Try.prog .append #[66, 66] 66 [false, false] [t6, t38_1] w fun t39_1 w =>
 xFieldAddr Try.prog 34 t1 0 w fun t41_1 w =>
 xLoad Try.prog 31 t41_1 w fun t42_1 w =>
 xIndexAddr Try.prog 31 t42_1 t7 w fun t44_1 w =>
 xLoad Try.prog 76 t44_1 w fun t45_1 w =>
 xCall Try.prog (fnv 35) [t45_1] w fun t46_1 w =>
 xBin Try.prog .add 3 false t5 false t46_1 w fun t47_1 w =>
 xBin Try.prog .add 3 false t7 true (.int .i64 1) w fun t35_1 w =>
 nxt0 [t47_1, t39_1, t35_1] w)
 (xFieldAddr Try.prog 34 t1 1 w fun t48 w =>
 xLoad Try.prog 32 t48 w fun t49 w =>
 xBuiltin Try.prog .len #[32] 3 [false] [t49] w fun t50 w =>
 xConv Try.prog 3 69 t50 w fun t51 w =>
 xConv Try.prog 3 69 t5 w fun t53 w =>
 xBin Try.prog .shl 69 false t53 true (c64 16) w fun t54 w =>
 xBin Try.prog .add 69 false t51 false t54 w fun t55 w =>
 xBuildSlice Try.prog 28 2 [(0, (c64 1296125772)), (1, t55)] w fun t56 w =>
 xLoop [t56, (.int .i64 0)] w [8, 9] fun u w nxt2 =>
 loamref17_Encode_l2 K nxt2 t1 t6 (u 8) (u 9) w)
def loamref17_Encode (K : K1) (t0 : Value) (w : World) : Prop :=
 xBox Try.prog 34 t0 w fun t1 w =>
 xLoad Try.prog 34 t1 w fun t16 w =>
 xCall Try.prog (fnv 25) [t16] w fun t17 w =>
 xBin Try.prog .neq 3 false t17 true (.int .i64 0) w fun t19 w =>
 xIf t19
 (K (.tuple #[(.slice none 0 0), t17]) w)
 (xLoad Try.prog 34 t1 w fun t21 w =>
 xCall Try.prog (fnv 27) [t21] w fun t22 w =>
 xBin Try.prog .gtr 3 false t22 true (.int .i64 8192) w fun t23 w =>
 xIf t23
 (K (.tuple #[(.slice none 0 0), (.int .i64 3)]) w)
 (xFieldAddr Try.prog 34 t1 1 w fun t24 w =>
 xLoad Try.prog 32 t24 w fun t25 w =>
 xBuiltin Try.prog .len #[32] 3 [false] [t25] w fun t26 w =>
 xBin Try.prog .mul 3 true (.int .i64 5) false t26 w fun t27 w =>
 xBin Try.prog .add 3 true (.int .i64 2) false t27 w fun t28 w =>
 xLoop [t28, (.slice none 0 0), (.int .i64 0)] w [5, 6, 7] fun u w nxt0 =>
 loamref17_Encode_l1 K nxt0 t1 (u 5) (u 6) (u 7) w))
abbrev n_loamref17_Encode : Nat := 13
def loamref17_Encode_ann : Ann := { loop := fun i => bif Nat.beq i 6 then [8, 15] else bif Nat.beq i 4 then [8, 11] else bif Nat.beq i 2 then [8, 9] else bif Nat.beq i 0 then [5, 6, 7] else [], wr := fun i => bif Nat.beq i 6 then [8, 15, 122, 123, 124, 125, 126, 127, 128, 129, 130, 131, 132, 133, 134, 135, 136, 137, 138] else bif Nat.beq i 4 then [8, 11, 12, 13, 14, 15, 95, 96, 97, 98, 99, 100, 101, 102, 103, 104, 105, 106, 107, 108, 109, 110, 111, 112, 113, 114, 115, 116, 117, 118, 119, 120, 121, 122, 123, 124, 125, 126, 127, 128, 129, 130, 131, 132, 133, 134, 135, 136, 137, 138, 139, 140, 141, 142, 143] else bif Nat.beq i 2 then [8, 9, 10, 57, 58, 59, 60, 61, 62, 63, 64, 65, 66, 67, 68, 69, 70, 71, 72, 73, 74, 75, 76, 77, 78, 79, 80, 81, 82, 83, 84, 85, 86, 87, 88, 89, 90, 91, 92, 93, 94] else bif Nat.beq i 0 then [5, 6, 7, 29, 30, 31, 32, 33, 34, 35, 36, 37, 38, 39, 40, 41, 42, 43, 44, 45, 46, 47] else [], told := fun i => bif Nat.beq i 17 then [(0, false, ⟨0, 18446744073709551618, some 64⟩), (1, false, ⟨1, 55340232221128654848, some 65⟩), (2, false, ⟨0, 73786976294838206976, some 66⟩), (3, false, ⟨6, 258254417031933722624, some 67⟩), (4, false, ⟨8, 442721857769029238784, some 68⟩), (5, false, ⟨16, 885443715538058477568, some 69⟩), (7, false, ⟨0, 2361183241434822606850, some 71⟩), (8, false, ⟨128, 7083549724304467820544, some 72⟩), (9, false, ⟨0, 9444732965739290427904, some 73⟩), (10, false, ⟨768, 33056565380087516495872, some 74⟩), (11, false, ⟨1024, 56668397794435742564352, some 75⟩), (12, false, ⟨2048, 113336795588871485128704, some 76⟩), (13, false, ⟨4096, 226673591177742970257408, some 77⟩), (14, false, ⟨8192, 453347182355485940514816, some 78⟩), (6, false, ⟨32, 1770887431076116955136, some 70⟩), (15, false, ⟨16448, 907874956331689292333056, some 79⟩), (16, false, ⟨65535, 604462909807314587354112, some 10⟩)] else [], sq := fun i => bif Nat.beq i 17 then some (.rd true 0 (.rd false 1 (.rd true 2 (.rd true 3 (.rd true 4 (.rd false 5 (.rd true 7 (.rd false 8 (.rd true 9 (.rd true 10 (.rd true 11 (.rd false 12 (.rd true 13 (.rd true 14 (.ef 6 [8, 12] (.ef 15 [] (.rd true 16 .done))))))))))))))))) else none }
theorem loamref17_Encode_eq (t0 : Value) (w : World) (K : K1) : reads Try.prog loamref17_Encode_ann Try.f13 #[t0] w K = loamref17_Encode K t0 w := by kernel_rfl
theorem loamref17_Encode_of {t0 : Value} {w : World} {K : K1} (h : loamref17_Encode K t0 w) : Yld Try.prog n_loamref17_Encode #[t0] w K :=
  yld_of mixed loamref17_Encode_ann Try.func13 (by kernel_rfl) (loamref17_Encode_eq t0 w K) h

/-! loam/loamlaw17.Of: function 14 -/
def loamlaw17_Of_l2 (K : K1) (nxt2 : List Value → World → Prop) (t1 t2 t3 t5 : Value) (w : World) : Prop :=
 xFieldAddr Try.prog 25 t1 1 w fun t33_1 w =>
 xLoad Try.prog 23 t33_1 w fun t34_1 w =>
 xBuiltin Try.prog .len #[23] 3 [false] [t34_1] w fun t35_1 w =>
 xBin Try.prog .lss 3 false t5 false t35_1 w fun t36_1 w =>
 xIf t36_1
 (xSq w.drew fun w =>
 xPur w (fun w K => xFieldAddr Try.prog 34 t3 1 w K) fun t39_1 =>
 xRd w (fun K => xLoad Try.prog 32 t39_1 w K) fun t40_1 =>
 xPur w (fun w K => xFieldAddr Try.prog 25 t1 1 w K) fun t41_1 =>
 xRd w (fun K => xLoad Try.prog 23 t41_1 w K) fun t42_1 =>
 xPur w (fun w K => K t5 w) fun t43_1 =>
 xPur w (fun w K => xIndexAddr Try.prog 23 t42_1 t43_1 w K) fun t44_1 =>
 xPur w (fun w K => xFieldAddr Try.prog 74 t44_1 0 w K) fun t45_1 =>
 xRd w (fun K => xLoad Try.prog 9 t45_1 w K) fun t46_1 =>
 xPur w (fun w K => xFieldAddr Try.prog 25 t1 1 w K) fun t47_1 =>
 xRd w (fun K => xLoad Try.prog 23 t47_1 w K) fun t48_1 =>
 xPur w (fun w K => K t5 w) fun t49_1 =>
 xPur w (fun w K => xIndexAddr Try.prog 23 t48_1 t49_1 w K) fun t50_1 =>
 xPur w (fun w K => xFieldAddr Try.prog 74 t50_1 1 w K) fun t51_1 =>
 xRd w (fun K => xLoad Try.prog 3 t51_1 w K) fun t52_1 =>
 xPur w (fun w K => xBuild Try.prog 78 [(0, t46_1), (1, t52_1)] w K) fun t53_1 =>
 xBuildSlice Try.prog 32 1 [(0, t53_1)] w fun t54_1 w =>
 xRe w (fun K => xLoad Try.prog 32 t39_1 w K) t40_1 (
 xBuiltin Try.prog .append #[32, 32] 32 [false, false] [t40_1, t54_1] w fun t55_1 w =>
 xPur w (fun w K => xFieldAddr Try.prog 34 t3 1 w K) fun t56_1 =>
 xStore Try.prog 32 t56_1 t55_1 w fun _x18 w =>
 xBin Try.prog .add 3 false t5 true (.int .i64 1) w fun t38_1 w =>
 nxt2 [t38_1] w))
 (xLoad Try.prog 34 t3 w fun t57 w =>
 xStore Try.prog 34 t2 t57 w fun _ w =>
 xLoadR Try.prog 34 t2 w fun r0 =>
 K r0 w)
def loamlaw17_Of_l1 (K : K1) (nxt0 : List Value → World → Prop) (t1 t2 t3 t4 : Value) (w : World) : Prop :=
 xFieldAddr Try.prog 25 t1 0 w fun t8_1 w =>
 xLoad Try.prog 22 t8_1 w fun t9_1 w =>
 xBuiltin Try.prog .len #[22] 3 [false] [t9_1] w fun t10_1 w =>
 xBin Try.prog .lss 3 false t4 false t10_1 w fun t11_1 w =>
 xIf t11_1
 (xSq w.drew fun w =>
 xPur w (fun w K => xFieldAddr Try.prog 34 t3 0 w K) fun t14_1 =>
 xRd w (fun K => xLoad Try.prog 31 t14_1 w K) fun t15_1 =>
 xPur w (fun w K => xFieldAddr Try.prog 25 t1 0 w K) fun t16_1 =>
 xRd w (fun K => xLoad Try.prog 22 t16_1 w K) fun t17_1 =>
 xPur w (fun w K => K t4 w) fun t18_1 =>
 xPur w (fun w K => xIndexAddr Try.prog 22 t17_1 t18_1 w K) fun t19_1 =>
 xPur w (fun w K => xFieldAddr Try.prog 72 t19_1 0 w K) fun t20_1 =>
 xRd w (fun K => xLoad Try.prog 66 t20_1 w K) fun t21_1 =>
 xPur w (fun w K => xFieldAddr Try.prog 25 t1 0 w K) fun t22_1 =>
 xRd w (fun K => xLoad Try.prog 22 t22_1 w K) fun t23_1 =>
 xPur w (fun w K => K t4 w) fun t24_1 =>
 xPur w (fun w K => xIndexAddr Try.prog 22 t23_1 t24_1 w K) fun t25_1 =>
 xPur w (fun w K => xFieldAddr Try.prog 72 t25_1 1 w K) fun t26_1 =>
 xRd w (fun K => xLoad Try.prog 70 t26_1 w K) fun t27_1 =>
 xPur w (fun w K => xBuild Try.prog 76 [(0, t21_1), (1, t27_1)] w K) fun t28_1 =>
 xBuildSlice Try.prog 31 1 [(0, t28_1)] w fun t29_1 w =>
 xRe w (fun K => xLoad Try.prog 31 t14_1 w K) t15_1 (
 xBuiltin Try.prog .append #[31, 31] 31 [false, false] [t15_1, t29_1] w fun t30_1 w =>
 xPur w (fun w K => xFieldAddr Try.prog 34 t3 0 w K) fun t31_1 =>
 xStore Try.prog 31 t31_1 t30_1 w fun _x18 w =>
 xBin Try.prog .add 3 false t4 true (.int .i64 1) w fun t13_1 w =>
 nxt0 [t13_1] w))
 (xLoop [(.int .i64 0)] w [5] fun u w nxt2 =>
 loamlaw17_Of_l2 K nxt2 t1 t2 t3 (u 5) w)
def loamlaw17_Of (K : K1) (t0 : Value) (w : World) : Prop :=
 xBox Try.prog 25 t0 w fun t1 w =>
 xAlloc Try.prog 34 w fun t2 w =>
 xBuild Try.prog 34 [] w fun t6 w =>
 xAlloc Try.prog 34 w fun t3 w =>
 xStore Try.prog 34 t3 t6 w fun _ w =>
 xLoop [(.int .i64 0)] w [4] fun u w nxt0 =>
 loamlaw17_Of_l1 K nxt0 t1 t2 t3 (u 4) w
abbrev n_loamlaw17_Of : Nat := 14
def loamlaw17_Of_ann : Ann := { loop := fun i => bif Nat.beq i 2 then [5] else bif Nat.beq i 0 then [4] else [], wr := fun i => bif Nat.beq i 2 then [5, 32, 33, 34, 35, 36, 37, 38, 39, 40, 41, 42, 43, 44, 45, 46, 47, 48, 49, 50, 51, 52, 53, 54, 55, 56] else bif Nat.beq i 0 then [4, 7, 8, 9, 10, 11, 12, 13, 14, 15, 16, 17, 18, 19, 20, 21, 22, 23, 24, 25, 26, 27, 28, 29, 30, 31] else [], told := fun i => bif Nat.beq i 5 then [(0, false, ⟨0, 16392, some 14⟩), (1, false, ⟨1, 49152, some 15⟩), (2, false, ⟨0, 65538, some 16⟩), (3, false, ⟨4, 196608, some 17⟩), (4, false, ⟨0, 262160, some 18⟩), (5, false, ⟨24, 917504, some 19⟩), (6, false, ⟨32, 1572864, some 20⟩), (7, false, ⟨64, 3145728, some 21⟩), (8, false, ⟨0, 4194306, some 22⟩), (9, false, ⟨256, 12582912, some 23⟩), (10, false, ⟨0, 16777232, some 24⟩), (11, false, ⟨1536, 58720256, some 25⟩), (12, false, ⟨2048, 100663296, some 26⟩), (13, false, ⟨4096, 201326592, some 27⟩), (14, false, ⟨8320, 404750336, some 28⟩), (15, false, ⟨16384, 805306368, some 29⟩), (16, false, ⟨32770, 1610645504, some 30⟩), (17, false, ⟨131071, 2147483656, some 31⟩), (18, false, ⟨262143, 3221225472, none⟩)] else bif Nat.beq i 9 then [(0, false, ⟨0, 549755813896, some 39⟩), (1, false, ⟨1, 1649267441664, some 40⟩), (2, false, ⟨0, 2199023255554, some 41⟩), (3, false, ⟨4, 6597069766656, some 42⟩), (4, false, ⟨0, 8796093022240, some 43⟩), (5, false, ⟨24, 30786325577728, some 44⟩), (6, false, ⟨32, 52776558133248, some 45⟩), (7, false, ⟨64, 105553116266496, some 46⟩), (8, false, ⟨0, 140737488355330, some 47⟩), (9, false, ⟨256, 422212465065984, some 48⟩), (10, false, ⟨0, 562949953421344, some 49⟩), (11, false, ⟨1536, 1970324836974592, some 50⟩), (12, false, ⟨2048, 3377699720527872, some 51⟩), (13, false, ⟨4096, 6755399441055744, some 52⟩), (14, false, ⟨8320, 13581167626289152, some 53⟩), (15, false, ⟨16384, 27021597764222976, some 54⟩), (16, false, ⟨32770, 54044295040073728, some 55⟩), (17, false, ⟨131071, 72057594037927944, some 56⟩), (18, false, ⟨262143, 108086391056891904, none⟩)] else [], sq := fun i => bif Nat.beq i 5 then some (.rd true 0 (.rd false 1 (.rd true 2 (.rd false 3 (.rd true 4 (.rd true 5 (.rd true 6 (.rd false 7 (.rd true 8 (.rd false 9 (.rd true 10 (.rd true 11 (.rd true 12 (.rd false 13 (.rd true 14 (.ef 15 [1] (.ef 16 [] (.rd true 17 (.ef 18 [] .done))))))))))))))))))) else bif Nat.beq i 9 then some (.rd true 0 (.rd false 1 (.rd true 2 (.rd false 3 (.rd true 4 (.rd true 5 (.rd true 6 (.rd false 7 (.rd true 8 (.rd false 9 (.rd true 10 (.rd true 11 (.rd true 12 (.rd false 13 (.rd true 14 (.ef 15 [1] (.ef 16 [] (.rd true 17 (.ef 18 [] .done))))))))))))))))))) else none }
theorem loamlaw17_Of_eq (t0 : Value) (w : World) (K : K1) : reads Try.prog loamlaw17_Of_ann Try.f14 #[t0] w K = loamlaw17_Of K t0 w := by kernel_rfl
theorem loamlaw17_Of_of {t0 : Value} {w : World} {K : K1} (h : loamlaw17_Of K t0 w) : Yld Try.prog n_loamlaw17_Of #[t0] w K :=
  yld_of mixed loamlaw17_Of_ann Try.func14 (by kernel_rfl) (loamlaw17_Of_eq t0 w K) h

/-! loam/check.Right: function 15 -/
def check_Right (K : K1) (t0 : Value) (w : World) : Prop :=
 xCall Try.prog (fnv 16) [t0] w fun t4 w =>
 xBuiltin Try.prog .len #[37] 3 [false] [t4] w fun t5 w =>
 xBin Try.prog .eql 3 false t5 true (.int .i64 0) w fun t6 w =>
 K t6 w
abbrev n_check_Right : Nat := 15
def check_Right_ann : Ann := { loop := fun i => [], wr := fun i => [], told := fun i => [] }
theorem check_Right_eq (t0 : Value) (w : World) (K : K1) : reads Try.prog check_Right_ann Try.f15 #[t0] w K = check_Right K t0 w := by kernel_rfl
theorem check_Right_of {t0 : Value} {w : World} {K : K1} (h : check_Right K t0 w) : Yld Try.prog n_check_Right #[t0] w K :=
  yld_of mixed check_Right_ann Try.func15 (by kernel_rfl) (check_Right_eq t0 w K) h

/-! loam/check.Image: function 16 -/
def check_Image_j15 (K : K1) (nxt0 : List Value → World → Prop) (t8 t9 : Value) (w : World) : Prop :=
 xBin Try.prog .add 3 false t9 true (.int .i64 5) w fun t49_1 w =>
 nxt0 [t8, t49_1] w
def check_Image_j14 (K : K1) (nxt0 : List Value → World → Prop) (t0 t7 t8 t9 : Value) (w : World) : Prop :=
 xBin Try.prog .add 3 false t9 true (.int .i64 4) w fun t74_1 w =>
 xIndexAddr Try.prog 28 t0 t74_1 w fun t75_1 w =>
 xLoad Try.prog 69 t75_1 w fun t76_1 w =>
 xCall Try.prog (fnv 44) [t7, t76_1] w fun t77_1 w =>
 xUn Try.prog .not t77_1 w fun t78_1 w =>
 xIf t78_1
 (xBin Try.prog .add 3 false t9 true (.int .i64 4) w fun t81_1 w =>
 xCall Try.prog (fnv 43) [t7, t81_1, (.string { data := #[114, 111, 111, 116] })] w fun t82_1 w =>
 check_Image_j15 K nxt0 t8 t9 w)
 (check_Image_j15 K nxt0 t8 t9 w)
def check_Image_j12 (K : K1) (nxt0 : List Value → World → Prop) (t0 t7 t8 t9 t10 t11 : Value) (w : World) : Prop :=
 xIf t11
 (check_Image_j14 K nxt0 t0 t7 t10 t9 w)
 (check_Image_j14 K nxt0 t0 t7 t8 t9 w)
def check_Image_l2 (K : K1) (nxt0 : List Value → World → Prop) (t0 t3 t6 t7 t8 t9 : Value) (w : World) : Prop :=
 xBin Try.prog .lss 3 false t9 false t6 w fun t47_1 w =>
 xIf t47_1
 (xBin Try.prog .add 3 false t9 true (.int .i64 4) w fun t54_1 w =>
 xSlice Try.prog 28 t0 (some t9) (some t54_1) none w fun t55_1 w =>
 xCall Try.prog (fnv 42) [t55_1] w fun t56_1 w =>
 xExtract Try.prog t56_1 0 w fun t57_1 w =>
 xExtract Try.prog t56_1 1 w fun t58_1 w =>
 xUn Try.prog .not t58_1 w fun t60_1 w =>
 xGuard t60_1 false (fun w K => K t57_1 w) w fun t62_1 w =>
 xGuard t60_1 false (fun w K => K t8 w) w fun t63_1 w =>
 xGuard t60_1 false (fun w K => xBin Try.prog .leq 9 false t62_1 false t63_1 w K) w fun t64_1 w =>
 xPick t60_1 (.bool true) t64_1 w fun t65_1 w =>
 xIf t65_1
 (xCall Try.prog (fnv 43) [t7, t9, (.string { data := #[110, 97, 109, 101] })] w fun t68_1 w =>
 check_Image_j12 K nxt0 t0 t7 t8 t9 t57_1 t58_1 w)
 (check_Image_j12 K nxt0 t0 t7 t8 t9 t57_1 t58_1 w))
 (xNilCheck t7 w fun t85_1 w =>
 xFieldAddr Try.prog 96 t85_1 3 w fun t86_1 w =>
 xLoad Try.prog 37 t86_1 w fun t87_1 w =>
 xBuiltin Try.prog .append #[37, 37] 37 [false, false] [t3, t87_1] w fun t88_1 w =>
 xCall Try.prog (fnv 40) [t88_1] w fun t89_1 w =>
 K t89_1 w)
def check_Image_j8 (K : K1) (t0 t3 : Value) (w : World) : Prop :=
 xCall Try.prog (fnv 39) [t0] w fun t27_1 w =>
 xExtract Try.prog t27_1 0 w fun t28_1 w =>
 xExtract Try.prog t27_1 1 w fun t29_1 w =>
 xUn Try.prog .not t29_1 w fun t31_1 w =>
 xIf t31_1
 (xBuild Try.prog 40 [(0, (.int .i64 1)), (1, (.string { data := #[115, 105, 122, 101] }))] w fun t33_1 w =>
 xBuildSlice Try.prog 37 1 [(0, t33_1)] w fun t34_1 w =>
 xBuiltin Try.prog .append #[37, 37] 37 [false, false] [t3, t34_1] w fun t35_1 w =>
 xCall Try.prog (fnv 40) [t35_1] w fun t36_1 w =>
 K t36_1 w)
 (xBin Try.prog .mul 3 true (.int .i64 5) false t28_1 w fun t38_1 w =>
 xBin Try.prog .add 3 true (.int .i64 2) false t38_1 w fun t39_1 w =>
 xSlice Try.prog 28 t0 (some t39_1) none none w fun t42_1 w =>
 xCall Try.prog (fnv 41) [t42_1, t39_1] w fun t44_1 w =>
 xLoop [(.string { data := #[] }), (.int .i64 2)] w [8, 9] fun u w nxt0 =>
 check_Image_l2 K nxt0 t0 t3 t39_1 t44_1 (u 8) (u 9) w)
def check_Image (K : K1) (t0 : Value) (w : World) : Prop :=
 xBuiltin Try.prog .len #[28] 3 [false] [t0] w fun t13 w =>
 xBin Try.prog .lss 3 false t13 true (.int .i64 1) w fun t14 w =>
 xGuard t14 false (fun w K => K t0 w) w fun t16 w =>
 xGuard t14 false (fun w K => xIndexAddr Try.prog 28 t16 (.int .i64 0) w K) w fun t17 w =>
 xGuard t14 false (fun w K => xLoad Try.prog 69 t17 w K) w fun t18 w =>
 xGuard t14 false (fun w K => xBin Try.prog .neq 69 false t18 true (c64 1296125772) w K) w fun t19 w =>
 xPick t14 (.bool true) t19 w fun t20 w =>
 xIf t20
 (xBuild Try.prog 40 [(0, (.int .i64 0)), (1, (.string { data := #[109, 97, 103, 105, 99] }))] w fun t22 w =>
 xBuildSlice Try.prog 37 1 [(0, t22)] w fun t23 w =>
 xBuiltin Try.prog .append #[37, 37] 37 [false, false] [(.slice none 0 0), t23] w fun t24 w =>
 check_Image_j8 K t0 t24 w)
 (check_Image_j8 K t0 (.slice none 0 0) w)
abbrev n_check_Image : Nat := 16
def check_Image_ann : Ann := { loop := fun i => bif Nat.beq i 0 then [8, 9] else [], wr := fun i => bif Nat.beq i 0 then [8, 9, 10, 11, 45, 46, 47, 48, 49, 50, 51, 52, 53, 54, 55, 56, 57, 58, 59, 60, 61, 62, 63, 64, 65, 66, 67, 68, 69, 70, 71, 72, 73, 74, 75, 76, 77, 78, 79, 80, 81, 82] else [], told := fun i => [] }
theorem check_Image_eq (t0 : Value) (w : World) (K : K1) : reads Try.prog check_Image_ann Try.f16 #[t0] w K = check_Image K t0 w := by kernel_rfl
theorem check_Image_of {t0 : Value} {w : World} {K : K1} (h : check_Image K t0 w) : Yld Try.prog n_check_Image #[t0] w K :=
  yld_of mixed check_Image_ann Try.func16 (by kernel_rfl) (check_Image_eq t0 w K) h

/-! loam/loamlaw16.To: function 17 -/
/-! loam/check.Space: function 18 -/
/-! loam/loamlaw26.same: function 19 -/
/-! loam/loamref17.Space: function 20 -/
/-! (*loam/loamref14.Space).Well: function 21 -/
/-! loam/loamlaw23.known: function 22 -/
/-! loam/image.Encode: function 23 -/
/-! loam/loamlaw23.words: function 24 -/
/-! loam/loamref17.Check: function 25 -/
def loamref17_Check_l2 (K : K1) (nxt0 : List Value → World → Prop) (nxt2 : List Value → World → Prop) (t3 t4 t5 t6 : Value) (w : World) : Prop :=
 xFieldAddr Try.prog 76 t5 0 w fun t23_1 w =>
 xLoad Try.prog 66 t23_1 w fun t24_1 w =>
 xBuiltin Try.prog .len #[66] 3 [false] [t24_1] w fun t25_1 w =>
 xBin Try.prog .lss 3 false t6 false t25_1 w fun t26_1 w =>
 xIf t26_1
 (xFieldAddr Try.prog 76 t5 0 w fun t29_1 w =>
 xLoad Try.prog 66 t29_1 w fun t30_1 w =>
 xIndexAddr Try.prog 66 t30_1 t6 w fun t32_1 w =>
 xLoad Try.prog 3 t32_1 w fun t33_1 w =>
 xBin Try.prog .lss 3 false t33_1 true (.int .i64 0) w fun t34_1 w =>
 xGuard t34_1 false (fun w K => xFieldAddr Try.prog 76 t5 0 w K) w fun t36_1 w =>
 xGuard t34_1 false (fun w K => xLoad Try.prog 66 t36_1 w K) w fun t37_1 w =>
 xGuard t34_1 false (fun w K => K t6 w) w fun t38_1 w =>
 xGuard t34_1 false (fun w K => xIndexAddr Try.prog 66 t37_1 t38_1 w K) w fun t39_1 w =>
 xGuard t34_1 false (fun w K => xLoad Try.prog 3 t39_1 w K) w fun t40_1 w =>
 xGuard t34_1 false (fun w K => K t3 w) w fun t41_1 w =>
 xGuard t34_1 false (fun w K => xBin Try.prog .gtr 3 false t40_1 false t41_1 w K) w fun t42_1 w =>
 xPick t34_1 (.bool true) t42_1 w fun t43_1 w =>
 xIf t43_1
 (K (.int .i64 1) w)
 (xBin Try.prog .add 3 false t6 true (.int .i64 1) w fun t28_1 w =>
 nxt2 [t28_1] w))
 (xFieldAddr Try.prog 76 t5 0 w fun t44_1 w =>
 xLoad Try.prog 66 t44_1 w fun t45_1 w =>
 xBuiltin Try.prog .len #[66] 3 [false] [t45_1] w fun t46_1 w =>
 xBin Try.prog .gtr 3 false t46_1 true (.int .i64 64) w fun t47_1 w =>
 xGuard t47_1 false (fun w K => xFieldAddr Try.prog 76 t5 1 w K) w fun t49_1 w =>
 xGuard t47_1 false (fun w K => xLoad Try.prog 70 t49_1 w K) w fun t50_1 w =>
 xGuard t47_1 false (fun w K => xBuiltin Try.prog .len #[70] 3 [false] [t50_1] w K) w fun t51_1 w =>
 xGuard t47_1 false (fun w K => xBin Try.prog .gtr 3 false t51_1 true (.int .i64 1024) w K) w fun t52_1 w =>
 xPick t47_1 (.bool true) t52_1 w fun t53_1 w =>
 xIf t53_1
 (K (.int .i64 3) w)
 (xBin Try.prog .add 3 false t4 true (.int .i64 1) w fun t16_1 w =>
 nxt0 [t16_1] w))
def loamref17_Check_l3 (K : K1) (nxt4 : List Value → World → Prop) (t1 t3 t7 : Value) (w : World) : Prop :=
 xFieldAddr Try.prog 34 t1 1 w fun t59_1 w =>
 xLoad Try.prog 32 t59_1 w fun t60_1 w =>
 xBuiltin Try.prog .len #[32] 3 [false] [t60_1] w fun t61_1 w =>
 xBin Try.prog .lss 3 false t7 false t61_1 w fun t62_1 w =>
 xIf t62_1
 (xFieldAddr Try.prog 34 t1 1 w fun t65_1 w =>
 xLoad Try.prog 32 t65_1 w fun t66_1 w =>
 xIndexAddr Try.prog 32 t66_1 t7 w fun t68_1 w =>
 xLoad Try.prog 78 t68_1 w fun t69_1 w =>
 xAlloc Try.prog 78 w fun t8_1 w =>
 xStore Try.prog 78 t8_1 t69_1 w fun _ w =>
 xSq w.drew fun w =>
 xPur w (fun w K => xFieldAddr Try.prog 78 t8_1 0 w K) fun t70_1 =>
 xRd w (fun K => xLoad Try.prog 9 t70_1 w K) fun t71_1 =>
 xCall Try.prog (fnv 65) [t71_1] w fun t72_1 w =>
 xPur w (fun w K => xUn Try.prog .not t72_1 w K) fun t73_1 =>
 xPur w (fun w K => K t73_1 w) fun t74_1 =>
 xPur w (fun w K => xGuard t74_1 false (fun w K => K t7 w) w K) fun t75_1 =>
 xPur w (fun w K => xGuard t74_1 false (fun w K => xBin Try.prog .gtr 3 false t75_1 true (.int .i64 0) w K) w K) fun t76_1 =>
 xPur w (fun w K => xGuard t74_1 false (fun w K => K t76_1 w) w K) fun t77_1 =>
 xPur w (fun w K => xGuard t77_1 true (fun w K => xFieldAddr Try.prog 34 t1 1 w K) w K) fun t78_1 =>
 xRd w (fun K => xGuard t77_1 true (fun w K => xLoad Try.prog 32 t78_1 w K) w K) fun t79_1 =>
 xPur w (fun w K => xGuard t77_1 true (fun w K => K t7 w) w K) fun t80_1 =>
 xPur w (fun w K => xGuard t77_1 true (fun w K => xBin Try.prog .sub 3 false t80_1 true (.int .i64 1) w K) w K) fun t81_1 =>
 xPur w (fun w K => xGuard t77_1 true (fun w K => xIndexAddr Try.prog 32 t79_1 t81_1 w K) w K) fun t82_1 =>
 xPur w (fun w K => xGuard t77_1 true (fun w K => xFieldAddr Try.prog 78 t82_1 0 w K) w K) fun t83_1 =>
 xRd w (fun K => xGuard t77_1 true (fun w K => xLoad Try.prog 9 t83_1 w K) w K) fun t84_1 =>
 xPur w (fun w K => xGuard t77_1 true (fun w K => xFieldAddr Try.prog 78 t8_1 0 w K) w K) fun t85_1 =>
 xRd w (fun K => xGuard t77_1 true (fun w K => xLoad Try.prog 9 t85_1 w K) w K) fun t86_1 =>
 xPur w (fun w K => xGuard t77_1 true (fun w K => xBin Try.prog .geq 9 false t84_1 false t86_1 w K) w K) fun t87_1 =>
 xPur w (fun w K => xGuard t74_1 false (fun w K => xPick t77_1 t87_1 (.bool false) w K) w K) fun t88_1 =>
 xPur w (fun w K => xPick t74_1 (.bool true) t88_1 w K) fun t89_1 =>
 xIf t89_1
 (K (.int .i64 4) w)
 (xFieldAddr Try.prog 78 t8_1 1 w fun t90_1 w =>
 xLoad Try.prog 3 t90_1 w fun t91_1 w =>
 xBin Try.prog .lss 3 false t91_1 true (.int .i64 0) w fun t92_1 w =>
 xGuard t92_1 false (fun w K => xFieldAddr Try.prog 78 t8_1 1 w K) w fun t94_1 w =>
 xGuard t92_1 false (fun w K => xLoad Try.prog 3 t94_1 w K) w fun t95_1 w =>
 xGuard t92_1 false (fun w K => K t3 w) w fun t96_1 w =>
 xGuard t92_1 false (fun w K => xBin Try.prog .gtr 3 false t95_1 false t96_1 w K) w fun t97_1 w =>
 xPick t92_1 (.bool true) t97_1 w fun t98_1 w =>
 xIf t98_1
 (K (.int .i64 1) w)
 (xBin Try.prog .add 3 false t7 true (.int .i64 1) w fun t64_1 w =>
 nxt4 [t64_1] w)))
 (K (.int .i64 0) w)
def loamref17_Check_l1 (K : K1) (nxt0 : List Value → World → Prop) (t1 t3 t4 : Value) (w : World) : Prop :=
 xBin Try.prog .lss 3 false t4 false t3 w fun t14_1 w =>
 xIf t14_1
 (xFieldAddr Try.prog 34 t1 0 w fun t17_1 w =>
 xLoad Try.prog 31 t17_1 w fun t18_1 w =>
 xIndexAddr Try.prog 31 t18_1 t4 w fun t20_1 w =>
 xLoad Try.prog 76 t20_1 w fun t21_1 w =>
 xAlloc Try.prog 76 w fun t5_1 w =>
 xStore Try.prog 76 t5_1 t21_1 w fun _ w =>
 xLoop [(.int .i64 0)] w [6] fun u w nxt2 =>
 loamref17_Check_l2 K nxt0 nxt2 t3 t4 t5_1 (u 6) w)
 (xFieldAddr Try.prog 34 t1 1 w fun t54 w =>
 xLoad Try.prog 32 t54 w fun t55 w =>
 xBuiltin Try.prog .len #[32] 3 [false] [t55] w fun t56 w =>
 xBin Try.prog .gtr 3 false t56 true (.int .i64 64) w fun t57 w =>
 xIf t57
 (K (.int .i64 3) w)
 (xLoop [(.int .i64 0)] w [7] fun u w nxt4 =>
 loamref17_Check_l3 K nxt4 t1 t3 (u 7) w))
def loamref17_Check (K : K1) (t0 : Value) (w : World) : Prop :=
 xBox Try.prog 34 t0 w fun t1 w =>
 xFieldAddr Try.prog 34 t1 0 w fun t9 w =>
 xLoad Try.prog 31 t9 w fun t10 w =>
 xBuiltin Try.prog .len #[31] 3 [false] [t10] w fun t11 w =>
 xLoop [(.int .i64 0)] w [4] fun u w nxt0 =>
 loamref17_Check_l1 K nxt0 t1 t11 (u 4) w
abbrev n_loamref17_Check : Nat := 25
def loamref17_Check_ann : Ann := { loop := fun i => bif Nat.beq i 2 then [6] else bif Nat.beq i 4 then [7] else bif Nat.beq i 0 then [4] else [], wr := fun i => bif Nat.beq i 2 then [2, 6, 22, 23, 24, 25, 26, 27, 28, 29, 30, 31, 32, 33, 34, 35, 36, 37, 38, 39, 40, 41, 42, 43] else bif Nat.beq i 4 then [2, 7, 8, 58, 59, 60, 61, 62, 63, 64, 65, 66, 67, 68, 69, 70, 71, 72, 73, 74, 75, 76, 77, 78, 79, 80, 81, 82, 83, 84, 85, 86, 87, 88, 89, 90, 91, 92, 93, 94, 95, 96, 97, 98] else bif Nat.beq i 0 then [2, 4, 5, 6, 12, 13, 14, 15, 16, 17, 18, 19, 20, 21, 22, 23, 24, 25, 26, 27, 28, 29, 30, 31, 32, 33, 34, 35, 36, 37, 38, 39, 40, 41, 42, 43, 44, 45, 46, 47, 48, 49, 50, 51, 52, 53] else [], told := fun i => bif Nat.beq i 19 then [(0, false, ⟨0, 1180591620717411303680, some 70⟩), (1, false, ⟨1, 3541774862152233910272, some 71⟩), (2, false, ⟨2, 7083549724304467820544, some 72⟩), (3, false, ⟨4, 14167099448608935641088, some 73⟩), (4, false, ⟨12, 28334198897217871282176, some 74⟩), (5, false, ⟨16, 56668397794435742564480, some 75⟩), (6, false, ⟨48, 132226261520350065983488, some 76⟩), (7, false, ⟨80, 245563057109221551112192, some 77⟩), (8, false, ⟨128, 453347182355485940514818, some 78⟩), (9, false, ⟨384, 1057810092162800527867904, some 79⟩), (10, false, ⟨128, 1360041547066457821544576, some 80⟩), (11, false, ⟨1152, 3777893186295716170956800, some 81⟩), (12, false, ⟨2688, 8009133554946918282428416, some 82⟩), (13, false, ⟨4224, 14658225562827378743312384, some 83⟩), (14, false, ⟨8320, 29165335398202928839786496, some 84⟩), (15, false, ⟨128, 38836741955119962237436160, some 85⟩), (16, false, ⟨32896, 116207994410456229418631168, some 86⟩), (17, false, ⟨82048, 251607686207294696985722880, some 87⟩), (18, false, ⟨131216, 464397519925400910314864640, some 88⟩), (19, false, ⟨262160, 928473918929966684755197952, some 89⟩)] else [], sq := fun i => bif Nat.beq i 19 then some (.rd true 0 (.rd false 1 (.ef 2 [] (.rd true 3 (.rd true 4 (.rd true 5 (.rd true 6 (.rd true 7 (.rd true 8 (.rd false 9 (.rd true 10 (.rd true 11 (.rd true 12 (.rd true 13 (.rd false 14 (.rd true 15 (.rd false 16 (.rd true 17 (.rd true 18 (.rd true 19 .done)))))))))))))))))))) else none }
theorem loamref17_Check_eq (t0 : Value) (w : World) (K : K1) : reads Try.prog loamref17_Check_ann Try.f25 #[t0] w K = loamref17_Check K t0 w := by kernel_rfl
theorem loamref17_Check_of {t0 : Value} {w : World} {K : K1} (h : loamref17_Check K t0 w) : Yld Try.prog n_loamref17_Check #[t0] w K :=
  yld_of mixed loamref17_Check_ann Try.func25 (by kernel_rfl) (loamref17_Check_eq t0 w K) h

/-! loam/image.Need: function 26 -/
/-! loam/loamref17.Need: function 27 -/
def loamref17_Need (K : K1) (t0 : Value) (w : World) : Prop :=
 xBox Try.prog 34 t0 w fun t1 w =>
 xSq w.drew fun w =>
 xPur w (fun w K => xFieldAddr Try.prog 34 t1 1 w K) fun t3 =>
 xRd w (fun K => xLoad Try.prog 32 t3 w K) fun t4 =>
 xPur w (fun w K => xBuiltin Try.prog .len #[32] 3 [false] [t4] w K) fun t5 =>
 xPur w (fun w K => xBin Try.prog .mul 3 true (.int .i64 5) false t5 w K) fun t6 =>
 xPur w (fun w K => xBin Try.prog .add 3 true (.int .i64 2) false t6 w K) fun t7 =>
 xRd w (fun K => xLoad Try.prog 34 t1 w K) fun t8 =>
 xCall Try.prog (fnv 67) [t8] w fun t9 w =>
 xRe w (fun K => xLoad Try.prog 32 t3 w K) t4 (
 xPur w (fun w K => xBin Try.prog .add 3 false t7 false t9 w K) fun t10 =>
 xPur w (fun w K => K t10 w) fun t2 =>
 K t2 w)
abbrev n_loamref17_Need : Nat := 27
def loamref17_Need_ann : Ann := { loop := fun i => [], wr := fun i => [], told := fun i => bif Nat.beq i 1 then [(0, false, ⟨0, 10, some 3⟩), (1, false, ⟨1, 24, some 4⟩), (2, false, ⟨2, 48, some 5⟩), (3, false, ⟨4, 96, some 6⟩), (4, false, ⟨8, 192, some 7⟩), (5, false, ⟨0, 258, some 8⟩), (6, false, ⟨32, 768, some 9⟩), (7, false, ⟨80, 1664, some 10⟩), (8, false, ⟨255, 1028, some 2⟩)] else [], sq := fun i => bif Nat.beq i 1 then some (.rd true 0 (.rd false 1 (.rd true 2 (.rd true 3 (.rd true 4 (.rd false 5 (.ef 6 [1] (.rd true 7 (.rd true 8 .done))))))))) else none }
theorem loamref17_Need_eq (t0 : Value) (w : World) (K : K1) : reads Try.prog loamref17_Need_ann Try.f27 #[t0] w K = loamref17_Need K t0 w := by kernel_rfl
theorem loamref17_Need_of {t0 : Value} {w : World} {K : K1} (h : loamref17_Need K t0 w) : Yld Try.prog n_loamref17_Need #[t0] w K :=
  yld_of mixed loamref17_Need_ann Try.func27 (by kernel_rfl) (loamref17_Need_eq t0 w K) h

/-! loam/image.Decode: function 28 -/
/-! loam/graph.Equal: function 29 -/
/-! loam/loamref17.Decode: function 30 -/
/-! loam/loamref17.Equal: function 31 -/
/-! loam/loamref17.Image: function 32 -/
/-! loam/graph.Trim: function 33 -/
/-! loam/canon.Same: function 34 -/
/-! loam/loamref17.size: function 35 -/
def loamref17_size (K : K1) (t0 : Value) (w : World) : Prop :=
 xBox Try.prog 76 t0 w fun t1 w =>
 xFieldAddr Try.prog 76 t1 0 w fun t3 w =>
 xLoad Try.prog 66 t3 w fun t4 w =>
 xBuiltin Try.prog .len #[66] 3 [false] [t4] w fun t5 w =>
 xFieldAddr Try.prog 76 t1 1 w fun t6 w =>
 xLoad Try.prog 70 t6 w fun t7 w =>
 xBuiltin Try.prog .len #[70] 3 [false] [t7] w fun t8 w =>
 xBuild Try.prog 84 [(0, t5), (1, t8)] w fun t9 w =>
 xCall Try.prog (fnv 52) [t9] w fun t10 w =>
 K t10 w
abbrev n_loamref17_size : Nat := 35
def loamref17_size_ann : Ann := { loop := fun i => [], wr := fun i => [], told := fun i => [] }
theorem loamref17_size_eq (t0 : Value) (w : World) (K : K1) : reads Try.prog loamref17_size_ann Try.f35 #[t0] w K = loamref17_size K t0 w := by kernel_rfl
theorem loamref17_size_of {t0 : Value} {w : World} {K : K1} (h : loamref17_size K t0 w) : Yld Try.prog n_loamref17_size #[t0] w K :=
  yld_of mixed loamref17_size_ann Try.func35 (by kernel_rfl) (loamref17_size_eq t0 w K) h

/-! loam/loamref17.words: function 36 -/
def loamref17_words_l2 (K : K1) (nxt0 : List Value → World → Prop) (nxt2 : List Value → World → Prop) (t0 t3 t4 t5 t6 : Value) (w : World) : Prop :=
 xBin Try.prog .lss 3 false t6 true (.int .i64 8) w fun t14_1 w =>
 xGuard t14_1 true (fun w K => K t4 w) w fun t16_1 w =>
 xGuard t14_1 true (fun w K => K t6 w) w fun t17_1 w =>
 xGuard t14_1 true (fun w K => xBin Try.prog .add 3 false t16_1 false t17_1 w K) w fun t18_1 w =>
 xGuard t14_1 true (fun w K => K t0 w) w fun t19_1 w =>
 xGuard t14_1 true (fun w K => xBuiltin Try.prog .len #[70] 3 [false] [t19_1] w K) w fun t20_1 w =>
 xGuard t14_1 true (fun w K => xBin Try.prog .lss 3 false t18_1 false t20_1 w K) w fun t21_1 w =>
 xPick t14_1 t21_1 (.bool false) w fun t22_1 w =>
 xIf t22_1
 (xBin Try.prog .add 3 false t4 false t6 w fun t29_1 w =>
 xIndexAddr Try.prog 70 t0 t29_1 w fun t30_1 w =>
 xLoad Try.prog 5 t30_1 w fun t31_1 w =>
 xConv Try.prog 5 69 t31_1 w fun t32_1 w =>
 xBin Try.prog .mul 3 true (.int .i64 8) false t6 w fun t34_1 w =>
 xConv Try.prog 3 77 t34_1 w fun t35_1 w =>
 xBin Try.prog .shl 69 false t32_1 false t35_1 w fun t36_1 w =>
 xBin Try.prog .or 69 false t5 false t36_1 w fun t37_1 w =>
 xBin Try.prog .add 3 false t6 true (.int .i64 1) w fun t24_1 w =>
 nxt2 [t37_1, t24_1] w)
 (xBuildSlice Try.prog 28 1 [(0, t5)] w fun t40_1 w =>
 xBuiltin Try.prog .append #[28, 28] 28 [false, false] [t3, t40_1] w fun t41_1 w =>
 xBin Try.prog .add 3 false t4 true (.int .i64 8) w fun t12_1 w =>
 nxt0 [t41_1, t12_1] w)
def loamref17_words_l1 (K : K1) (nxt0 : List Value → World → Prop) (t0 t3 t4 : Value) (w : World) : Prop :=
 xBuiltin Try.prog .len #[70] 3 [false] [t0] w fun t9_1 w =>
 xBin Try.prog .lss 3 false t4 false t9_1 w fun t10_1 w =>
 xIf t10_1
 (xLoop [(c64 0), (.int .i64 0)] w [5, 6] fun u w nxt2 =>
 loamref17_words_l2 K nxt0 nxt2 t0 t3 t4 (u 5) (u 6) w)
 (K t3 w)
def loamref17_words (K : K1) (t0 : Value) (w : World) : Prop :=
 xLoop [(.slice none 0 0), (.int .i64 0)] w [3, 4] fun u w nxt0 =>
 loamref17_words_l1 K nxt0 t0 (u 3) (u 4) w
abbrev n_loamref17_words : Nat := 36
def loamref17_words_ann : Ann := { loop := fun i => bif Nat.beq i 2 then [5, 6] else bif Nat.beq i 0 then [3, 4] else [], wr := fun i => bif Nat.beq i 2 then [5, 6, 13, 14, 15, 16, 17, 18, 19, 20, 21, 22, 23, 24, 25, 26, 27, 28, 29, 30, 31, 32, 33, 34, 35, 36, 37] else bif Nat.beq i 0 then [3, 4, 5, 6, 7, 8, 9, 10, 11, 12, 13, 14, 15, 16, 17, 18, 19, 20, 21, 22, 23, 24, 25, 26, 27, 28, 29, 30, 31, 32, 33, 34, 35, 36, 37, 38, 39, 40, 41] else [], told := fun i => [] }
theorem loamref17_words_eq (t0 : Value) (w : World) (K : K1) : reads Try.prog loamref17_words_ann Try.f36 #[t0] w K = loamref17_words K t0 w := by kernel_rfl
theorem loamref17_words_of {t0 : Value} {w : World} {K : K1} (h : loamref17_words K t0 w) : Yld Try.prog n_loamref17_words #[t0] w K :=
  yld_of mixed loamref17_words_ann Try.func36 (by kernel_rfl) (loamref17_words_eq t0 w K) h

/-! loam/loamref17.point: function 37 -/
def loamref17_point (K : K1) (t0 t1 : Value) (w : World) : Prop :=
 xBin Try.prog .eql 3 false t1 true (.int .i64 0) w fun t6 w =>
 xIf t6
 (K (c64 0) w)
 (xBin Try.prog .sub 3 false t1 true (.int .i64 1) w fun t9 w =>
 xIndexAddr Try.prog 66 t0 t9 w fun t10 w =>
 xLoad Try.prog 3 t10 w fun t11 w =>
 xBin Try.prog .add 3 false t11 true (.int .i64 1) w fun t12 w =>
 xConv Try.prog 3 69 t12 w fun t13 w =>
 K t13 w)
abbrev n_loamref17_point : Nat := 37
def loamref17_point_ann : Ann := { loop := fun i => [], wr := fun i => [], told := fun i => [] }
theorem loamref17_point_eq (t0 t1 : Value) (w : World) (K : K1) : reads Try.prog loamref17_point_ann Try.f37 #[t0, t1] w K = loamref17_point K t0 t1 w := by kernel_rfl
theorem loamref17_point_of {t0 t1 : Value} {w : World} {K : K1} (h : loamref17_point K t0 t1 w) : Yld Try.prog n_loamref17_point #[t0, t1] w K :=
  yld_of mixed loamref17_point_ann Try.func37 (by kernel_rfl) (loamref17_point_eq t0 t1 w K) h

/-! loam/loamref14.Pack: function 38 -/
def loamref14_Pack (K : K1) (t0 : Value) (w : World) : Prop :=
 xBox Try.prog 84 t0 w fun t1 w =>
 xLoad Try.prog 84 t1 w fun t5 w =>
 xCall Try.prog (fnv 90) [t5] w fun t6 w =>
 xUn Try.prog .not t6 w fun t7 w =>
 xIf t7
 (K (.tuple #[(c64 0), (.int .i64 1)]) w)
 (xFieldAddr Try.prog 84 t1 2 w fun t8 w =>
 xLoad Try.prog 4 t8 w fun t9 w =>
 xIf t9
 (xBin Try.prog .add 69 false (c64 9223372036854775808) true (c64 1) w fun t11 w =>
 xFieldAddr Try.prog 84 t1 3 w fun t12 w =>
 xLoad Try.prog 3 t12 w fun t13 w =>
 xConv Try.prog 3 69 t13 w fun t14 w =>
 xBin Try.prog .shl 69 false t14 true (c64 32) w fun t15 w =>
 xBin Try.prog .add 69 false t11 false t15 w fun t16 w =>
 K (.tuple #[t16, (.int .i64 0)]) w)
 (xFieldAddr Try.prog 84 t1 0 w fun t18 w =>
 xLoad Try.prog 3 t18 w fun t19 w =>
 xConv Try.prog 3 69 t19 w fun t20 w =>
 xBin Try.prog .shl 69 false t20 true (c64 1) w fun t21 w =>
 xBin Try.prog .add 69 false (c64 9223372036854775808) false t21 w fun t22 w =>
 xFieldAddr Try.prog 84 t1 1 w fun t23 w =>
 xLoad Try.prog 3 t23 w fun t24 w =>
 xConv Try.prog 3 69 t24 w fun t25 w =>
 xBin Try.prog .shl 69 false t25 true (c64 16) w fun t26 w =>
 xBin Try.prog .add 69 false t22 false t26 w fun t27 w =>
 K (.tuple #[t27, (.int .i64 0)]) w))
abbrev n_loamref14_Pack : Nat := 38
def loamref14_Pack_ann : Ann := { loop := fun i => [], wr := fun i => [], told := fun i => [] }
theorem loamref14_Pack_eq (t0 : Value) (w : World) (K : K1) : reads Try.prog loamref14_Pack_ann Try.f38 #[t0] w K = loamref14_Pack K t0 w := by kernel_rfl
theorem loamref14_Pack_of {t0 : Value} {w : World} {K : K1} (h : loamref14_Pack K t0 w) : Yld Try.prog n_loamref14_Pack #[t0] w K :=
  yld_of mixed loamref14_Pack_ann Try.func38 (by kernel_rfl) (loamref14_Pack_eq t0 w K) h

/-! loam/check.size: function 39 -/
def check_size (K : K1) (t0 : Value) (w : World) : Prop :=
 xBuiltin Try.prog .len #[28] 3 [false] [t0] w fun t6 w =>
 xBin Try.prog .lss 3 false t6 true (.int .i64 2) w fun t7 w =>
 xIf t7
 (K (.tuple #[(.int .i64 0), (.bool false)]) w)
 (xIndexAddr Try.prog 28 t0 (.int .i64 1) w fun t9 w =>
 xLoad Try.prog 69 t9 w fun t10 w =>
 xCall Try.prog (fnv 69) [t10, (.int .i64 0), (.int .i64 16)] w fun t11 w =>
 xConv Try.prog 69 3 t11 w fun t12 w =>
 xIndexAddr Try.prog 28 t0 (.int .i64 1) w fun t15 w =>
 xLoad Try.prog 69 t15 w fun t16 w =>
 xCall Try.prog (fnv 69) [t16, (.int .i64 48), (.int .i64 16)] w fun t17 w =>
 xBin Try.prog .eql 69 false t17 true (c64 0) w fun t18 w =>
 xGuard t18 true (fun w K => K t0 w) w fun t20 w =>
 xGuard t18 true (fun w K => xIndexAddr Try.prog 28 t20 (.int .i64 1) w K) w fun t21 w =>
 xGuard t18 true (fun w K => xLoad Try.prog 69 t21 w K) w fun t22 w =>
 xGuard t18 true (fun w K => xCall Try.prog (fnv 69) [t22, (.int .i64 16), (.int .i64 32)] w K) w fun t23 w =>
 xGuard t18 true (fun w K => K t0 w) w fun t24 w =>
 xGuard t18 true (fun w K => xBuiltin Try.prog .len #[28] 3 [false] [t24] w K) w fun t25 w =>
 xGuard t18 true (fun w K => xConv Try.prog 3 69 t25 w K) w fun t26 w =>
 xGuard t18 true (fun w K => xBin Try.prog .eql 69 false t23 false t26 w K) w fun t27 w =>
 xPick t18 t27 (.bool false) w fun t28 w =>
 xGuard t28 true (fun w K => K t12 w) w fun t30 w =>
 xGuard t28 true (fun w K => xBin Try.prog .leq 3 false t30 true (.int .i64 64) w K) w fun t31 w =>
 xPick t28 t31 (.bool false) w fun t32 w =>
 xGuard t32 true (fun w K => K t12 w) w fun t34 w =>
 xGuard t32 true (fun w K => xBin Try.prog .mul 3 true (.int .i64 5) false t34 w K) w fun t35 w =>
 xGuard t32 true (fun w K => xBin Try.prog .add 3 true (.int .i64 2) false t35 w K) w fun t36 w =>
 xGuard t32 true (fun w K => K t0 w) w fun t37 w =>
 xGuard t32 true (fun w K => xBuiltin Try.prog .len #[28] 3 [false] [t37] w K) w fun t38 w =>
 xGuard t32 true (fun w K => xBin Try.prog .leq 3 false t36 false t38 w K) w fun t39 w =>
 xPick t32 t39 (.bool false) w fun t40 w =>
 K (.tuple #[t12, t40]) w)
abbrev n_check_size : Nat := 39
def check_size_ann : Ann := { loop := fun i => [], wr := fun i => [], told := fun i => [] }
theorem check_size_eq (t0 : Value) (w : World) (K : K1) : reads Try.prog check_size_ann Try.f39 #[t0] w K = check_size K t0 w := by kernel_rfl
theorem check_size_of {t0 : Value} {w : World} {K : K1} (h : check_size K t0 w) : Yld Try.prog n_check_size #[t0] w K :=
  yld_of mixed check_size_ann Try.func39 (by kernel_rfl) (check_size_eq t0 w K) h

/-! slices.Clip[[]loam/check.Finding,loam/check.Finding]: function 40 -/
def slices_Clip_check_Finding_check_Finding (K : K1) (t0 : Value) (w : World) : Prop :=
 xBuiltin Try.prog .len #[37] 3 [false] [t0] w fun t5 w =>
 xBuiltin Try.prog .len #[37] 3 [false] [t0] w fun t7 w =>
 xSlice Try.prog 37 t0 none (some t5) (some t7) w fun t8 w =>
 K t8 w
abbrev n_slices_Clip_check_Finding_check_Finding : Nat := 40
def slices_Clip_check_Finding_check_Finding_ann : Ann := { loop := fun i => [], wr := fun i => [], told := fun i => [] }
theorem slices_Clip_check_Finding_check_Finding_eq (t0 : Value) (w : World) (K : K1) : reads Try.prog slices_Clip_check_Finding_check_Finding_ann Try.f40 #[t0] w K = slices_Clip_check_Finding_check_Finding K t0 w := by kernel_rfl
theorem slices_Clip_check_Finding_check_Finding_of {t0 : Value} {w : World} {K : K1} (h : slices_Clip_check_Finding_check_Finding K t0 w) : Yld Try.prog n_slices_Clip_check_Finding_check_Finding #[t0] w K :=
  yld_of mixed slices_Clip_check_Finding_check_Finding_ann Try.func40 (by kernel_rfl) (slices_Clip_check_Finding_check_Finding_eq t0 w K) h

/-! loam/check.look: function 41 -/
def check_look_l1 (K : K1) (nxt0 : List Value → World → Prop) (t5 t14 t15 t16 : Value) (w : World) : Prop :=
 xBin Try.prog .lss 3 false t16 false t15 w fun t17_1 w =>
 xIf t17_1
 (xIndexAddr Try.prog 66 t14 t16 w fun t18_1 w =>
 xLoad Try.prog 3 t18_1 w fun t19_1 w =>
 xCall Try.prog (fnv 92) [t5, t19_1] w fun t22_1 w =>
 xBin Try.prog .add 3 false t16 true (.int .i64 1) w fun t23_1 w =>
 nxt0 [t23_1] w)
 (K t5 w)
def check_look (K : K1) (t0 t1 : Value) (w : World) : Prop :=
 xMakeMap Try.prog 94 none w fun t10 w =>
 xBuild Try.prog 96 [(0, t0), (1, t1), (2, t10)] w fun t11 w =>
 xBox Try.prog 96 t11 w fun t12 w =>
 xCall Try.prog (fnv 91) [t12] w fun t14 w =>
 xBuiltin Try.prog .len #[66] 3 [false] [t14] w fun t15 w =>
 xLoop [(.int .i64 0)] w [16] fun u w nxt0 =>
 check_look_l1 K nxt0 t12 t14 t15 (u 16) w
abbrev n_check_look : Nat := 41
def check_look_ann : Ann := { loop := fun i => bif Nat.beq i 0 then [16] else [], wr := fun i => bif Nat.beq i 0 then [7, 16, 17, 18, 19, 20, 21, 22, 23] else [], told := fun i => [] }
theorem check_look_eq (t0 t1 : Value) (w : World) (K : K1) : reads Try.prog check_look_ann Try.f41 #[t0, t1] w K = check_look K t0 t1 w := by kernel_rfl
theorem check_look_of {t0 t1 : Value} {w : World} {K : K1} (h : check_look K t0 t1 w) : Yld Try.prog n_check_look #[t0, t1] w K :=
  yld_of mixed check_look_ann Try.func41 (by kernel_rfl) (check_look_eq t0 t1 w K) h

/-! loam/check.name: function 42 -/
def check_name_l1 (K : K1) (nxt0 : List Value → World → Prop) (t0 t4 t8 : Value) (w : World) : Prop :=
 xBin Try.prog .lss 3 false t8 true (.int .i64 32) w fun t9_1 w =>
 xIf t9_1
 (xBin Try.prog .quo 3 false t8 true (.int .i64 8) w fun t14_1 w =>
 xIndexAddr Try.prog 28 t0 t14_1 w fun t15_1 w =>
 xLoad Try.prog 69 t15_1 w fun t16_1 w =>
 xBin Try.prog .rem 3 false t8 true (.int .i64 8) w fun t18_1 w =>
 xBin Try.prog .mul 3 true (.int .i64 8) false t18_1 w fun t19_1 w =>
 xBin Try.prog .shr 69 false t16_1 false t19_1 w fun t20_1 w =>
 xConv Try.prog 69 5 t20_1 w fun t21_1 w =>
 xIndexAddr Try.prog 157 t4 t8 w fun t22_1 w =>
 xStore Try.prog 5 t22_1 t21_1 w fun _ w =>
 xBin Try.prog .add 3 false t8 true (.int .i64 1) w fun t23_1 w =>
 nxt0 [t23_1] w)
 (xLoad Try.prog 157 t4 w fun t25 w =>
 xCall Try.prog (fnv 94) [t25] w fun t26 w =>
 xCall Try.prog (fnv 93) [t26] w fun t27 w =>
 xExtract Try.prog t27 0 w fun t28 w =>
 xExtract Try.prog t27 1 w fun t29 w =>
 xAlloc Try.prog 157 w fun t6 w =>
 xStore Try.prog 157 t6 t28 w fun _ w =>
 xSq w.drew fun w =>
 xRd w (fun K => xLoad Try.prog 157 t4 w K) fun t30 =>
 xPur w (fun w K => K t29 w) fun t32 =>
 xPur w (fun w K => xBin Try.prog .eql 53 false t32 true (.int .i64 0) w K) fun t33 =>
 xCall Try.prog (fnv 94) [t30] w fun t31 w =>
 xPur w (fun w K => K t33 w) fun t34 =>
 xRd w (fun K => xGuard t34 true (fun w K => xLoad Try.prog 157 t6 w K) w K) fun t35 =>
 xRd w (fun K => xGuard t34 true (fun w K => xLoad Try.prog 157 t4 w K) w K) fun t36 =>
 xPur w (fun w K => xGuard t34 true (fun w K => xBin Try.prog .eql 157 false t35 false t36 w K) w K) fun t37 =>
 xPur w (fun w K => xPick t34 t37 (.bool false) w K) fun t38 =>
 xPur w (fun w K => K t31 w) fun t2_1 =>
 xPur w (fun w K => K t38 w) fun t3_1 =>
 K (.tuple #[t2_1, t3_1]) w)
def check_name (K : K1) (t0 : Value) (w : World) : Prop :=
 xAlloc Try.prog 157 w fun t4 w =>
 xLoop [(.int .i64 0)] w [8] fun u w nxt0 =>
 check_name_l1 K nxt0 t0 t4 (u 8) w
abbrev n_check_name : Nat := 42
def check_name_ann : Ann := { loop := fun i => bif Nat.beq i 0 then [8] else [], wr := fun i => bif Nat.beq i 0 then [5, 8, 9, 10, 11, 12, 13, 14, 15, 16, 17, 18, 19, 20, 21, 22, 23] else [], told := fun i => bif Nat.beq i 8 then [(0, false, ⟨0, 1073741840, some 30⟩), (2, false, ⟨0, 4294967424, some 32⟩), (3, false, ⟨4, 12884901888, some 33⟩), (1, false, ⟨1, 3221225472, some 31⟩), (4, false, ⟨10, 25769803776, some 34⟩), (5, false, ⟨16, 51539607616, some 35⟩), (6, false, ⟨16, 85899345936, some 36⟩), (7, false, ⟨112, 257698037760, some 37⟩), (8, false, ⟨144, 429496729600, some 38⟩), (9, false, ⟨19, 2147483652, some 2⟩), (10, false, ⟨1023, 274877906952, some 3⟩)] else [], sq := fun i => bif Nat.beq i 8 then some (.rd false 0 (.rd true 2 (.rd true 3 (.ef 1 [] (.rd true 4 (.rd false 5 (.rd false 6 (.rd true 7 (.rd true 8 (.rd true 9 (.rd true 10 .done))))))))))) else none }
theorem check_name_eq (t0 : Value) (w : World) (K : K1) : reads Try.prog check_name_ann Try.f42 #[t0] w K = check_name K t0 w := by kernel_rfl
theorem check_name_of {t0 : Value} {w : World} {K : K1} (h : check_name K t0 w) : Yld Try.prog n_check_name #[t0] w K :=
  yld_of mixed check_name_ann Try.func42 (by kernel_rfl) (check_name_eq t0 w K) h

/-! (*loam/check.walk).add: function 43 -/
def check_walk_add (K : K1) (t0 t1 t2 : Value) (w : World) : Prop :=
 xNilCheck t0 w fun t8 w =>
 xFieldAddr Try.prog 96 t8 3 w fun t9 w =>
 xLoad Try.prog 37 t9 w fun t10 w =>
 xBuild Try.prog 40 [(0, t1), (1, t2)] w fun t13 w =>
 xBuildSlice Try.prog 37 1 [(0, t13)] w fun t14 w =>
 xBuiltin Try.prog .append #[37, 37] 37 [false, false] [t10, t14] w fun t15 w =>
 xNilCheck t0 w fun t16 w =>
 xFieldAddr Try.prog 96 t16 3 w fun t17 w =>
 xStore Try.prog 37 t17 t15 w fun _ w =>
 K (.tuple #[]) w
abbrev n_check_walk_add : Nat := 43
def check_walk_add_ann : Ann := { loop := fun i => [], wr := fun i => [], told := fun i => [] }
theorem check_walk_add_eq (t0 t1 t2 : Value) (w : World) (K : K1) : reads Try.prog check_walk_add_ann Try.f43 #[t0, t1, t2] w K = check_walk_add K t0 t1 t2 w := by kernel_rfl
theorem check_walk_add_of {t0 t1 t2 : Value} {w : World} {K : K1} (h : check_walk_add K t0 t1 t2 w) : Yld Try.prog n_check_walk_add #[t0, t1, t2] w K :=
  yld_of mixed check_walk_add_ann Try.func43 (by kernel_rfl) (check_walk_add_eq t0 t1 t2 w K) h

/-! (*loam/check.walk).points: function 44 -/
def check_walk_points (K : K1) (t0 t1 : Value) (w : World) : Prop :=
 xBin Try.prog .eql 69 false t1 true (c64 0) w fun t8 w =>
 xIf t8
 (K (.bool true) w)
 (xNilCheck t0 w fun t11 w =>
 xFieldAddr Try.prog 96 t11 2 w fun t12 w =>
 xLoad Try.prog 94 t12 w fun t13 w =>
 xBin Try.prog .sub 69 false t1 true (c64 1) w fun t15 w =>
 xConv Try.prog 69 3 t15 w fun t16 w =>
 xLookup Try.prog 94 t13 t16 true w fun t17 w =>
 xExtract Try.prog t17 0 w fun t18 w =>
 xExtract Try.prog t17 1 w fun t19 w =>
 xAlloc Try.prog 123 w fun t5 w =>
 xStore Try.prog 123 t5 t18 w fun _ w =>
 xSq w.drew fun w =>
 xPur w (fun w K => K t19 w) fun t20 =>
 xPur w (fun w K => K t20 w) fun t21 =>
 xPur w (fun w K => xGuard t21 true (fun w K => K t1 w) w K) fun t22 =>
 xPur w (fun w K => xGuard t21 true (fun w K => K t0 w) w K) fun t23 =>
 xPur w (fun w K => xGuard t21 true (fun w K => xNilCheck t23 w K) w K) fun t24 =>
 xPur w (fun w K => xGuard t21 true (fun w K => xFieldAddr Try.prog 96 t24 1 w K) w K) fun t25 =>
 xRd w (fun K => xGuard t21 true (fun w K => xLoad Try.prog 3 t25 w K) w K) fun t26 =>
 xPur w (fun w K => xGuard t21 true (fun w K => K t0 w) w K) fun t27 =>
 xPur w (fun w K => xGuard t21 true (fun w K => xNilCheck t27 w K) w K) fun t28 =>
 xPur w (fun w K => xGuard t21 true (fun w K => xFieldAddr Try.prog 96 t28 0 w K) w K) fun t29 =>
 xRd w (fun K => xGuard t21 true (fun w K => xLoad Try.prog 28 t29 w K) w K) fun t30 =>
 xPur w (fun w K => xGuard t21 true (fun w K => xBuiltin Try.prog .len #[28] 3 [false] [t30] w K) w K) fun t31 =>
 xPur w (fun w K => xGuard t21 true (fun w K => xBin Try.prog .add 3 false t26 false t31 w K) w K) fun t32 =>
 xPur w (fun w K => xGuard t21 true (fun w K => xConv Try.prog 3 69 t32 w K) w K) fun t33 =>
 xPur w (fun w K => xGuard t21 true (fun w K => xBin Try.prog .leq 69 false t22 false t33 w K) w K) fun t34 =>
 xPur w (fun w K => xPick t21 t34 (.bool false) w K) fun t35 =>
 xPur w (fun w K => K t35 w) fun t4 =>
 K t4 w)
abbrev n_check_walk_points : Nat := 44
def check_walk_points_ann : Ann := { loop := fun i => [], wr := fun i => [], told := fun i => bif Nat.beq i 4 then [(0, false, ⟨0, 1048640, some 20⟩), (1, false, ⟨1, 3145728, some 21⟩), (2, false, ⟨2, 6291458, some 22⟩), (3, false, ⟨2, 10485761, some 23⟩), (4, false, ⟨10, 27262976, some 24⟩), (5, false, ⟨18, 52428800, some 25⟩), (6, false, ⟨34, 102760448, some 26⟩), (7, false, ⟨2, 136314881, some 27⟩), (8, false, ⟨130, 404750336, some 28⟩), (9, false, ⟨258, 807403520, some 29⟩), (10, false, ⟨514, 1612709888, some 30⟩), (11, false, ⟨1026, 3223322624, some 31⟩), (12, false, ⟨2114, 6511656960, some 32⟩), (13, false, ⟨4098, 12886999040, some 33⟩), (14, false, ⟨8198, 25776095232, some 34⟩), (15, false, ⟨16386, 51541704704, some 35⟩), (16, false, ⟨65535, 34359738384, some 4⟩)] else [], sq := fun i => bif Nat.beq i 4 then some (.rd true 0 (.rd true 1 (.rd true 2 (.rd true 3 (.rd true 4 (.rd true 5 (.rd false 6 (.rd true 7 (.rd true 8 (.rd true 9 (.rd false 10 (.rd true 11 (.rd true 12 (.rd true 13 (.rd true 14 (.rd true 15 (.rd true 16 .done))))))))))))))))) else none }
theorem check_walk_points_eq (t0 t1 : Value) (w : World) (K : K1) : reads Try.prog check_walk_points_ann Try.f44 #[t0, t1] w K = check_walk_points K t0 t1 w := by kernel_rfl
theorem check_walk_points_of {t0 t1 : Value} {w : World} {K : K1} (h : check_walk_points K t0 t1 w) : Yld Try.prog n_check_walk_points #[t0, t1] w K :=
  yld_of mixed check_walk_points_ann Try.func44 (by kernel_rfl) (check_walk_points_eq t0 t1 w K) h

/-! loam/space.Of: function 45 -/
/-! loam/loamlaw15.Mem: function 46 -/
/-! (*loam/mem.Mem).Get: function 47 -/
/-! loam/loamref17.Found: function 48 -/
/-! loam/loamref14.Unpack: function 49 -/
/-! loam/loamref14.Points: function 50 -/
/-! (*loam/loamref14.Space).Pad: function 51 -/
/-! loam/loamref14.Size: function 52 -/
def loamref14_Size (K : K1) (t0 : Value) (w : World) : Prop :=
 xBox Try.prog 84 t0 w fun t1 w =>
 xLoad Try.prog 84 t1 w fun t3 w =>
 xCall Try.prog (fnv 90) [t3] w fun t4 w =>
 xUn Try.prog .not t4 w fun t5 w =>
 xGuard t5 false (fun w K => xFieldAddr Try.prog 84 t1 2 w K) w fun t7 w =>
 xGuard t5 false (fun w K => xLoad Try.prog 4 t7 w K) w fun t8 w =>
 xPick t5 (.bool true) t8 w fun t9 w =>
 xIf t9
 (K (.int .i64 0) w)
 (xFieldAddr Try.prog 84 t1 0 w fun t10 w =>
 xLoad Try.prog 3 t10 w fun t11 w =>
 xBin Try.prog .add 3 true (.int .i64 1) false t11 w fun t12 w =>
 xFieldAddr Try.prog 84 t1 1 w fun t13 w =>
 xLoad Try.prog 3 t13 w fun t14 w =>
 xBin Try.prog .add 3 false t14 true (.int .i64 7) w fun t15 w =>
 xBin Try.prog .quo 3 false t15 true (.int .i64 8) w fun t16 w =>
 xBin Try.prog .add 3 false t12 false t16 w fun t17 w =>
 K t17 w)
abbrev n_loamref14_Size : Nat := 52
def loamref14_Size_ann : Ann := { loop := fun i => [], wr := fun i => [], told := fun i => [] }
theorem loamref14_Size_eq (t0 : Value) (w : World) (K : K1) : reads Try.prog loamref14_Size_ann Try.f52 #[t0] w K = loamref14_Size K t0 w := by kernel_rfl
theorem loamref14_Size_of {t0 : Value} {w : World} {K : K1} (h : loamref14_Size K t0 w) : Yld Try.prog n_loamref14_Size #[t0] w K :=
  yld_of mixed loamref14_Size_ann Try.func52 (by kernel_rfl) (loamref14_Size_eq t0 w K) h

/-! (*loam/loamref14.Space).Objects: function 53 -/
/-! loam/graph.Check: function 54 -/
/-! loam/mem.New: function 55 -/
/-! (*loam/mem.Mem).Set: function 56 -/
/-! loam/bits.With: function 57 -/
def bits_With (K : K1) (t0 t1 t2 t3 : Value) (w : World) : Prop :=
 xCall Try.prog (fnv 101) [t1, t2] w fun t14 w =>
 xExtract Try.prog t14 0 w fun t15 w =>
 xExtract Try.prog t14 1 w fun t16 w =>
 xUn Try.prog .not t16 w fun t18 w =>
 xIf t18
 (K t0 w)
 (xBin Try.prog .andNot 69 false t0 false t15 w fun t22 w =>
 xBin Try.prog .shl 69 false t3 false t1 w fun t25 w =>
 xBin Try.prog .and 69 false t25 false t15 w fun t27 w =>
 xBin Try.prog .or 69 false t22 false t27 w fun t28 w =>
 K t28 w)
abbrev n_bits_With : Nat := 57
def bits_With_ann : Ann := { loop := fun i => [], wr := fun i => [], told := fun i => [] }
theorem bits_With_eq (t0 t1 t2 t3 : Value) (w : World) (K : K1) : reads Try.prog bits_With_ann Try.f57 #[t0, t1, t2, t3] w K = bits_With K t0 t1 t2 t3 w := by kernel_rfl
theorem bits_With_of {t0 t1 t2 t3 : Value} {w : World} {K : K1} (h : bits_With K t0 t1 t2 t3 w) : Yld Try.prog n_bits_With #[t0, t1, t2, t3] w K :=
  yld_of mixed bits_With_ann Try.func57 (by kernel_rfl) (bits_With_eq t0 t1 t2 t3 w K) h

/-! (*loam/mem.Mem).Len: function 58 -/
/-! loam/space.New: function 59 -/
/-! (*loam/space.Space).Alloc: function 60 -/
/-! loam/image.Encode$1: function 61 -/
/-! loam/image.node: function 62 -/
/-! loam/image.root: function 63 -/
/-! (*loam/mem.Mem).Words: function 64 -/
/-! loam/loamref17.Good: function 65 -/
def loamref17_Good_l1 (K : K1) (nxt0 : List Value → World → Prop) (t0 t3 : Value) (w : World) : Prop :=
 xBuiltin Try.prog .len #[9] 3 [false] [t0] w fun t14_1 w =>
 xBin Try.prog .lss 3 false t3 false t14_1 w fun t15_1 w =>
 xIf t15_1
 (xIndex Try.prog 9 t0 t3 w fun t20_1 w =>
 xBin Try.prog .eql 5 false t20_1 true (c8 0) w fun t21_1 w =>
 xIf t21_1
 (K (.bool false) w)
 (xBin Try.prog .add 3 false t3 true (.int .i64 1) w fun t17_1 w =>
 nxt0 [t17_1] w))
 (K (.bool true) w)
def loamref17_Good (K : K1) (t0 : Value) (w : World) : Prop :=
 xBuiltin Try.prog .len #[9] 3 [false] [t0] w fun t5 w =>
 xBin Try.prog .lss 3 false t5 true (.int .i64 1) w fun t6 w =>
 xGuard t6 false (fun w K => K t0 w) w fun t8 w =>
 xGuard t6 false (fun w K => xBuiltin Try.prog .len #[9] 3 [false] [t8] w K) w fun t9 w =>
 xGuard t6 false (fun w K => xBin Try.prog .gtr 3 false t9 true (.int .i64 32) w K) w fun t10 w =>
 xPick t6 (.bool true) t10 w fun t11 w =>
 xIf t11
 (K (.bool false) w)
 (xLoop [(.int .i64 0)] w [3] fun u w nxt0 =>
 loamref17_Good_l1 K nxt0 t0 (u 3) w)
abbrev n_loamref17_Good : Nat := 65
def loamref17_Good_ann : Ann := { loop := fun i => bif Nat.beq i 0 then [3] else [], wr := fun i => bif Nat.beq i 0 then [2, 3, 12, 13, 14, 15, 16, 17, 18, 19, 20, 21] else [], told := fun i => [] }
theorem loamref17_Good_eq (t0 : Value) (w : World) (K : K1) : reads Try.prog loamref17_Good_ann Try.f65 #[t0] w K = loamref17_Good K t0 w := by kernel_rfl
theorem loamref17_Good_of {t0 : Value} {w : World} {K : K1} (h : loamref17_Good K t0 w) : Yld Try.prog n_loamref17_Good #[t0] w K :=
  yld_of mixed loamref17_Good_ann Try.func65 (by kernel_rfl) (loamref17_Good_eq t0 w K) h

/-! loam/graph.Words: function 66 -/
/-! loam/loamref17.Words: function 67 -/
def loamref17_Words_l1 (K : K1) (nxt0 : List Value → World → Prop) (t1 t3 t4 : Value) (w : World) : Prop :=
 xFieldAddr Try.prog 34 t1 0 w fun t6_1 w =>
 xLoad Try.prog 31 t6_1 w fun t7_1 w =>
 xBuiltin Try.prog .len #[31] 3 [false] [t7_1] w fun t8_1 w =>
 xBin Try.prog .lss 3 false t4 false t8_1 w fun t9_1 w =>
 xIf t9_1
 (xFieldAddr Try.prog 34 t1 0 w fun t13_1 w =>
 xLoad Try.prog 31 t13_1 w fun t14_1 w =>
 xIndexAddr Try.prog 31 t14_1 t4 w fun t16_1 w =>
 xLoad Try.prog 76 t16_1 w fun t17_1 w =>
 xCall Try.prog (fnv 35) [t17_1] w fun t18_1 w =>
 xBin Try.prog .add 3 false t3 false t18_1 w fun t19_1 w =>
 xBin Try.prog .add 3 false t4 true (.int .i64 1) w fun t11_1 w =>
 nxt0 [t19_1, t11_1] w)
 (K t3 w)
def loamref17_Words (K : K1) (t0 : Value) (w : World) : Prop :=
 xBox Try.prog 34 t0 w fun t1 w =>
 xLoop [(.int .i64 0), (.int .i64 0)] w [3, 4] fun u w nxt0 =>
 loamref17_Words_l1 K nxt0 t1 (u 3) (u 4) w
abbrev n_loamref17_Words : Nat := 67
def loamref17_Words_ann : Ann := { loop := fun i => bif Nat.beq i 0 then [3, 4] else [], wr := fun i => bif Nat.beq i 0 then [3, 4, 5, 6, 7, 8, 9, 10, 11, 12, 13, 14, 15, 16, 17, 18, 19] else [], told := fun i => [] }
theorem loamref17_Words_eq (t0 : Value) (w : World) (K : K1) : reads Try.prog loamref17_Words_ann Try.f67 #[t0] w K = loamref17_Words K t0 w := by kernel_rfl
theorem loamref17_Words_of {t0 : Value} {w : World} {K : K1} (h : loamref17_Words K t0 w) : Yld Try.prog n_loamref17_Words #[t0] w K :=
  yld_of mixed loamref17_Words_ann Try.func67 (by kernel_rfl) (loamref17_Words_eq t0 w K) h

/-! loam/mem.Of: function 68 -/
/-! loam/bits.Field: function 69 -/
def bits_Field (K : K1) (t0 t1 t2 : Value) (w : World) : Prop :=
 xCall Try.prog (fnv 101) [t1, t2] w fun t12 w =>
 xExtract Try.prog t12 0 w fun t13 w =>
 xExtract Try.prog t12 1 w fun t14 w =>
 xUn Try.prog .not t14 w fun t16 w =>
 xIf t16
 (K (c64 0) w)
 (xBin Try.prog .and 69 false t0 false t13 w fun t19 w =>
 xBin Try.prog .shr 69 false t19 false t1 w fun t21 w =>
 K t21 w)
abbrev n_bits_Field : Nat := 69
def bits_Field_ann : Ann := { loop := fun i => [], wr := fun i => [], told := fun i => [] }
theorem bits_Field_eq (t0 t1 t2 : Value) (w : World) (K : K1) : reads Try.prog bits_Field_ann Try.f69 #[t0, t1, t2] w K = bits_Field K t0 t1 t2 w := by kernel_rfl
theorem bits_Field_of {t0 t1 t2 : Value} {w : World} {K : K1} (h : bits_Field K t0 t1 t2 w) : Yld Try.prog n_bits_Field #[t0, t1, t2] w K :=
  yld_of mixed bits_Field_ann Try.func69 (by kernel_rfl) (bits_Field_eq t0 t1 t2 w K) h

/-! (*loam/space.Space).Objects: function 70 -/
/-! (loam/image.reader).node: function 71 -/
/-! (loam/image.reader).root: function 72 -/
/-! slices.Equal[[]uint64,uint64]: function 73 -/
/-! slices.Clip[[]loam/graph.Node,loam/graph.Node]: function 74 -/
/-! slices.Clip[[]loam/graph.Root,loam/graph.Root]: function 75 -/
/-! slices.EqualFunc[[]loam/graph.Node,[]loam/graph.Node,loam/graph.Node,loam/graph.Node]: function 76 -/
/-! loam/graph.Equal$1: function 77 -/
/-! slices.Equal[[]int,int]: function 78 -/
/-! bytes.Equal: function 79 -/
/-! slices.Equal[[]loam/graph.Root,loam/graph.Root]: function 80 -/
/-! loam/loamref1.Field: function 81 -/
/-! loam/loamref14.Bytes: function 82 -/
/-! loam/loamref17.number: function 83 -/
/-! loam/loamref17.name: function 84 -/
/-! loam/graph.Reach: function 85 -/
/-! loam/graph.Named: function 86 -/
/-! loam/graph.Trim$1: function 87 -/
/-! (loam/graph.Node).apart: function 88 -/
/-! loam/canon.Canon: function 89 -/
/-! loam/loamref14.Right: function 90 -/
def loamref14_Right (K : K1) (t0 : Value) (w : World) : Prop :=
 xBox Try.prog 84 t0 w fun t1 w =>
 xFieldAddr Try.prog 84 t1 2 w fun t3 w =>
 xLoad Try.prog 4 t3 w fun t4 w =>
 xIf t4
 (xFieldAddr Try.prog 84 t1 0 w fun t5 w =>
 xLoad Try.prog 3 t5 w fun t6 w =>
 xBin Try.prog .eql 3 false t6 true (.int .i64 0) w fun t7 w =>
 xGuard t7 true (fun w K => xFieldAddr Try.prog 84 t1 1 w K) w fun t9 w =>
 xGuard t7 true (fun w K => xLoad Try.prog 3 t9 w K) w fun t10 w =>
 xGuard t7 true (fun w K => xBin Try.prog .eql 3 false t10 true (.int .i64 0) w K) w fun t11 w =>
 xPick t7 t11 (.bool false) w fun t12 w =>
 xGuard t12 true (fun w K => xFieldAddr Try.prog 84 t1 3 w K) w fun t14 w =>
 xGuard t12 true (fun w K => xLoad Try.prog 3 t14 w K) w fun t15 w =>
 xGuard t12 true (fun w K => xBin Try.prog .geq 3 false t15 true (.int .i64 0) w K) w fun t16 w =>
 xPick t12 t16 (.bool false) w fun t17 w =>
 xGuard t17 true (fun w K => xFieldAddr Try.prog 84 t1 3 w K) w fun t19 w =>
 xGuard t17 true (fun w K => xLoad Try.prog 3 t19 w K) w fun t20 w =>
 xGuard t17 true (fun w K => xBin Try.prog .lss 3 false t20 true (.int .i64 8192) w K) w fun t21 w =>
 xPick t17 t21 (.bool false) w fun t22 w =>
 K t22 w)
 (xFieldAddr Try.prog 84 t1 0 w fun t23 w =>
 xLoad Try.prog 3 t23 w fun t24 w =>
 xBin Try.prog .geq 3 false t24 true (.int .i64 0) w fun t25 w =>
 xGuard t25 true (fun w K => xFieldAddr Try.prog 84 t1 0 w K) w fun t27 w =>
 xGuard t25 true (fun w K => xLoad Try.prog 3 t27 w K) w fun t28 w =>
 xGuard t25 true (fun w K => xBin Try.prog .leq 3 false t28 true (.int .i64 64) w K) w fun t29 w =>
 xPick t25 t29 (.bool false) w fun t30 w =>
 xGuard t30 true (fun w K => xFieldAddr Try.prog 84 t1 1 w K) w fun t32 w =>
 xGuard t30 true (fun w K => xLoad Try.prog 3 t32 w K) w fun t33 w =>
 xGuard t30 true (fun w K => xBin Try.prog .geq 3 false t33 true (.int .i64 0) w K) w fun t34 w =>
 xPick t30 t34 (.bool false) w fun t35 w =>
 xGuard t35 true (fun w K => xFieldAddr Try.prog 84 t1 1 w K) w fun t37 w =>
 xGuard t35 true (fun w K => xLoad Try.prog 3 t37 w K) w fun t38 w =>
 xGuard t35 true (fun w K => xBin Try.prog .leq 3 false t38 true (.int .i64 1024) w K) w fun t39 w =>
 xPick t35 t39 (.bool false) w fun t40 w =>
 xGuard t40 true (fun w K => xFieldAddr Try.prog 84 t1 3 w K) w fun t42 w =>
 xGuard t40 true (fun w K => xLoad Try.prog 3 t42 w K) w fun t43 w =>
 xGuard t40 true (fun w K => xBin Try.prog .eql 3 false t43 true (.int .i64 0) w K) w fun t44 w =>
 xPick t40 t44 (.bool false) w fun t45 w =>
 K t45 w)
abbrev n_loamref14_Right : Nat := 90
def loamref14_Right_ann : Ann := { loop := fun i => [], wr := fun i => [], told := fun i => [] }
theorem loamref14_Right_eq (t0 : Value) (w : World) (K : K1) : reads Try.prog loamref14_Right_ann Try.f90 #[t0] w K = loamref14_Right K t0 w := by kernel_rfl
theorem loamref14_Right_of {t0 : Value} {w : World} {K : K1} (h : loamref14_Right K t0 w) : Yld Try.prog n_loamref14_Right #[t0] w K :=
  yld_of mixed loamref14_Right_ann Try.func90 (by kernel_rfl) (loamref14_Right_eq t0 w K) h

/-! (*loam/check.walk).objects: function 91 -/
def check_walk_objects_l1 (K : K1) (nxt0 : List Value → World → Prop) (t0 t3 t4 : Value) (w : World) : Prop :=
 xNilCheck t0 w fun t9_1 w =>
 xFieldAddr Try.prog 96 t9_1 0 w fun t10_1 w =>
 xLoad Try.prog 28 t10_1 w fun t11_1 w =>
 xBuiltin Try.prog .len #[28] 3 [false] [t11_1] w fun t12_1 w =>
 xBin Try.prog .lss 3 false t4 false t12_1 w fun t13_1 w =>
 xIf t13_1
 (xNilCheck t0 w fun t16_1 w =>
 xFieldAddr Try.prog 96 t16_1 0 w fun t17_1 w =>
 xLoad Try.prog 28 t17_1 w fun t18_1 w =>
 xIndexAddr Try.prog 28 t18_1 t4 w fun t20_1 w =>
 xLoad Try.prog 69 t20_1 w fun t21_1 w =>
 xCall Try.prog (fnv 118) [t21_1] w fun t22_1 w =>
 xExtract Try.prog t22_1 0 w fun t23_1 w =>
 xExtract Try.prog t22_1 1 w fun t24_1 w =>
 xAlloc Try.prog 123 w fun t5_1 w =>
 xStore Try.prog 123 t5_1 t23_1 w fun _ w =>
 xSq w.drew fun w =>
 xPur w (fun w K => K t24_1 w) fun t25_1 =>
 xPur w (fun w K => xBin Try.prog .neq 53 false t25_1 true (.int .i64 0) w K) fun t26_1 =>
 xPur w (fun w K => K t26_1 w) fun t27_1 =>
 xPur w (fun w K => xGuard t27_1 false (fun w K => xFieldAddr Try.prog 123 t5_1 2 w K) w K) fun t28_1 =>
 xRd w (fun K => xGuard t27_1 false (fun w K => xLoad Try.prog 4 t28_1 w K) w K) fun t29_1 =>
 xPur w (fun w K => xPick t27_1 (.bool true) t29_1 w K) fun t30_1 =>
 xPur w (fun w K => K t30_1 w) fun t31_1 =>
 xRd w (fun K => xGuard t31_1 false (fun w K => xLoad Try.prog 123 t5_1 w K) w K) fun t32_1 =>
 xPur w (fun w K => xGuard t31_1 false (fun w K => K t0 w) w K) fun t34_1 =>
 xPur w (fun w K => xGuard t31_1 false (fun w K => xNilCheck t34_1 w K) w K) fun t35_1 =>
 xPur w (fun w K => xGuard t31_1 false (fun w K => xFieldAddr Try.prog 96 t35_1 0 w K) w K) fun t36_1 =>
 xRd w (fun K => xGuard t31_1 false (fun w K => xLoad Try.prog 28 t36_1 w K) w K) fun t37_1 =>
 xPur w (fun w K => xGuard t31_1 false (fun w K => xBuiltin Try.prog .len #[28] 3 [false] [t37_1] w K) w K) fun t38_1 =>
 xPur w (fun w K => xGuard t31_1 false (fun w K => K t4 w) w K) fun t39_1 =>
 xPur w (fun w K => xGuard t31_1 false (fun w K => xBin Try.prog .sub 3 false t38_1 false t39_1 w K) w K) fun t40_1 =>
 xGuard t31_1 false (fun w K => xCall Try.prog (fnv 103) [t32_1] w K) w fun t33_1 w =>
 xRe w (fun K => xGuard t31_1 false (fun w K => xLoad Try.prog 28 t36_1 w K) w K) t37_1 (
 xPur w (fun w K => xGuard t31_1 false (fun w K => xBin Try.prog .gtr 3 false t33_1 false t40_1 w K) w K) fun t41_1 =>
 xPur w (fun w K => xPick t31_1 (.bool true) t41_1 w K) fun t42_1 =>
 xIf t42_1
 (xNilCheck t0 w fun t45_1 w =>
 xFieldAddr Try.prog 96 t45_1 1 w fun t46_1 w =>
 xLoad Try.prog 3 t46_1 w fun t47_1 w =>
 xBin Try.prog .add 3 false t47_1 false t4 w fun t49_1 w =>
 xCall Try.prog (fnv 43) [t0, t49_1, (.string { data := #[104, 101, 97, 100] })] w fun t50_1 w =>
 K t3 w)
 (xSq w.drew fun w =>
 xPur w (fun w K => K t0 w) fun t51_1 =>
 xPur w (fun w K => xNilCheck t51_1 w K) fun t52_1 =>
 xPur w (fun w K => xFieldAddr Try.prog 96 t52_1 2 w K) fun t53_1 =>
 xRd w (fun K => xLoad Try.prog 94 t53_1 w K) fun t54_1 =>
 xPur w (fun w K => K t0 w) fun t55_1 =>
 xPur w (fun w K => xNilCheck t55_1 w K) fun t56_1 =>
 xPur w (fun w K => xFieldAddr Try.prog 96 t56_1 1 w K) fun t57_1 =>
 xRd w (fun K => xLoad Try.prog 3 t57_1 w K) fun t58_1 =>
 xPur w (fun w K => K t4 w) fun t59_1 =>
 xPur w (fun w K => xBin Try.prog .add 3 false t58_1 false t59_1 w K) fun t60_1 =>
 xRd w (fun K => xLoad Try.prog 123 t5_1 w K) fun t61_1 =>
 xMapUpdate Try.prog 94 t54_1 t60_1 t61_1 w fun _x11 w =>
 xNilCheck t0 w fun t64_1 w =>
 xFieldAddr Try.prog 96 t64_1 1 w fun t65_1 w =>
 xLoad Try.prog 3 t65_1 w fun t66_1 w =>
 xBin Try.prog .add 3 false t66_1 false t4 w fun t68_1 w =>
 xBuildSlice Try.prog 66 1 [(0, t68_1)] w fun t69_1 w =>
 xBuiltin Try.prog .append #[66, 66] 66 [false, false] [t3, t69_1] w fun t70_1 w =>
 xLoad Try.prog 123 t5_1 w fun t72_1 w =>
 xCall Try.prog (fnv 103) [t72_1] w fun t73_1 w =>
 xBin Try.prog .add 3 false t4 false t73_1 w fun t74_1 w =>
 nxt0 [t70_1, t74_1] w)))
 (K t3 w)
def check_walk_objects (K : K1) (t0 : Value) (w : World) : Prop :=
 xLoop [(.slice none 0 0), (.int .i64 0)] w [3, 4] fun u w nxt0 =>
 check_walk_objects_l1 K nxt0 t0 (u 3) (u 4) w
abbrev n_check_walk_objects : Nat := 91
def check_walk_objects_ann : Ann := { loop := fun i => bif Nat.beq i 0 then [3, 4] else [], wr := fun i => bif Nat.beq i 0 then [3, 4, 5, 6, 7, 8, 9, 10, 11, 12, 13, 14, 15, 16, 17, 18, 19, 20, 21, 22, 23, 24, 25, 26, 27, 28, 29, 30, 31, 32, 33, 34, 35, 36, 37, 38, 39, 40, 41, 42, 43, 44, 45, 46, 47, 48, 49, 50, 51, 52, 53, 54, 55, 56, 57, 58, 59, 60, 61, 62, 63, 64, 65, 66, 67, 68, 69, 70, 71, 72, 73, 74] else [], told := fun i => bif Nat.beq i 5 then [(0, false, ⟨0, 33554496, some 25⟩), (1, false, ⟨1, 100663296, some 26⟩), (2, false, ⟨2, 201326592, some 27⟩), (3, false, ⟨4, 402653216, some 28⟩), (4, false, ⟨12, 939524096, some 29⟩), (5, false, ⟨20, 1744830464, some 30⟩), (6, false, ⟨36, 3221225472, some 31⟩), (7, false, ⟨64, 6442450976, some 32⟩), (9, false, ⟨64, 19327352833, some 34⟩), (10, false, ⟨576, 53687091200, some 35⟩), (11, false, ⟨1088, 105226698752, some 36⟩), (12, false, ⟨2112, 208305913856, some 37⟩), (13, false, ⟨4160, 414464344064, some 38⟩), (14, false, ⟨64, 551903297552, some 39⟩), (15, false, ⟨24640, 1926292832256, some 40⟩), (8, false, ⟨192, 15032385536, some 33⟩), (16, false, ⟨33088, 3309272301568, some 41⟩), (17, false, ⟨65600, 6599217250304, some 42⟩)] else bif Nat.beq i 7 then [(0, false, ⟨0, 2251799813685249, some 51⟩), (1, false, ⟨1, 6755399441055744, some 52⟩), (2, false, ⟨2, 13510798882111488, some 53⟩), (3, false, ⟨4, 27021597764222976, some 54⟩), (4, false, ⟨0, 36028797018963969, some 55⟩), (5, false, ⟨16, 108086391056891904, some 56⟩), (6, false, ⟨32, 216172782113783808, some 57⟩), (7, false, ⟨64, 432345564227567616, some 58⟩), (8, false, ⟨0, 576460752303423504, some 59⟩), (9, false, ⟨384, 2017612633061982208, some 60⟩), (10, false, ⟨0, 2305843009213693984, some 61⟩), (11, false, ⟨2047, 3476778912330022912, none⟩)] else [], sq := fun i => bif Nat.beq i 5 then some (.rd true 0 (.rd true 1 (.rd true 2 (.rd true 3 (.rd false 4 (.rd true 5 (.rd true 6 (.rd false 7 (.rd true 9 (.rd true 10 (.rd true 11 (.rd false 12 (.rd true 13 (.rd true 14 (.rd true 15 (.ef 8 [12] (.rd true 16 (.rd true 17 .done)))))))))))))))))) else bif Nat.beq i 7 then some (.rd true 0 (.rd true 1 (.rd true 2 (.rd false 3 (.rd true 4 (.rd true 5 (.rd true 6 (.rd false 7 (.rd true 8 (.rd true 9 (.rd false 10 (.ef 11 [] .done)))))))))))) else none }
theorem check_walk_objects_eq (t0 : Value) (w : World) (K : K1) : reads Try.prog check_walk_objects_ann Try.f91 #[t0] w K = check_walk_objects K t0 w := by kernel_rfl
theorem check_walk_objects_of {t0 : Value} {w : World} {K : K1} (h : check_walk_objects K t0 w) : Yld Try.prog n_check_walk_objects #[t0] w K :=
  yld_of mixed check_walk_objects_ann Try.func91 (by kernel_rfl) (check_walk_objects_eq t0 w K) h

/-! (*loam/check.walk).object: function 92 -/
def check_walk_object_j1 (K : K1) (nxt0 : List Value → World → Prop) (t5 : Value) (w : World) : Prop :=
 xBin Try.prog .add 3 false t5 true (.int .i64 1) w fun t22_1 w =>
 nxt0 [t22_1] w
def check_walk_object_l1 (K : K1) (nxt0 : List Value → World → Prop) (t0 t1 t4 t5 : Value) (w : World) : Prop :=
 xFieldAddr Try.prog 123 t4 0 w fun t17_1 w =>
 xLoad Try.prog 3 t17_1 w fun t18_1 w =>
 xBin Try.prog .add 3 false t1 false t18_1 w fun t19_1 w =>
 xBin Try.prog .leq 3 false t5 false t19_1 w fun t20_1 w =>
 xIf t20_1
 (xSq w.drew fun w =>
 xPur w (fun w K => K t0 w) fun t23_1 =>
 xPur w (fun w K => K t0 w) fun t24_1 =>
 xPur w (fun w K => xNilCheck t24_1 w K) fun t25_1 =>
 xPur w (fun w K => xFieldAddr Try.prog 96 t25_1 0 w K) fun t26_1 =>
 xRd w (fun K => xLoad Try.prog 28 t26_1 w K) fun t27_1 =>
 xPur w (fun w K => K t5 w) fun t28_1 =>
 xPur w (fun w K => K t0 w) fun t29_1 =>
 xPur w (fun w K => xNilCheck t29_1 w K) fun t30_1 =>
 xPur w (fun w K => xFieldAddr Try.prog 96 t30_1 1 w K) fun t31_1 =>
 xRd w (fun K => xLoad Try.prog 3 t31_1 w K) fun t32_1 =>
 xPur w (fun w K => xBin Try.prog .sub 3 false t28_1 false t32_1 w K) fun t33_1 =>
 xPur w (fun w K => xIndexAddr Try.prog 28 t27_1 t33_1 w K) fun t34_1 =>
 xRd w (fun K => xLoad Try.prog 69 t34_1 w K) fun t35_1 =>
 xCall Try.prog (fnv 44) [t23_1, t35_1] w fun t36_1 w =>
 xPur w (fun w K => xUn Try.prog .not t36_1 w K) fun t37_1 =>
 xIf t37_1
 (xCall Try.prog (fnv 43) [t0, t5, (.string { data := #[112, 116, 114] })] w fun t40_1 w =>
 check_walk_object_j1 K nxt0 t5 w)
 (check_walk_object_j1 K nxt0 t5 w))
 (xLoad Try.prog 123 t4 w fun t42 w =>
 xCall Try.prog (fnv 103) [t42] w fun t43 w =>
 xBin Try.prog .add 3 false t1 false t43 w fun t44 w =>
 xBin Try.prog .sub 3 false t44 true (.int .i64 1) w fun t45 w =>
 xSq w.drew fun w =>
 xPur w (fun w K => K t0 w) fun t46 =>
 xPur w (fun w K => xNilCheck t46 w K) fun t47 =>
 xPur w (fun w K => xFieldAddr Try.prog 96 t47 0 w K) fun t48 =>
 xRd w (fun K => xLoad Try.prog 28 t48 w K) fun t49 =>
 xPur w (fun w K => K t45 w) fun t50 =>
 xPur w (fun w K => K t0 w) fun t51 =>
 xPur w (fun w K => xNilCheck t51 w K) fun t52 =>
 xPur w (fun w K => xFieldAddr Try.prog 96 t52 1 w K) fun t53 =>
 xRd w (fun K => xLoad Try.prog 3 t53 w K) fun t54 =>
 xPur w (fun w K => xBin Try.prog .sub 3 false t50 false t54 w K) fun t55 =>
 xPur w (fun w K => xIndexAddr Try.prog 28 t49 t55 w K) fun t56 =>
 xRd w (fun K => xLoad Try.prog 69 t56 w K) fun t57 =>
 xPur w (fun w K => xFieldAddr Try.prog 123 t4 1 w K) fun t58 =>
 xRd w (fun K => xLoad Try.prog 3 t58 w K) fun t59 =>
 xCall Try.prog (fnv 119) [t57, t59] w fun t60 w =>
 xIf t60
 (xCall Try.prog (fnv 43) [t0, t45, (.string { data := #[112, 97, 100] })] w fun t63 w =>
 K (.tuple #[]) w)
 (K (.tuple #[]) w))
def check_walk_object (K : K1) (t0 t1 : Value) (w : World) : Prop :=
 xNilCheck t0 w fun t8 w =>
 xFieldAddr Try.prog 96 t8 2 w fun t9 w =>
 xLoad Try.prog 94 t9 w fun t10 w =>
 xLookup Try.prog 94 t10 t1 false w fun t12 w =>
 xAlloc Try.prog 123 w fun t4 w =>
 xStore Try.prog 123 t4 t12 w fun _ w =>
 xBin Try.prog .add 3 false t1 true (.int .i64 1) w fun t14 w =>
 xLoop [t14] w [5] fun u w nxt0 =>
 check_walk_object_l1 K nxt0 t0 t1 t4 (u 5) w
abbrev n_check_walk_object : Nat := 92
def check_walk_object_ann : Ann := { loop := fun i => bif Nat.beq i 0 then [5] else [], wr := fun i => bif Nat.beq i 0 then [5, 15, 16, 17, 18, 19, 20, 21, 22, 23, 24, 25, 26, 27, 28, 29, 30, 31, 32, 33, 34, 35, 36, 37, 38, 39, 40] else [], told := fun i => bif Nat.beq i 4 then [(0, false, ⟨0, 8388609, some 23⟩), (1, false, ⟨0, 16777217, some 24⟩), (2, false, ⟨2, 50331648, some 25⟩), (3, false, ⟨4, 100663296, some 26⟩), (4, false, ⟨8, 201326592, some 27⟩), (5, false, ⟨0, 268435488, some 28⟩), (6, false, ⟨0, 536870913, some 29⟩), (7, false, ⟨64, 1610612736, some 30⟩), (8, false, ⟨128, 3221225472, some 31⟩), (9, false, ⟨256, 6442450944, some 32⟩), (10, false, ⟨544, 13153337344, some 33⟩), (11, false, ⟨1040, 25904021504, some 34⟩), (12, false, ⟨2048, 51539607552, some 35⟩), (13, false, ⟨4097, 103087603712, some 36⟩), (14, false, ⟨8192, 206158430208, some 37⟩)] else bif Nat.beq i 7 then [(0, false, ⟨0, 70368744177665, some 46⟩), (1, false, ⟨1, 211106232532992, some 47⟩), (2, false, ⟨2, 422212465065984, some 48⟩), (3, false, ⟨4, 844424930131968, some 49⟩), (4, false, ⟨0, 1125899906842688, some 50⟩), (5, false, ⟨0, 2251799813685249, some 51⟩), (6, false, ⟨32, 6755399441055744, some 52⟩), (7, false, ⟨64, 13510798882111488, some 53⟩), (8, false, ⟨128, 27021597764222976, some 54⟩), (9, false, ⟨272, 55169095435288576, some 55⟩), (10, false, ⟨520, 108649341010313216, some 56⟩), (11, false, ⟨1024, 216172782113783808, some 57⟩), (12, false, ⟨0, 288230376151711760, some 58⟩), (13, false, ⟨4096, 864691128455135232, some 59⟩), (14, false, ⟨10240, 1873497444986126336, some 60⟩)] else [], sq := fun i => bif Nat.beq i 4 then some (.rd true 0 (.rd true 1 (.rd true 2 (.rd true 3 (.rd false 4 (.rd true 5 (.rd true 6 (.rd true 7 (.rd true 8 (.rd false 9 (.rd true 10 (.rd true 11 (.rd false 12 (.ef 13 [] (.rd true 14 .done))))))))))))))) else bif Nat.beq i 7 then some (.rd true 0 (.rd true 1 (.rd true 2 (.rd false 3 (.rd true 4 (.rd true 5 (.rd true 6 (.rd true 7 (.rd false 8 (.rd true 9 (.rd true 10 (.rd false 11 (.rd true 12 (.rd false 13 (.ef 14 [] .done))))))))))))))) else none }
theorem check_walk_object_eq (t0 t1 : Value) (w : World) (K : K1) : reads Try.prog check_walk_object_ann Try.f92 #[t0, t1] w K = check_walk_object K t0 t1 w := by kernel_rfl
theorem check_walk_object_of {t0 t1 : Value} {w : World} {K : K1} (h : check_walk_object K t0 t1 w) : Yld Try.prog n_check_walk_object #[t0, t1] w K :=
  yld_of mixed check_walk_object_ann Try.func92 (by kernel_rfl) (check_walk_object_eq t0 t1 w K) h

/-! loam/table.Fix: function 93 -/
def table_Fix (K : K1) (t0 : Value) (w : World) : Prop :=
 xAlloc Try.prog 157 w fun t2 w =>
 xAlloc Try.prog 157 w fun t4 w =>
 xBuiltin Try.prog .len #[9] 3 [false] [t0] w fun t6 w =>
 xBin Try.prog .lss 3 false t6 true (.int .i64 1) w fun t7 w =>
 xGuard t7 false (fun w K => K t0 w) w fun t9 w =>
 xGuard t7 false (fun w K => xBuiltin Try.prog .len #[9] 3 [false] [t9] w K) w fun t10 w =>
 xGuard t7 false (fun w K => xBin Try.prog .gtr 3 false t10 true (.int .i64 32) w K) w fun t11 w =>
 xPick t7 (.bool true) t11 w fun t12 w =>
 xGuard t12 false (fun w K => K t0 w) w fun t14 w =>
 xGuard t12 false (fun w K => xCall Try.prog (fnv 120) [t14, (.string { data := #[0] })] w K) w fun t15 w =>
 xPick t12 (.bool true) t15 w fun t16 w =>
 xIf t16
 (xBuild Try.prog 157 [] w fun t17 w =>
 xStore Try.prog 157 t2 t17 w fun _ w =>
 xLoadR Try.prog 157 t2 w fun r0 =>
 K (.tuple #[r0, (.int .i64 4)]) w)
 (xSlice Try.prog 157 t4 none none none w fun t18 w =>
 xBuiltin Try.prog .copy #[70, 9] 3 [false, false] [t18, t0] w fun t20 w =>
 xLoad Try.prog 157 t4 w fun t21 w =>
 xStore Try.prog 157 t2 t21 w fun _ w =>
 xLoadR Try.prog 157 t2 w fun r0 =>
 K (.tuple #[r0, (.int .i64 0)]) w)
abbrev n_table_Fix : Nat := 93
def table_Fix_ann : Ann := { loop := fun i => [], wr := fun i => [], told := fun i => [] }
theorem table_Fix_eq (t0 : Value) (w : World) (K : K1) : reads Try.prog table_Fix_ann Try.f93 #[t0] w K = table_Fix K t0 w := by kernel_rfl
theorem table_Fix_of {t0 : Value} {w : World} {K : K1} (h : table_Fix K t0 w) : Yld Try.prog n_table_Fix #[t0] w K :=
  yld_of mixed table_Fix_ann Try.func93 (by kernel_rfl) (table_Fix_eq t0 w K) h

/-! (loam/table.Name).String: function 94 -/
def table_Name_String (K : K1) (t0 : Value) (w : World) : Prop :=
 xBox Try.prog 157 t0 w fun t1 w =>
 xSlice Try.prog 157 t1 none none none w fun t7 w =>
 xConv Try.prog 70 9 t7 w fun t8 w =>
 xCall Try.prog (fnv 121) [t8, (.string { data := #[0] })] w fun t9 w =>
 xExtract Try.prog t9 0 w fun t10 w =>
 xExtract Try.prog t9 1 w fun t11 w =>
 xExtract Try.prog t9 2 w fun t12 w =>
 K t10 w
abbrev n_table_Name_String : Nat := 94
def table_Name_String_ann : Ann := { loop := fun i => [], wr := fun i => [], told := fun i => [] }
theorem table_Name_String_eq (t0 : Value) (w : World) (K : K1) : reads Try.prog table_Name_String_ann Try.f94 #[t0] w K = table_Name_String K t0 w := by kernel_rfl
theorem table_Name_String_of {t0 : Value} {w : World} {K : K1} (h : table_Name_String K t0 w) : Yld Try.prog n_table_Name_String #[t0] w K :=
  yld_of mixed table_Name_String_ann Try.func94 (by kernel_rfl) (table_Name_String_eq t0 w K) h

/-! loam/space.may: function 95 -/
/-! loam/mem.in: function 96 -/
/-! loam/loamref14.among: function 97 -/
/-! loam/loamref14.byteAt: function 98 -/
/-! (loam/graph.Graph).node: function 99 -/
/-! (loam/graph.Graph).root: function 100 -/
/-! loam/bits.mask: function 101 -/
def bits_mask (K : K1) (t0 t1 : Value) (w : World) : Prop :=
 xBin Try.prog .lss 3 false t0 true (.int .i64 0) w fun t7 w =>
 xGuard t7 false (fun w K => K t0 w) w fun t9 w =>
 xGuard t7 false (fun w K => xBin Try.prog .geq 3 false t9 true (.int .i64 64) w K) w fun t10 w =>
 xPick t7 (.bool true) t10 w fun t11 w =>
 xGuard t11 false (fun w K => K t1 w) w fun t13 w =>
 xGuard t11 false (fun w K => xBin Try.prog .lss 3 false t13 true (.int .i64 1) w K) w fun t14 w =>
 xPick t11 (.bool true) t14 w fun t15 w =>
 xGuard t15 false (fun w K => K t1 w) w fun t17 w =>
 xGuard t15 false (fun w K => K t0 w) w fun t18 w =>
 xGuard t15 false (fun w K => xBin Try.prog .sub 3 true (.int .i64 64) false t18 w K) w fun t19 w =>
 xGuard t15 false (fun w K => xBin Try.prog .gtr 3 false t17 false t19 w K) w fun t20 w =>
 xPick t15 (.bool true) t20 w fun t21 w =>
 xIf t21
 (K (.tuple #[(c64 0), (.bool false)]) w)
 (xBin Try.prog .sub 3 true (.int .i64 64) false t1 w fun t23 w =>
 xBin Try.prog .shr 69 true (c64 18446744073709551615) false t23 w fun t24 w =>
 xBin Try.prog .shl 69 false t24 false t0 w fun t26 w =>
 K (.tuple #[t26, (.bool true)]) w)
abbrev n_bits_mask : Nat := 101
def bits_mask_ann : Ann := { loop := fun i => [], wr := fun i => [], told := fun i => [] }
theorem bits_mask_eq (t0 t1 : Value) (w : World) (K : K1) : reads Try.prog bits_mask_ann Try.f101 #[t0, t1] w K = bits_mask K t0 t1 w := by kernel_rfl
theorem bits_mask_of {t0 t1 : Value} {w : World} {K : K1} (h : bits_mask K t0 t1 w) : Yld Try.prog n_bits_mask #[t0, t1] w K :=
  yld_of mixed bits_mask_ann Try.func101 (by kernel_rfl) (bits_mask_eq t0 t1 w K) h

/-! loam/head.Pack: function 102 -/
def head_Pack (K : K1) (t0 : Value) (w : World) : Prop :=
 xBox Try.prog 123 t0 w fun t1 w =>
 xLoad Try.prog 123 t1 w fun t5 w =>
 xCall Try.prog (fnv 122) [t5] w fun t6 w =>
 xUn Try.prog .not t6 w fun t7 w =>
 xIf t7
 (K (.tuple #[(c64 0), (.int .i64 1)]) w)
 (xFieldAddr Try.prog 123 t1 2 w fun t8 w =>
 xLoad Try.prog 4 t8 w fun t9 w =>
 xIf t9
 (xBin Try.prog .or 69 false (c64 9223372036854775808) true (c64 1) w fun t11 w =>
 xFieldAddr Try.prog 123 t1 3 w fun t12 w =>
 xLoad Try.prog 3 t12 w fun t13 w =>
 xConv Try.prog 3 69 t13 w fun t14 w =>
 xCall Try.prog (fnv 57) [t11, (.int .i64 32), (.int .i64 16), t14] w fun t15 w =>
 K (.tuple #[t15, (.int .i64 0)]) w)
 (xDraw w.drew fun le H =>
 xDet le (H) (fun w K => K (c64 9223372036854775808) w) fun t16 =>
 xDet le (H) (fun w K => xFieldAddr Try.prog 123 t1 0 w K) fun t17 =>
 xDet le (H) (fun w K => xLoad Try.prog 3 t17 w K) fun t18 =>
 xDet le (H) (fun w K => xConv Try.prog 3 69 t18 w K) fun t19 =>
 xDet le (H) (fun w K => xFieldAddr Try.prog 123 t1 1 w K) fun t21 =>
 xDet le (H) (fun w K => xLoad Try.prog 3 t21 w K) fun t22 =>
 xDet le (H) (fun w K => xConv Try.prog 3 69 t22 w K) fun t23 =>
 xDet le (H) (fun w K => xCall Try.prog (fnv 57) [t16, (.int .i64 1), (.int .i64 8), t19] w K) fun t20 =>
 xDet le (H) (fun w K => xCall Try.prog (fnv 57) [t20, (.int .i64 16), (.int .i64 12), t23] w K) fun t24 =>
 xDet le (H) (fun w K => K t24 w) fun t2 =>
 xDet le (H) (fun w K => K (.int .i64 0) w) fun t3 =>
 xEnd (H) fun w =>
 K (.tuple #[t2, t3]) w))
abbrev n_head_Pack : Nat := 102
def head_Pack_ann : Ann := { loop := fun i => [], wr := fun i => [], told := fun i => bif Nat.beq i 6 then [(0, false, ⟨0, 65552, some 16⟩), (1, false, ⟨0, 131074, some 17⟩), (2, false, ⟨2, 393216, some 18⟩), (3, false, ⟨4, 786432, some 19⟩), (5, false, ⟨0, 2097154, some 21⟩), (6, false, ⟨32, 6291456, some 22⟩), (7, false, ⟨64, 12582912, some 23⟩), (4, false, ⟨9, 1638400, some 20⟩), (8, false, ⟨144, 26214400, some 24⟩), (9, false, ⟨511, 16777220, some 2⟩), (10, false, ⟨1023, 8, some 3⟩)] else [] }
theorem head_Pack_eq (t0 : Value) (w : World) (K : K1) : reads Try.prog head_Pack_ann Try.f102 #[t0] w K = head_Pack K t0 w := by kernel_rfl
theorem head_Pack_of {t0 : Value} {w : World} {K : K1} (h : head_Pack K t0 w) : Yld Try.prog n_head_Pack #[t0] w K :=
  yld_of mixed head_Pack_ann Try.func102 (by kernel_rfl) (head_Pack_eq t0 w K) h

/-! loam/head.Size: function 103 -/
def head_Size (K : K1) (t0 : Value) (w : World) : Prop :=
 xBox Try.prog 123 t0 w fun t1 w =>
 xLoad Try.prog 123 t1 w fun t3 w =>
 xCall Try.prog (fnv 122) [t3] w fun t4 w =>
 xUn Try.prog .not t4 w fun t5 w =>
 xGuard t5 false (fun w K => xFieldAddr Try.prog 123 t1 2 w K) w fun t7 w =>
 xGuard t5 false (fun w K => xLoad Try.prog 4 t7 w K) w fun t8 w =>
 xPick t5 (.bool true) t8 w fun t9 w =>
 xIf t9
 (K (.int .i64 0) w)
 (xFieldAddr Try.prog 123 t1 0 w fun t10 w =>
 xLoad Try.prog 3 t10 w fun t11 w =>
 xBin Try.prog .add 3 true (.int .i64 1) false t11 w fun t12 w =>
 xFieldAddr Try.prog 123 t1 1 w fun t13 w =>
 xLoad Try.prog 3 t13 w fun t14 w =>
 xBin Try.prog .add 3 false t14 true (.int .i64 8) w fun t15 w =>
 xBin Try.prog .sub 3 false t15 true (.int .i64 1) w fun t16 w =>
 xBin Try.prog .quo 3 false t16 true (.int .i64 8) w fun t17 w =>
 xBin Try.prog .add 3 false t12 false t17 w fun t18 w =>
 K t18 w)
abbrev n_head_Size : Nat := 103
def head_Size_ann : Ann := { loop := fun i => [], wr := fun i => [], told := fun i => [] }
theorem head_Size_eq (t0 : Value) (w : World) (K : K1) : reads Try.prog head_Size_ann Try.f103 #[t0] w K = head_Size K t0 w := by kernel_rfl
theorem head_Size_of {t0 : Value} {w : World} {K : K1} (h : head_Size K t0 w) : Yld Try.prog n_head_Size #[t0] w K :=
  yld_of mixed head_Size_ann Try.func103 (by kernel_rfl) (head_Size_eq t0 w K) h

/-! (*loam/space.Space).Free: function 104 -/
/-! (*loam/mem.Mem).SetBytes: function 105 -/
/-! slices.Clip[[]uint64,uint64]: function 106 -/
/-! slices.Clone[[]uint64,uint64]: function 107 -/
/-! (*loam/space.Space).Head: function 108 -/
/-! slices.Clip[[]int,int]: function 109 -/
/-! (loam/image.reader).number: function 110 -/
/-! loam/obj.Read: function 111 -/
/-! (*loam/mem.Mem).Bytes: function 112 -/
/-! loam/loamref1.mask: function 113 -/
/-! slices.Clone[[]int,int]: function 114 -/
/-! slices.Clip[[]byte,byte]: function 115 -/
/-! slices.Clone[[]byte,byte]: function 116 -/
/-! loam/canon.Order: function 117 -/
/-! loam/head.Unpack: function 118 -/
def head_Unpack_j1 (K : K1) (t0 t2 t4 : Value) (w : World) : Prop :=
 xLoad Try.prog 123 t4 w fun t22_1 w =>
 xCall Try.prog (fnv 102) [t22_1] w fun t23_1 w =>
 xExtract Try.prog t23_1 0 w fun t24_1 w =>
 xExtract Try.prog t23_1 1 w fun t25_1 w =>
 xBin Try.prog .neq 53 false t25_1 true (.int .i64 0) w fun t27_1 w =>
 xGuard t27_1 false (fun w K => K t24_1 w) w fun t29_1 w =>
 xGuard t27_1 false (fun w K => K t0 w) w fun t30_1 w =>
 xGuard t27_1 false (fun w K => xBin Try.prog .neq 69 false t29_1 false t30_1 w K) w fun t31_1 w =>
 xPick t27_1 (.bool true) t31_1 w fun t32_1 w =>
 xIf t32_1
 (xBuild Try.prog 123 [] w fun t33_1 w =>
 xStore Try.prog 123 t2 t33_1 w fun _ w =>
 xLoadR Try.prog 123 t2 w fun r0 =>
 K (.tuple #[r0, (.int .i64 2)]) w)
 (xLoad Try.prog 123 t4 w fun t34_1 w =>
 xStore Try.prog 123 t2 t34_1 w fun _ w =>
 xLoadR Try.prog 123 t2 w fun r0 =>
 K (.tuple #[r0, (.int .i64 0)]) w)
def head_Unpack (K : K1) (t0 : Value) (w : World) : Prop :=
 xAlloc Try.prog 123 w fun t2 w =>
 xCall Try.prog (fnv 69) [t0, (.int .i64 1), (.int .i64 8)] w fun t8 w =>
 xConv Try.prog 69 3 t8 w fun t9 w =>
 xCall Try.prog (fnv 69) [t0, (.int .i64 16), (.int .i64 12)] w fun t11 w =>
 xConv Try.prog 69 3 t11 w fun t12 w =>
 xBuild Try.prog 123 [(0, t9), (1, t12)] w fun t13 w =>
 xAlloc Try.prog 123 w fun t4 w =>
 xStore Try.prog 123 t4 t13 w fun _ w =>
 xBin Try.prog .and 69 false t0 true (c64 1) w fun t15 w =>
 xBin Try.prog .eql 69 false t15 true (c64 1) w fun t16 w =>
 xIf t16
 (xCall Try.prog (fnv 69) [t0, (.int .i64 32), (.int .i64 16)] w fun t18 w =>
 xConv Try.prog 69 3 t18 w fun t19 w =>
 xBuild Try.prog 123 [(2, (.bool true)), (3, t19)] w fun t20 w =>
 xStore Try.prog 123 t4 t20 w fun _ w =>
 head_Unpack_j1 K t0 t2 t4 w)
 (head_Unpack_j1 K t0 t2 t4 w)
abbrev n_head_Unpack : Nat := 118
def head_Unpack_ann : Ann := { loop := fun i => [], wr := fun i => [], told := fun i => [] }
theorem head_Unpack_eq (t0 : Value) (w : World) (K : K1) : reads Try.prog head_Unpack_ann Try.f118 #[t0] w K = head_Unpack K t0 w := by kernel_rfl
theorem head_Unpack_of {t0 : Value} {w : World} {K : K1} (h : head_Unpack K t0 w) : Yld Try.prog n_head_Unpack #[t0] w K :=
  yld_of mixed head_Unpack_ann Try.func118 (by kernel_rfl) (head_Unpack_eq t0 w K) h

/-! loam/check.pad: function 119 -/
def check_pad (K : K1) (t0 t1 : Value) (w : World) : Prop :=
 xBin Try.prog .rem 3 false t1 true (.int .i64 8) w fun t6 w =>
 xBin Try.prog .gtr 3 false t6 true (.int .i64 0) w fun t8 w =>
 xGuard t8 true (fun w K => K t0 w) w fun t10 w =>
 xGuard t8 true (fun w K => K t6 w) w fun t11 w =>
 xGuard t8 true (fun w K => xBin Try.prog .mul 3 true (.int .i64 8) false t11 w K) w fun t12 w =>
 xGuard t8 true (fun w K => xBin Try.prog .shr 69 false t10 false t12 w K) w fun t13 w =>
 xGuard t8 true (fun w K => xBin Try.prog .neq 69 false t13 true (c64 0) w K) w fun t14 w =>
 xPick t8 t14 (.bool false) w fun t15 w =>
 K t15 w
abbrev n_check_pad : Nat := 119
def check_pad_ann : Ann := { loop := fun i => [], wr := fun i => [], told := fun i => [] }
theorem check_pad_eq (t0 t1 : Value) (w : World) (K : K1) : reads Try.prog check_pad_ann Try.f119 #[t0, t1] w K = check_pad K t0 t1 w := by kernel_rfl
theorem check_pad_of {t0 t1 : Value} {w : World} {K : K1} (h : check_pad K t0 t1 w) : Yld Try.prog n_check_pad #[t0, t1] w K :=
  yld_of mixed check_pad_ann Try.func119 (by kernel_rfl) (check_pad_eq t0 t1 w K) h

/-! strings.Contains: function 120 -/
def strings_Contains (K : K1) (t0 t1 : Value) (w : World) : Prop :=
 xCall Try.prog (fnv 126) [t0, t1] w fun t7 w =>
 xBin Try.prog .geq 3 false t7 true (.int .i64 0) w fun t8 w =>
 K t8 w
abbrev n_strings_Contains : Nat := 120
def strings_Contains_ann : Ann := { loop := fun i => [], wr := fun i => [], told := fun i => [] }
theorem strings_Contains_eq (t0 t1 : Value) (w : World) (K : K1) : reads Try.prog strings_Contains_ann Try.f120 #[t0, t1] w K = strings_Contains K t0 t1 w := by kernel_rfl
theorem strings_Contains_of {t0 t1 : Value} {w : World} {K : K1} (h : strings_Contains K t0 t1 w) : Yld Try.prog n_strings_Contains #[t0, t1] w K :=
  yld_of mixed strings_Contains_ann Try.func120 (by kernel_rfl) (strings_Contains_eq t0 t1 w K) h

/-! strings.Cut: function 121 -/
def strings_Cut (K : K1) (t0 t1 : Value) (w : World) : Prop :=
 xCall Try.prog (fnv 127) [t0, t1] w fun t9 w =>
 xExtract Try.prog t9 0 w fun t10 w =>
 xExtract Try.prog t9 1 w fun t11 w =>
 xExtract Try.prog t9 2 w fun t12 w =>
 K (.tuple #[t10, t11, t12]) w
abbrev n_strings_Cut : Nat := 121
def strings_Cut_ann : Ann := { loop := fun i => [], wr := fun i => [], told := fun i => [] }
theorem strings_Cut_eq (t0 t1 : Value) (w : World) (K : K1) : reads Try.prog strings_Cut_ann Try.f121 #[t0, t1] w K = strings_Cut K t0 t1 w := by kernel_rfl
theorem strings_Cut_of {t0 t1 : Value} {w : World} {K : K1} (h : strings_Cut K t0 t1 w) : Yld Try.prog n_strings_Cut #[t0, t1] w K :=
  yld_of mixed strings_Cut_ann Try.func121 (by kernel_rfl) (strings_Cut_eq t0 t1 w K) h

/-! loam/head.Right: function 122 -/
def head_Right (K : K1) (t0 : Value) (w : World) : Prop :=
 xBox Try.prog 123 t0 w fun t1 w =>
 xFieldAddr Try.prog 123 t1 2 w fun t3 w =>
 xLoad Try.prog 4 t3 w fun t4 w =>
 xIf t4
 (xFieldAddr Try.prog 123 t1 0 w fun t5 w =>
 xLoad Try.prog 3 t5 w fun t6 w =>
 xBin Try.prog .eql 3 false t6 true (.int .i64 0) w fun t7 w =>
 xGuard t7 true (fun w K => xFieldAddr Try.prog 123 t1 1 w K) w fun t9 w =>
 xGuard t7 true (fun w K => xLoad Try.prog 3 t9 w K) w fun t10 w =>
 xGuard t7 true (fun w K => xBin Try.prog .eql 3 false t10 true (.int .i64 0) w K) w fun t11 w =>
 xPick t7 t11 (.bool false) w fun t12 w =>
 xGuard t12 true (fun w K => xFieldAddr Try.prog 123 t1 3 w K) w fun t14 w =>
 xGuard t12 true (fun w K => xLoad Try.prog 3 t14 w K) w fun t15 w =>
 xGuard t12 true (fun w K => xBin Try.prog .geq 3 false t15 true (.int .i64 0) w K) w fun t16 w =>
 xPick t12 t16 (.bool false) w fun t17 w =>
 xGuard t17 true (fun w K => xFieldAddr Try.prog 123 t1 3 w K) w fun t19 w =>
 xGuard t17 true (fun w K => xLoad Try.prog 3 t19 w K) w fun t20 w =>
 xGuard t17 true (fun w K => xBin Try.prog .lss 3 false t20 true (.int .i64 8192) w K) w fun t21 w =>
 xPick t17 t21 (.bool false) w fun t22 w =>
 K t22 w)
 (xFieldAddr Try.prog 123 t1 3 w fun t23 w =>
 xLoad Try.prog 3 t23 w fun t24 w =>
 xBin Try.prog .eql 3 false t24 true (.int .i64 0) w fun t25 w =>
 xGuard t25 true (fun w K => xFieldAddr Try.prog 123 t1 0 w K) w fun t27 w =>
 xGuard t25 true (fun w K => xLoad Try.prog 3 t27 w K) w fun t28 w =>
 xGuard t25 true (fun w K => xBin Try.prog .geq 3 false t28 true (.int .i64 0) w K) w fun t29 w =>
 xPick t25 t29 (.bool false) w fun t30 w =>
 xGuard t30 true (fun w K => xFieldAddr Try.prog 123 t1 0 w K) w fun t32 w =>
 xGuard t30 true (fun w K => xLoad Try.prog 3 t32 w K) w fun t33 w =>
 xGuard t30 true (fun w K => xBin Try.prog .leq 3 false t33 true (.int .i64 64) w K) w fun t34 w =>
 xPick t30 t34 (.bool false) w fun t35 w =>
 xGuard t35 true (fun w K => xFieldAddr Try.prog 123 t1 1 w K) w fun t37 w =>
 xGuard t35 true (fun w K => xLoad Try.prog 3 t37 w K) w fun t38 w =>
 xGuard t35 true (fun w K => xBin Try.prog .geq 3 false t38 true (.int .i64 0) w K) w fun t39 w =>
 xPick t35 t39 (.bool false) w fun t40 w =>
 xGuard t40 true (fun w K => xFieldAddr Try.prog 123 t1 1 w K) w fun t42 w =>
 xGuard t40 true (fun w K => xLoad Try.prog 3 t42 w K) w fun t43 w =>
 xGuard t40 true (fun w K => xBin Try.prog .leq 3 false t43 true (.int .i64 1024) w K) w fun t44 w =>
 xPick t40 t44 (.bool false) w fun t45 w =>
 K t45 w)
abbrev n_head_Right : Nat := 122
def head_Right_ann : Ann := { loop := fun i => [], wr := fun i => [], told := fun i => [] }
theorem head_Right_eq (t0 : Value) (w : World) (K : K1) : reads Try.prog head_Right_ann Try.f122 #[t0] w K = head_Right K t0 w := by kernel_rfl
theorem head_Right_of {t0 : Value} {w : World} {K : K1} (h : head_Right K t0 w) : Yld Try.prog n_head_Right #[t0] w K :=
  yld_of mixed head_Right_ann Try.func122 (by kernel_rfl) (head_Right_eq t0 w K) h

/-! slices.BinarySearch[[]int,int]: function 123 -/
/-! loam/obj.bytes: function 124 -/
/-! loam/canon.Order$1: function 125 -/
/-! strings.Index: function 126 -/
def strings_Index (K : K1) (t0 t1 : Value) (w : World) : Prop :=
 xCall Try.prog (fnv 131) [t0, t1] w fun t7 w =>
 K t7 w
abbrev n_strings_Index : Nat := 126
def strings_Index_ann : Ann := { loop := fun i => [], wr := fun i => [], told := fun i => [] }
theorem strings_Index_eq (t0 t1 : Value) (w : World) (K : K1) : reads Try.prog strings_Index_ann Try.f126 #[t0, t1] w K = strings_Index K t0 t1 w := by kernel_rfl
theorem strings_Index_of {t0 t1 : Value} {w : World} {K : K1} (h : strings_Index K t0 t1 w) : Yld Try.prog n_strings_Index #[t0, t1] w K :=
  yld_of mixed strings_Index_ann Try.func126 (by kernel_rfl) (strings_Index_eq t0 t1 w K) h

/-! internal/stringslite.Cut: function 127 -/
def internal_stringslite_Cut (K : K1) (t0 t1 : Value) (w : World) : Prop :=
 xCall Try.prog (fnv 131) [t0, t1] w fun t10 w =>
 xBin Try.prog .geq 3 false t10 true (.int .i64 0) w fun t12 w =>
 xIf t12
 (xSq w.drew fun w =>
 xPur w (fun w K => K t0 w) fun t13 =>
 xPur w (fun w K => K t10 w) fun t14 =>
 xPur w (fun w K => xSlice Try.prog 9 t13 none (some t14) none w K) fun t15 =>
 xPur w (fun w K => K t0 w) fun t16 =>
 xPur w (fun w K => K t10 w) fun t17 =>
 xPur w (fun w K => K t1 w) fun t18 =>
 xPur w (fun w K => xBuiltin Try.prog .len #[9] 3 [false] [t18] w K) fun t19 =>
 xPur w (fun w K => xBin Try.prog .add 3 false t17 false t19 w K) fun t20 =>
 xPur w (fun w K => xSlice Try.prog 9 t16 (some t20) none none w K) fun t21 =>
 xPur w (fun w K => K t15 w) fun t4 =>
 xPur w (fun w K => K t21 w) fun t5 =>
 xPur w (fun w K => K (.bool true) w) fun t6 =>
 K (.tuple #[t4, t5, t6]) w)
 (K (.tuple #[t0, (.string { data := #[] }), (.bool false)]) w)
abbrev n_internal_stringslite_Cut : Nat := 127
def internal_stringslite_Cut_ann : Ann := { loop := fun i => [], wr := fun i => [], told := fun i => bif Nat.beq i 3 then [(0, false, ⟨0, 8193, some 13⟩), (1, false, ⟨0, 16512, some 14⟩), (2, false, ⟨3, 57344, some 15⟩), (3, false, ⟨0, 65537, some 16⟩), (4, false, ⟨0, 131200, some 17⟩), (5, false, ⟨0, 262146, some 18⟩), (6, false, ⟨32, 786432, some 19⟩), (7, false, ⟨80, 1703936, some 20⟩), (8, false, ⟨136, 3211264, some 21⟩), (9, false, ⟨7, 32784, some 4⟩), (10, false, ⟨1023, 2097184, some 5⟩), (11, false, ⟨2047, 64, some 6⟩)] else [], sq := fun i => bif Nat.beq i 3 then some (.rd true 0 (.rd true 1 (.rd true 2 (.rd true 3 (.rd true 4 (.rd true 5 (.rd true 6 (.rd true 7 (.rd true 8 (.rd true 9 (.rd true 10 (.rd true 11 .done)))))))))))) else none }
theorem internal_stringslite_Cut_eq (t0 t1 : Value) (w : World) (K : K1) : reads Try.prog internal_stringslite_Cut_ann Try.f127 #[t0, t1] w K = internal_stringslite_Cut K t0 t1 w := by kernel_rfl
theorem internal_stringslite_Cut_of {t0 t1 : Value} {w : World} {K : K1} (h : internal_stringslite_Cut K t0 t1 w) : Yld Try.prog n_internal_stringslite_Cut #[t0, t1] w K :=
  yld_of mixed internal_stringslite_Cut_ann Try.func127 (by kernel_rfl) (internal_stringslite_Cut_eq t0 t1 w K) h

/-! slices.isNaN[int]: function 129 -/
/-! loam/obj.whole: function 130 -/
/-! internal/stringslite.Index: function 131 -/
def internal_stringslite_Index_j1 (K : K1) (nxt1 : List Value → World → Prop) (t0 t1 t5 t7 t8 t9 t10 : Value) (w : World) : Prop :=
 xBin Try.prog .add 3 false t8 true (.int .i64 1) w fun t80_1 w =>
 xIndex Try.prog 9 t0 t80_1 w fun t81_1 w =>
 xBin Try.prog .eql 5 false t81_1 false t7 w fun t83_1 w =>
 xGuard t83_1 true (fun w K => K t0 w) w fun t85_1 w =>
 xGuard t83_1 true (fun w K => K t8 w) w fun t86_1 w =>
 xGuard t83_1 true (fun w K => K t8 w) w fun t87_1 w =>
 xGuard t83_1 true (fun w K => K t5 w) w fun t88_1 w =>
 xGuard t83_1 true (fun w K => xBin Try.prog .add 3 false t87_1 false t88_1 w K) w fun t89_1 w =>
 xGuard t83_1 true (fun w K => xSlice Try.prog 9 t85_1 (some t86_1) (some t89_1) none w K) w fun t90_1 w =>
 xGuard t83_1 true (fun w K => K t1 w) w fun t91_1 w =>
 xGuard t83_1 true (fun w K => xBin Try.prog .eql 9 false t90_1 false t91_1 w K) w fun t92_1 w =>
 xPick t83_1 t92_1 (.bool false) w fun t93_1 w =>
 xIf t93_1
 (K t8 w)
 (xBin Try.prog .add 3 false t8 true (.int .i64 1) w fun t96_1 w =>
 xBin Try.prog .add 3 false t10 true (.int .i64 1) w fun t98_1 w =>
 xLoad Try.prog 3 (.pointer (some ⟨0, 0, none⟩)) w fun t100_1 w =>
 xBin Try.prog .leq 3 false t5 false t100_1 w fun t101_1 w =>
 xGuard t101_1 true (fun w K => K t98_1 w) w fun t103_1 w =>
 xGuard t101_1 true (fun w K => K t96_1 w) w fun t104_1 w =>
 xGuard t101_1 true (fun w K => xCall Try.prog (fnv 135) [t104_1] w K) w fun t105_1 w =>
 xGuard t101_1 true (fun w K => xBin Try.prog .gtr 3 false t103_1 false t105_1 w K) w fun t106_1 w =>
 xPick t101_1 t106_1 (.bool false) w fun t107_1 w =>
 xIf t107_1
 (xSlice Try.prog 9 t0 (some t96_1) none none w fun t110_1 w =>
 xCall Try.prog (fnv 134) [t110_1, t1] w fun t112_1 w =>
 xBin Try.prog .geq 3 false t112_1 true (.int .i64 0) w fun t114_1 w =>
 xIf t114_1
 (xBin Try.prog .add 3 false t112_1 false t96_1 w fun t117_1 w =>
 K t117_1 w)
 (K (.int .i64 (-1)) w))
 (xLoad Try.prog 3 (.pointer (some ⟨0, 0, none⟩)) w fun t119_1 w =>
 xBin Try.prog .gtr 3 false t5 false t119_1 w fun t120_1 w =>
 xGuard t120_1 true (fun w K => K t98_1 w) w fun t122_1 w =>
 xGuard t120_1 true (fun w K => K t96_1 w) w fun t123_1 w =>
 xGuard t120_1 true (fun w K => xBin Try.prog .shr 3 false t123_1 true (c64 4) w K) w fun t124_1 w =>
 xGuard t120_1 true (fun w K => xBin Try.prog .add 3 true (.int .i64 4) false t124_1 w K) w fun t125_1 w =>
 xGuard t120_1 true (fun w K => xBin Try.prog .geq 3 false t122_1 false t125_1 w K) w fun t126_1 w =>
 xPick t120_1 t126_1 (.bool false) w fun t127_1 w =>
 xGuard t127_1 true (fun w K => K t96_1 w) w fun t129_1 w =>
 xGuard t127_1 true (fun w K => K t9 w) w fun t130_1 w =>
 xGuard t127_1 true (fun w K => xBin Try.prog .lss 3 false t129_1 false t130_1 w K) w fun t131_1 w =>
 xPick t127_1 t131_1 (.bool false) w fun t132_1 w =>
 xIf t132_1
 (xSlice Try.prog 9 t0 (some t96_1) none none w fun t135_1 w =>
 xCall Try.prog (fnv 136) [t135_1, t1] w fun t137_1 w =>
 xBin Try.prog .lss 3 false t137_1 true (.int .i64 0) w fun t139_1 w =>
 xIf t139_1
 (K (.int .i64 (-1)) w)
 (xBin Try.prog .add 3 false t96_1 false t137_1 w fun t142_1 w =>
 K t142_1 w))
 (nxt1 [t96_1, t98_1] w)))
def internal_stringslite_Index_l1 (K : K1) (nxt1 : List Value → World → Prop) (t0 t1 t5 t6 t7 t8 t9 t10 : Value) (w : World) : Prop :=
 xBin Try.prog .lss 3 false t8 false t9 w fun t59_1 w =>
 xIf t59_1
 (xIndex Try.prog 9 t0 t8 w fun t62_1 w =>
 xBin Try.prog .neq 5 false t62_1 false t6 w fun t64_1 w =>
 xIf t64_1
 (xBin Try.prog .add 3 false t8 true (.int .i64 1) w fun t67_1 w =>
 xSlice Try.prog 9 t0 (some t67_1) (some t9) none w fun t69_1 w =>
 xCall Try.prog (fnv 133) [t69_1, t6] w fun t71_1 w =>
 xBin Try.prog .lss 3 false t71_1 true (.int .i64 0) w fun t73_1 w =>
 xIf t73_1
 (K (.int .i64 (-1)) w)
 (xBin Try.prog .add 3 false t71_1 true (.int .i64 1) w fun t76_1 w =>
 xBin Try.prog .add 3 false t8 false t76_1 w fun t77_1 w =>
 internal_stringslite_Index_j1 K nxt1 t0 t1 t5 t7 t77_1 t9 t10 w))
 (internal_stringslite_Index_j1 K nxt1 t0 t1 t5 t7 t8 t9 t10 w))
 (K (.int .i64 (-1)) w)
def internal_stringslite_Index (K : K1) (t0 t1 : Value) (w : World) : Prop :=
 xBuiltin Try.prog .len #[9] 3 [false] [t1] w fun t15 w =>
 xBin Try.prog .eql 3 false t15 true (.int .i64 0) w fun t18 w =>
 xGuard t18 false (fun w K => K t1 w) w fun t20 w =>
 xGuard t18 false (fun w K => K t0 w) w fun t21 w =>
 xGuard t18 false (fun w K => xBin Try.prog .eql 9 false t20 false t21 w K) w fun t22 w =>
 xPick t18 (.bool true) t22 w fun t23 w =>
 xIf t23
 (K (.int .i64 0) w)
 (xBin Try.prog .eql 3 false t15 true (.int .i64 1) w fun t26 w =>
 xIf t26
 (xIndex Try.prog 9 t1 (.int .i64 0) w fun t29 w =>
 xCall Try.prog (fnv 133) [t0, t29] w fun t30 w =>
 K t30 w)
 (xBuiltin Try.prog .len #[9] 3 [false] [t0] w fun t34 w =>
 xBin Try.prog .geq 3 false t15 false t34 w fun t35 w =>
 xIf t35
 (K (.int .i64 (-1)) w)
 (xLoad Try.prog 3 (.pointer (some ⟨0, 0, none⟩)) w fun t38 w =>
 xBin Try.prog .leq 3 false t15 false t38 w fun t39 w =>
 xGuard t39 true (fun w K => K t0 w) w fun t41 w =>
 xGuard t39 true (fun w K => xBuiltin Try.prog .len #[9] 3 [false] [t41] w K) w fun t42 w =>
 xGuard t39 true (fun w K => xBin Try.prog .leq 3 false t42 true (.int .i64 64) w K) w fun t43 w =>
 xPick t39 t43 (.bool false) w fun t44 w =>
 xIf t44
 (xCall Try.prog (fnv 134) [t0, t1] w fun t47 w =>
 K t47 w)
 (xIndex Try.prog 9 t1 (.int .i64 0) w fun t49 w =>
 xIndex Try.prog 9 t1 (.int .i64 1) w fun t51 w =>
 xBuiltin Try.prog .len #[9] 3 [false] [t0] w fun t53 w =>
 xBin Try.prog .sub 3 false t53 false t15 w fun t55 w =>
 xBin Try.prog .add 3 false t55 true (.int .i64 1) w fun t56 w =>
 xLoop [(.int .i64 0), (.int .i64 0)] w [8, 10] fun u w nxt1 =>
 internal_stringslite_Index_l1 K nxt1 t0 t1 t15 t49 t51 (u 8) t56 (u 10) w))))
abbrev n_internal_stringslite_Index : Nat := 131
def internal_stringslite_Index_ann : Ann := { loop := fun i => bif Nat.beq i 1 then [8, 10] else [], wr := fun i => bif Nat.beq i 1 then [4, 8, 10, 11, 12, 13, 57, 58, 59, 60, 61, 62, 63, 64, 65, 66, 67, 68, 69, 70, 71, 72, 73, 74, 75, 76, 77, 78, 79, 80, 81, 82, 83, 84, 85, 86, 87, 88, 89, 90, 91, 92, 93, 94, 95, 96, 97, 98, 99, 100, 101, 102, 103, 104, 105, 106, 107, 108, 109, 110, 111, 112, 113, 114, 115, 116, 117, 118, 119, 120, 121, 122, 123, 124, 125, 126, 127, 128, 129, 130, 131, 132, 133, 134, 135, 136, 137, 138, 139, 140, 141, 142] else [], told := fun i => [] }
theorem internal_stringslite_Index_eq (t0 t1 : Value) (w : World) (K : K1) : reads Try.prog internal_stringslite_Index_ann Try.f131 #[t0, t1] w K = internal_stringslite_Index K t0 t1 w := by kernel_rfl
theorem internal_stringslite_Index_of {t0 t1 : Value} {w : World} {K : K1} (h : internal_stringslite_Index K t0 t1 w) : Yld Try.prog n_internal_stringslite_Index #[t0, t1] w K :=
  yld_of mixed internal_stringslite_Index_ann Try.func131 (by kernel_rfl) (internal_stringslite_Index_eq t0 t1 w K) h

/-! internal/stringslite.IndexByte: function 133 -/
def internal_stringslite_IndexByte (K : K1) (t0 t1 : Value) (w : World) : Prop :=
 xCall Try.prog (fnv 137) [t0, t1] w fun t7 w =>
 K t7 w
abbrev n_internal_stringslite_IndexByte : Nat := 133
def internal_stringslite_IndexByte_ann : Ann := { loop := fun i => [], wr := fun i => [], told := fun i => [] }
theorem internal_stringslite_IndexByte_eq (t0 t1 : Value) (w : World) (K : K1) : reads Try.prog internal_stringslite_IndexByte_ann Try.f133 #[t0, t1] w K = internal_stringslite_IndexByte K t0 t1 w := by kernel_rfl
theorem internal_stringslite_IndexByte_of {t0 t1 : Value} {w : World} {K : K1} (h : internal_stringslite_IndexByte K t0 t1 w) : Yld Try.prog n_internal_stringslite_IndexByte #[t0, t1] w K :=
  yld_of mixed internal_stringslite_IndexByte_ann Try.func133 (by kernel_rfl) (internal_stringslite_IndexByte_eq t0 t1 w K) h

/-! internal/bytealg.Cutover: function 135 -/
/-! internal/bytealg.IndexRabinKarp[string]: function 136 -/
abbrev n_internal_bytealg_IndexByteString : Nat := 137
/-! internal/bytealg.hashStr[string]: function 138 -/
end Go.Proofs.Ytdpmidgeipibbaa
