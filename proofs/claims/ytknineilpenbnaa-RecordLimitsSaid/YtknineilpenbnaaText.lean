/- Each function of the set, as it is loaded, read as a statement on values; and that a call gives what the reading asks. -/
import Derived.Test.YtknineilpenbnaaBase
set_option linter.unusedVariables false
namespace Go.Proofs.Ytknineilpenbnaa
open Go.Sh Go.RowKit
/-! loam/loamlaw8.RecordBack: function 3 -/
def loamlaw8_RecordBack (K : K1) (t0 : Value) (w : World) : Prop :=
 xBox Try.prog 27 t0 w fun t1 w =>
 xCall Try.prog (fnv 7) [] w fun t10 w =>
 xUn Try.prog .not t10 w fun t11 w =>
 xIf t11
 (K (.bool false) w)
 (xFieldAddr Try.prog 27 t1 3 w fun t12 w =>
 xLoad Try.prog 25 t12 w fun t13 w =>
 xBuiltin Try.prog .len #[25] 3 [false] [t13] w fun t14 w =>
 xBin Try.prog .gtr 3 false t14 true (.int .i64 5000) w fun t15 w =>
 xIf t15
 (K (.bool true) w)
 (xLoad Try.prog 27 t1 w fun t17 w =>
 xCall Try.prog (fnv 8) [t17] w fun t18 w =>
 xExtract Try.prog t18 0 w fun t19 w =>
 xExtract Try.prog t18 1 w fun t20 w =>
 xLoad Try.prog 27 t1 w fun t22 w =>
 xCall Try.prog (fnv 10) [t22] w fun t23 w =>
 xCall Try.prog (fnv 9) [t23] w fun t24 w =>
 xExtract Try.prog t24 0 w fun t25 w =>
 xExtract Try.prog t24 1 w fun t26 w =>
 xBin Try.prog .neq 3 false t20 false t26 w fun t29 w =>
 xGuard t29 false (fun w K => K t19 w) w fun t31 w =>
 xGuard t29 false (fun w K => xConv Try.prog 25 9 t31 w K) w fun t32 w =>
 xGuard t29 false (fun w K => K t25 w) w fun t33 w =>
 xGuard t29 false (fun w K => xConv Try.prog 25 9 t33 w K) w fun t34 w =>
 xGuard t29 false (fun w K => xBin Try.prog .neq 9 false t32 false t34 w K) w fun t35 w =>
 xPick t29 (.bool true) t35 w fun t36 w =>
 xIf t36
 (K (.bool false) w)
 (xBin Try.prog .neq 3 false t26 true (.int .i64 0) w fun t38 w =>
 xIf t38
 (K (.bool true) w)
 (xCall Try.prog (fnv 11) [t19] w fun t41 w =>
 xExtract Try.prog t41 0 w fun t42 w =>
 xExtract Try.prog t41 1 w fun t43 w =>
 xExtract Try.prog t41 2 w fun t44 w =>
 xAlloc Try.prog 27 w fun t7 w =>
 xStore Try.prog 27 t7 t42 w fun _ w =>
 xSq w.drew fun w =>
 xPur w (fun w K => K t44 w) fun t45 =>
 xPur w (fun w K => xBin Try.prog .eql 3 false t45 true (.int .i64 0) w K) fun t46 =>
 xPur w (fun w K => K t46 w) fun t47 =>
 xPur w (fun w K => xGuard t47 true (fun w K => K t43 w) w K) fun t48 =>
 xPur w (fun w K => xGuard t47 true (fun w K => K t19 w) w K) fun t49 =>
 xPur w (fun w K => xGuard t47 true (fun w K => xBuiltin Try.prog .len #[25] 3 [false] [t49] w K) w K) fun t50 =>
 xPur w (fun w K => xGuard t47 true (fun w K => xBin Try.prog .eql 3 false t48 false t50 w K) w K) fun t51 =>
 xPur w (fun w K => xPick t47 t51 (.bool false) w K) fun t52 =>
 xPur w (fun w K => K t52 w) fun t53 =>
 xRd w (fun K => xGuard t53 true (fun w K => xLoad Try.prog 27 t7 w K) w K) fun t54 =>
 xRd w (fun K => xGuard t53 true (fun w K => xLoad Try.prog 27 t1 w K) w K) fun t55 =>
 xGuard t53 true (fun w K => xCall Try.prog (fnv 12) [t54, t55] w K) w fun t56 w =>
 xPur w (fun w K => xPick t53 t56 (.bool false) w K) fun t57 =>
 xPur w (fun w K => K t57 w) fun t58 =>
 xRd w (fun K => xGuard t58 true (fun w K => xLoad Try.prog 27 t7 w K) w K) fun t59 =>
 xRd w (fun K => xGuard t58 true (fun w K => xLoad Try.prog 27 t1 w K) w K) fun t61 =>
 xGuard t58 true (fun w K => xCall Try.prog (fnv 10) [t59] w K) w fun t60 w =>
 xRe w (fun K => xGuard t58 true (fun w K => xLoad Try.prog 27 t1 w K) w K) t61 (
 xGuard t58 true (fun w K => xCall Try.prog (fnv 10) [t61] w K) w fun t62 w =>
 xGuard t58 true (fun w K => xCall Try.prog (fnv 13) [t60, t62] w K) w fun t63 w =>
 xPur w (fun w K => xPick t58 t63 (.bool false) w K) fun t64 =>
 xPur w (fun w K => K t64 w) fun t2 =>
 K t2 w)))))
abbrev n_loamlaw8_RecordBack : Nat := 3
def loamlaw8_RecordBack_ann : Ann := { loop := fun i => [], wr := fun i => [], told := fun i => bif Nat.beq i 12 then [(0, false, ⟨0, 35184372089344, some 45⟩), (1, false, ⟨1, 105553116266496, some 46⟩), (2, false, ⟨2, 211106232532992, some 47⟩), (3, false, ⟨4, 422212465066240, some 48⟩), (4, false, ⟨4, 703687441776648, some 49⟩), (5, false, ⟨20, 1829587348619264, some 50⟩), (6, false, ⟨44, 3799912185593856, some 51⟩), (7, false, ⟨68, 6896136929411072, some 52⟩), (8, false, ⟨132, 13510798882111488, some 53⟩), (9, false, ⟨256, 27021597764223104, some 54⟩), (10, false, ⟨256, 45035996273704962, some 55⟩), (11, false, ⟨1792, 135107988821114880, some 56⟩), (12, false, ⟨2304, 225179981368524800, some 57⟩), (13, false, ⟨6144, 432345564227567616, some 58⟩), (14, false, ⟨8192, 864691128455135360, some 59⟩), (16, false, ⟨8192, 2594073385365405698, some 61⟩), (15, false, ⟨24576, 2017612633061982208, some 60⟩), (17, false, ⟨106496, 7205759403792793600, some 62⟩), (18, false, ⟨172032, 15276209936040722432, some 63⟩), (19, false, ⟨270336, 27958346486716039168, some 64⟩), (20, false, ⟨1048575, 18446744073709551620, some 2⟩)] else [], sq := fun i => bif Nat.beq i 12 then some (.rd true 0 (.rd true 1 (.rd true 2 (.rd true 3 (.rd true 4 (.rd true 5 (.rd true 6 (.rd true 7 (.rd true 8 (.rd false 9 (.rd false 10 (.ef 11 [] (.rd true 12 (.rd true 13 (.rd false 14 (.rd false 16 (.ef 15 [16] (.ef 17 [] (.ef 18 [] (.rd true 19 (.rd true 20 .done))))))))))))))))))))) else none }
theorem loamlaw8_RecordBack_eq (t0 : Value) (w : World) (K : K1) : reads Try.prog loamlaw8_RecordBack_ann Try.f3 #[t0] w K = loamlaw8_RecordBack K t0 w := by kernel_rfl
theorem loamlaw8_RecordBack_of {t0 : Value} {w : World} {K : K1} (h : loamlaw8_RecordBack K t0 w) : Yld Try.prog n_loamlaw8_RecordBack #[t0] w K :=
  yld_of mixed loamlaw8_RecordBack_ann Try.func3 (by kernel_rfl) (loamlaw8_RecordBack_eq t0 w K) h

/-! loam/loamlaw8.RecordCuts: function 4 -/
def loamlaw8_RecordCuts (K : K1) (t0 t1 t2 : Value) (w : World) : Prop :=
 xBox Try.prog 27 t0 w fun t3 w =>
 xCall Try.prog (fnv 7) [] w fun t15 w =>
 xUn Try.prog .not t15 w fun t16 w =>
 xIf t16
 (K (.bool false) w)
 (xFieldAddr Try.prog 27 t3 3 w fun t17 w =>
 xLoad Try.prog 25 t17 w fun t18 w =>
 xBuiltin Try.prog .len #[25] 3 [false] [t18] w fun t19 w =>
 xBin Try.prog .gtr 3 false t19 true (.int .i64 500) w fun t20 w =>
 xGuard t20 false (fun w K => K t2 w) w fun t22 w =>
 xGuard t20 false (fun w K => xBuiltin Try.prog .len #[25] 3 [false] [t22] w K) w fun t23 w =>
 xGuard t20 false (fun w K => xBin Try.prog .gtr 3 false t23 true (.int .i64 100) w K) w fun t24 w =>
 xPick t20 (.bool true) t24 w fun t25 w =>
 xGuard t25 false (fun w K => K t1 w) w fun t27 w =>
 xGuard t25 false (fun w K => xBin Try.prog .lss 3 false t27 true (.int .i64 0) w K) w fun t28 w =>
 xPick t25 (.bool true) t28 w fun t29 w =>
 xIf t29
 (K (.bool true) w)
 (xLoad Try.prog 27 t3 w fun t31 w =>
 xCall Try.prog (fnv 8) [t31] w fun t32 w =>
 xExtract Try.prog t32 0 w fun t33 w =>
 xExtract Try.prog t32 1 w fun t34 w =>
 xBin Try.prog .neq 3 false t34 true (.int .i64 0) w fun t36 w =>
 xIf t36
 (K (.bool true) w)
 (xBuiltin Try.prog .len #[25] 3 [false] [t33] w fun t41 w =>
 xBin Try.prog .rem 3 false t1 false t41 w fun t42 w =>
 xSlice Try.prog 25 t33 none (some t42) none w fun t43 w =>
 xCall Try.prog (fnv 11) [t43] w fun t44 w =>
 xExtract Try.prog t44 0 w fun t45 w =>
 xExtract Try.prog t44 1 w fun t46 w =>
 xExtract Try.prog t44 2 w fun t47 w =>
 xAlloc Try.prog 27 w fun t9 w =>
 xStore Try.prog 27 t9 t45 w fun _ w =>
 xBuildSlice Try.prog 25 0 [] w fun t49 w =>
 xBuiltin Try.prog .append #[25, 25] 25 [false, false] [t49, t33] w fun t51 w =>
 xBuiltin Try.prog .append #[25, 25] 25 [false, false] [t51, t2] w fun t53 w =>
 xCall Try.prog (fnv 11) [t53] w fun t54 w =>
 xExtract Try.prog t54 0 w fun t55 w =>
 xExtract Try.prog t54 1 w fun t56 w =>
 xExtract Try.prog t54 2 w fun t57 w =>
 xAlloc Try.prog 27 w fun t12 w =>
 xStore Try.prog 27 t12 t55 w fun _ w =>
 xBin Try.prog .eql 3 false t47 true (.int .i64 3) w fun t59 w =>
 xGuard t59 true (fun w K => K t46 w) w fun t61 w =>
 xGuard t59 true (fun w K => xBin Try.prog .eql 3 false t61 true (.int .i64 0) w K) w fun t62 w =>
 xPick t59 t62 (.bool false) w fun t63 w =>
 xGuard t63 true (fun w K => K t57 w) w fun t65 w =>
 xGuard t63 true (fun w K => xBin Try.prog .eql 3 false t65 true (.int .i64 0) w K) w fun t66 w =>
 xPick t63 t66 (.bool false) w fun t67 w =>
 xGuard t67 true (fun w K => K t56 w) w fun t69 w =>
 xGuard t67 true (fun w K => K t33 w) w fun t70 w =>
 xGuard t67 true (fun w K => xBuiltin Try.prog .len #[25] 3 [false] [t70] w K) w fun t71 w =>
 xGuard t67 true (fun w K => xBin Try.prog .eql 3 false t69 false t71 w K) w fun t72 w =>
 xPick t67 t72 (.bool false) w fun t73 w =>
 xGuard t73 true (fun w K => xLoad Try.prog 27 t12 w K) w fun t75 w =>
 xGuard t73 true (fun w K => xLoad Try.prog 27 t3 w K) w fun t76 w =>
 xGuard t73 true (fun w K => xCall Try.prog (fnv 12) [t75, t76] w K) w fun t77 w =>
 xPick t73 t77 (.bool false) w fun t78 w =>
 K t78 w)))
abbrev n_loamlaw8_RecordCuts : Nat := 4
def loamlaw8_RecordCuts_ann : Ann := { loop := fun i => [], wr := fun i => [], told := fun i => [] }
theorem loamlaw8_RecordCuts_eq (t0 t1 t2 : Value) (w : World) (K : K1) : reads Try.prog loamlaw8_RecordCuts_ann Try.f4 #[t0, t1, t2] w K = loamlaw8_RecordCuts K t0 t1 t2 w := by kernel_rfl
theorem loamlaw8_RecordCuts_of {t0 t1 t2 : Value} {w : World} {K : K1} (h : loamlaw8_RecordCuts K t0 t1 t2 w) : Yld Try.prog n_loamlaw8_RecordCuts #[t0, t1, t2] w K :=
  yld_of mixed loamlaw8_RecordCuts_ann Try.func4 (by kernel_rfl) (loamlaw8_RecordCuts_eq t0 t1 t2 w K) h

/-! loam/loamlaw8.RecordLimits: function 5 -/
def loamlaw8_RecordLimits (K : K1) (t0 t1 t2 : Value) (w : World) : Prop :=
 xCall Try.prog (fnv 7) [] w fun t9 w =>
 xUn Try.prog .not t9 w fun t10 w =>
 xIf t10
 (K (.bool false) w)
 (xBin Try.prog .lss 3 false t0 true (.int .i64 4090) w fun t12 w =>
 xGuard t12 false (fun w K => K t0 w) w fun t14 w =>
 xGuard t12 false (fun w K => xBin Try.prog .gtr 3 false t14 true (.int .i64 4100) w K) w fun t15 w =>
 xPick t12 (.bool true) t15 w fun t16 w =>
 xIf t16
 (K (.bool true) w)
 (xBuild Try.prog 24 [(0, t2), (1, t1)] w fun t20 w =>
 xMakeSlice Try.prog 25 t0 t0 w fun t22 w =>
 xBuild Try.prog 27 [(0, (.int .i64 1)), (2, t20), (3, t22)] w fun t23 w =>
 xCall Try.prog (fnv 8) [t23] w fun t24 w =>
 xExtract Try.prog t24 0 w fun t25 w =>
 xExtract Try.prog t24 1 w fun t26 w =>
 xBin Try.prog .neq 3 false t2 true (.int .i64 0) w fun t29 w =>
 xGuard t29 true (fun w K => K t2 w) w fun t31 w =>
 xGuard t29 true (fun w K => xBin Try.prog .neq 3 false t31 true (.int .i64 1) w K) w fun t32 w =>
 xPick t29 t32 (.bool false) w fun t33 w =>
 xGuard t33 false (fun w K => K t1 w) w fun t35 w =>
 xGuard t33 false (fun w K => xBin Try.prog .lss 3 false t35 true (.int .i64 0) w K) w fun t36 w =>
 xPick t33 (.bool true) t36 w fun t37 w =>
 xGuard t37 false (fun w K => K t1 w) w fun t39 w =>
 xGuard t37 false (fun w K => xBin Try.prog .gtr 3 false t39 true (.int .i64 65535) w K) w fun t40 w =>
 xPick t37 (.bool true) t40 w fun t41 w =>
 xIf t41
 (xBin Try.prog .eql 3 false t26 true (.int .i64 1) w fun t43 w =>
 K t43 w)
 (xBin Try.prog .gtr 3 false t0 true (.int .i64 4096) w fun t46 w =>
 xIf t46
 (xBin Try.prog .eql 3 false t26 true (.int .i64 3) w fun t48 w =>
 K t48 w)
 (xBin Try.prog .eql 3 false t26 true (.int .i64 0) w fun t50 w =>
 K t50 w))))
abbrev n_loamlaw8_RecordLimits : Nat := 5
def loamlaw8_RecordLimits_ann : Ann := { loop := fun i => [], wr := fun i => [], told := fun i => [] }
theorem loamlaw8_RecordLimits_eq (t0 t1 t2 : Value) (w : World) (K : K1) : reads Try.prog loamlaw8_RecordLimits_ann Try.f5 #[t0, t1, t2] w K = loamlaw8_RecordLimits K t0 t1 t2 w := by kernel_rfl
theorem loamlaw8_RecordLimits_of {t0 t1 t2 : Value} {w : World} {K : K1} (h : loamlaw8_RecordLimits K t0 t1 t2 w) : Yld Try.prog n_loamlaw8_RecordLimits #[t0, t1, t2] w K :=
  yld_of mixed loamlaw8_RecordLimits_ann Try.func5 (by kernel_rfl) (loamlaw8_RecordLimits_eq t0 t1 t2 w K) h

/-! loam/loamlaw8.RecordRows: function 6 -/
def loamlaw8_RecordRows_l2 (K : K1) (nxt2 : List Value → World → Prop) (t0 t7 t9 : Value) (w : World) : Prop :=
 xBuiltin Try.prog .len #[45] 3 [false] [t0] w fun t57_1 w =>
 xBin Try.prog .lss 3 false t9 false t57_1 w fun t58_1 w =>
 xIf t58_1
 (xSq w.drew fun w =>
 xPur w (fun w K => K t7 w) fun t61_1 =>
 xPur w (fun w K => K t9 w) fun t62_1 =>
 xPur w (fun w K => xIndexAddr Try.prog 45 t61_1 t62_1 w K) fun t63_1 =>
 xRd w (fun K => xLoad Try.prog 27 t63_1 w K) fun t64_1 =>
 xPur w (fun w K => K t0 w) fun t65_1 =>
 xPur w (fun w K => K t9 w) fun t66_1 =>
 xPur w (fun w K => xIndexAddr Try.prog 45 t65_1 t66_1 w K) fun t67_1 =>
 xRd w (fun K => xLoad Try.prog 27 t67_1 w K) fun t68_1 =>
 xCall Try.prog (fnv 12) [t64_1, t68_1] w fun t69_1 w =>
 xPur w (fun w K => xUn Try.prog .not t69_1 w K) fun t70_1 =>
 xPur w (fun w K => K t70_1 w) fun t71_1 =>
 xPur w (fun w K => xGuard t71_1 false (fun w K => K t7 w) w K) fun t72_1 =>
 xPur w (fun w K => xGuard t71_1 false (fun w K => K t9 w) w K) fun t73_1 =>
 xPur w (fun w K => xGuard t71_1 false (fun w K => xIndexAddr Try.prog 45 t72_1 t73_1 w K) w K) fun t74_1 =>
 xRd w (fun K => xGuard t71_1 false (fun w K => xLoad Try.prog 27 t74_1 w K) w K) fun t75_1 =>
 xPur w (fun w K => xGuard t71_1 false (fun w K => K t0 w) w K) fun t77_1 =>
 xPur w (fun w K => xGuard t71_1 false (fun w K => K t9 w) w K) fun t78_1 =>
 xPur w (fun w K => xGuard t71_1 false (fun w K => xIndexAddr Try.prog 45 t77_1 t78_1 w K) w K) fun t79_1 =>
 xRd w (fun K => xGuard t71_1 false (fun w K => xLoad Try.prog 27 t79_1 w K) w K) fun t80_1 =>
 xGuard t71_1 false (fun w K => xCall Try.prog (fnv 10) [t75_1] w K) w fun t76_1 w =>
 xRe w (fun K => xGuard t71_1 false (fun w K => xLoad Try.prog 27 t79_1 w K) w K) t80_1 (
 xGuard t71_1 false (fun w K => xCall Try.prog (fnv 10) [t80_1] w K) w fun t81_1 w =>
 xGuard t71_1 false (fun w K => xCall Try.prog (fnv 13) [t76_1, t81_1] w K) w fun t82_1 w =>
 xPur w (fun w K => xGuard t71_1 false (fun w K => xUn Try.prog .not t82_1 w K) w K) fun t83_1 =>
 xPur w (fun w K => xPick t71_1 (.bool true) t83_1 w K) fun t84_1 =>
 xIf t84_1
 (K (.bool false) w)
 (xBin Try.prog .add 3 false t9 true (.int .i64 1) w fun t60_1 w =>
 nxt2 [t60_1] w)))
 (K (.bool true) w)
def loamlaw8_RecordRows_l1 (K : K1) (nxt0 : List Value → World → Prop) (t0 t3 t4 : Value) (w : World) : Prop :=
 xBuiltin Try.prog .len #[45] 3 [false] [t0] w fun t17_1 w =>
 xBin Try.prog .lss 3 false t4 false t17_1 w fun t18_1 w =>
 xIf t18_1
 (xIndexAddr Try.prog 45 t0 t4 w fun t23_1 w =>
 xFieldAddr Try.prog 27 t23_1 3 w fun t24_1 w =>
 xLoad Try.prog 25 t24_1 w fun t25_1 w =>
 xBuiltin Try.prog .len #[25] 3 [false] [t25_1] w fun t26_1 w =>
 xBin Try.prog .gtr 3 false t26_1 true (.int .i64 300) w fun t27_1 w =>
 xIf t27_1
 (K (.bool true) w)
 (xIndexAddr Try.prog 45 t0 t4 w fun t31_1 w =>
 xLoad Try.prog 27 t31_1 w fun t32_1 w =>
 xCall Try.prog (fnv 8) [t32_1] w fun t33_1 w =>
 xExtract Try.prog t33_1 0 w fun t34_1 w =>
 xExtract Try.prog t33_1 1 w fun t35_1 w =>
 xBin Try.prog .neq 3 false t35_1 true (.int .i64 0) w fun t37_1 w =>
 xIf t37_1
 (K (.bool true) w)
 (xBuiltin Try.prog .append #[25, 25] 25 [false, false] [t3, t34_1] w fun t40_1 w =>
 xBin Try.prog .add 3 false t4 true (.int .i64 1) w fun t20_1 w =>
 nxt0 [t40_1, t20_1] w)))
 (xCall Try.prog (fnv 14) [t3] w fun t43 w =>
 xExtract Try.prog t43 0 w fun t44 w =>
 xExtract Try.prog t43 1 w fun t45 w =>
 xBin Try.prog .neq 3 false t45 true (.int .i64 0) w fun t47 w =>
 xGuard t47 false (fun w K => K t44 w) w fun t49 w =>
 xGuard t47 false (fun w K => xBuiltin Try.prog .len #[45] 3 [false] [t49] w K) w fun t50 w =>
 xGuard t47 false (fun w K => K t0 w) w fun t51 w =>
 xGuard t47 false (fun w K => xBuiltin Try.prog .len #[45] 3 [false] [t51] w K) w fun t52 w =>
 xGuard t47 false (fun w K => xBin Try.prog .neq 3 false t50 false t52 w K) w fun t53 w =>
 xPick t47 (.bool true) t53 w fun t54 w =>
 xIf t54
 (K (.bool false) w)
 (xLoop [(.int .i64 0)] w [9] fun u w nxt2 =>
 loamlaw8_RecordRows_l2 K nxt2 t0 t44 (u 9) w))
def loamlaw8_RecordRows (K : K1) (t0 : Value) (w : World) : Prop :=
 xCall Try.prog (fnv 7) [] w fun t10 w =>
 xUn Try.prog .not t10 w fun t11 w =>
 xIf t11
 (K (.bool false) w)
 (xBuiltin Try.prog .len #[45] 3 [false] [t0] w fun t13 w =>
 xBin Try.prog .gtr 3 false t13 true (.int .i64 20) w fun t14 w =>
 xIf t14
 (K (.bool true) w)
 (xLoop [(.slice none 0 0), (.int .i64 0)] w [3, 4] fun u w nxt0 =>
 loamlaw8_RecordRows_l1 K nxt0 t0 (u 3) (u 4) w))
abbrev n_loamlaw8_RecordRows : Nat := 6
def loamlaw8_RecordRows_ann : Ann := { loop := fun i => bif Nat.beq i 2 then [9] else bif Nat.beq i 0 then [3, 4] else [], wr := fun i => bif Nat.beq i 2 then [2, 9, 55, 56, 57, 58, 59, 60, 61, 62, 63, 64, 65, 66, 67, 68, 69, 70, 71, 72, 73, 74, 75, 76, 77, 78, 79, 80, 81, 82, 83, 84] else bif Nat.beq i 0 then [2, 3, 4, 5, 6, 15, 16, 17, 18, 19, 20, 21, 22, 23, 24, 25, 26, 27, 28, 29, 30, 31, 32, 33, 34, 35, 36, 37, 38, 39, 40] else [], told := fun i => bif Nat.beq i 21 then [(0, false, ⟨0, 2305843009213694080, some 61⟩), (1, false, ⟨0, 4611686018427388416, some 62⟩), (2, false, ⟨3, 16140901064495857664, some 63⟩), (3, false, ⟨4, 27670116110564327424, some 64⟩), (4, false, ⟨0, 36893488147419103233, some 65⟩), (5, false, ⟨0, 73786976294838206976, some 66⟩), (6, false, ⟨48, 258254417031933722624, some 67⟩), (7, false, ⟨64, 442721857769029238784, some 68⟩), (8, false, ⟨136, 903890459611768029184, some 69⟩), (9, false, ⟨256, 1770887431076116955136, some 70⟩), (10, false, ⟨768, 3541774862152233910272, some 71⟩), (11, false, ⟨1024, 7083549724304467820672, some 72⟩), (12, false, ⟨1024, 11805916207174113034752, some 73⟩), (13, false, ⟨7168, 35417748621522339102720, some 74⟩), (14, false, ⟨9216, 59029581035870565171200, some 75⟩), (16, false, ⟨1024, 153476910693263469445121, some 77⟩), (17, false, ⟨1024, 304592638145092116283904, some 78⟩), (18, false, ⟨197632, 1060171275404235350474752, some 79⟩), (19, false, ⟨263168, 1815749912663378584666112, some 80⟩), (15, false, ⟨17408, 115697978830306307735552, some 76⟩), (20, false, ⟨558080, 3629138642085322346725376, some 81⟩), (21, false, ⟨1082368, 7331473964655124194263040, some 82⟩), (22, false, ⟨2098176, 14509471018616984919080960, some 83⟩), (23, false, ⟨4195328, 29016580853992535015555072, some 84⟩)] else [], sq := fun i => bif Nat.beq i 21 then some (.rd true 0 (.rd true 1 (.rd true 2 (.rd false 3 (.rd true 4 (.rd true 5 (.rd true 6 (.rd false 7 (.ef 8 [] (.rd true 9 (.rd true 10 (.rd true 11 (.rd true 12 (.rd true 13 (.rd false 14 (.rd true 16 (.rd true 17 (.rd true 18 (.rd false 19 (.ef 15 [19] (.ef 20 [] (.ef 21 [] (.rd true 22 (.rd true 23 .done)))))))))))))))))))))))) else none }
theorem loamlaw8_RecordRows_eq (t0 : Value) (w : World) (K : K1) : reads Try.prog loamlaw8_RecordRows_ann Try.f6 #[t0] w K = loamlaw8_RecordRows K t0 w := by kernel_rfl
theorem loamlaw8_RecordRows_of {t0 : Value} {w : World} {K : K1} (h : loamlaw8_RecordRows K t0 w) : Yld Try.prog n_loamlaw8_RecordRows #[t0] w K :=
  yld_of mixed loamlaw8_RecordRows_ann Try.func6 (by kernel_rfl) (loamlaw8_RecordRows_eq t0 w K) h

/-! loam/loamlaw8.known: function 7 -/
def loamlaw8_known (K : K1) (w : World) : Prop :=
 xBuild Try.prog 24 [(0, (.int .i64 1)), (1, (.int .i64 300))] w fun t9 w =>
 xBuildSlice Try.prog 25 2 [(0, (c8 97)), (1, (c8 98))] w fun t10 w =>
 xConv Try.prog 25 25 t10 w fun t11 w =>
 xBuild Try.prog 27 [(0, (.int .i64 1)), (1, (c64 5)), (2, t9), (3, t11)] w fun t12 w =>
 xAlloc Try.prog 27 w fun t1 w =>
 xStore Try.prog 27 t1 t12 w fun _ w =>
 xLoad Try.prog 27 t1 w fun t14 w =>
 xCall Try.prog (fnv 8) [t14] w fun t15 w =>
 xExtract Try.prog t15 0 w fun t16 w =>
 xExtract Try.prog t15 1 w fun t17 w =>
 xBuildSlice Try.prog 25 0 [] w fun t19 w =>
 xBuiltin Try.prog .append #[25, 25] 25 [false, false] [t19, t16] w fun t21 w =>
 xBuildSlice Try.prog 25 1 [(0, (c8 9))] w fun t22 w =>
 xBuiltin Try.prog .append #[25, 25] 25 [false, false] [t21, t22] w fun t23 w =>
 xCall Try.prog (fnv 11) [t23] w fun t24 w =>
 xExtract Try.prog t24 0 w fun t25 w =>
 xExtract Try.prog t24 1 w fun t26 w =>
 xExtract Try.prog t24 2 w fun t27 w =>
 xAlloc Try.prog 27 w fun t4 w =>
 xStore Try.prog 27 t4 t25 w fun _ w =>
 xBuild Try.prog 27 [] w fun t29 w =>
 xCall Try.prog (fnv 8) [t29] w fun t30 w =>
 xExtract Try.prog t30 0 w fun t31 w =>
 xExtract Try.prog t30 1 w fun t32 w =>
 xBin Try.prog .add 3 false t17 false t27 w fun t35 w =>
 xBin Try.prog .eql 3 false t35 true (.int .i64 0) w fun t36 w =>
 xGuard t36 true (fun w K => K t26 w) w fun t38 w =>
 xGuard t36 true (fun w K => K t16 w) w fun t39 w =>
 xGuard t36 true (fun w K => xBuiltin Try.prog .len #[25] 3 [false] [t39] w K) w fun t40 w =>
 xGuard t36 true (fun w K => xBin Try.prog .eql 3 false t38 false t40 w K) w fun t41 w =>
 xPick t36 t41 (.bool false) w fun t42 w =>
 xGuard t42 true (fun w K => xLoad Try.prog 27 t4 w K) w fun t44 w =>
 xGuard t42 true (fun w K => xLoad Try.prog 27 t1 w K) w fun t45 w =>
 xGuard t42 true (fun w K => xCall Try.prog (fnv 12) [t44, t45] w K) w fun t46 w =>
 xPick t42 t46 (.bool false) w fun t47 w =>
 xGuard t47 true (fun w K => K t32 w) w fun t49 w =>
 xGuard t47 true (fun w K => xBin Try.prog .eql 3 false t49 true (.int .i64 1) w K) w fun t50 w =>
 xPick t47 t50 (.bool false) w fun t51 w =>
 xGuard t51 true (fun w K => xFieldAddr Try.prog 27 t4 2 w K) w fun t53 w =>
 xGuard t51 true (fun w K => xLoad Try.prog 24 t53 w K) w fun t54 w =>
 xGuard t51 true (fun w K => xFieldAddr Try.prog 27 t1 2 w K) w fun t55 w =>
 xGuard t51 true (fun w K => xLoad Try.prog 24 t55 w K) w fun t56 w =>
 xGuard t51 true (fun w K => xBin Try.prog .eql 24 false t54 false t56 w K) w fun t57 w =>
 xPick t51 t57 (.bool false) w fun t58 w =>
 K t58 w
abbrev n_loamlaw8_known : Nat := 7
def loamlaw8_known_ann : Ann := { loop := fun i => [], wr := fun i => [], told := fun i => [] }
theorem loamlaw8_known_eq (w : World) (K : K1) : reads Try.prog loamlaw8_known_ann Try.f7 #[] w K = loamlaw8_known K  w := by kernel_rfl
theorem loamlaw8_known_of {w : World} {K : K1} (h : loamlaw8_known K w) : Yld Try.prog n_loamlaw8_known #[] w K :=
  yld_of mixed loamlaw8_known_ann Try.func7 (by kernel_rfl) (loamlaw8_known_eq  w K) h

/-! loam/rec.Encode: function 8 -/
def rec_Encode_j1 (K : K1) (t1 t5 t6 : Value) (w : World) : Prop :=
 xFieldAddr Try.prog 27 t1 3 w fun t32_1 w =>
 xLoad Try.prog 25 t32_1 w fun t33_1 w =>
 xCall Try.prog (fnv 17) [t5, t33_1] w fun t34_1 w =>
 xCall Try.prog (fnv 19) [t5] w fun t35_1 w =>
 xCall Try.prog (fnv 18) [t35_1] w fun t36_1 w =>
 xCall Try.prog (fnv 17) [t6, t36_1] w fun t37_1 w =>
 xCall Try.prog (fnv 19) [t6] w fun t38_1 w =>
 K (.tuple #[t38_1, (.int .i64 0)]) w
def rec_Encode (K : K1) (t0 : Value) (w : World) : Prop :=
 xBox Try.prog 27 t0 w fun t1 w =>
 xLoad Try.prog 27 t1 w fun t7 w =>
 xCall Try.prog (fnv 15) [t7] w fun t8 w =>
 xBin Try.prog .neq 29 false t8 true (.int .i64 0) w fun t10 w =>
 xIf t10
 (K (.tuple #[(.slice none 0 0), t8]) w)
 (xAlloc Try.prog 51 w fun t5 w =>
 xAlloc Try.prog 51 w fun t6 w =>
 xFieldAddr Try.prog 27 t1 0 w fun t12 w =>
 xLoad Try.prog 3 t12 w fun t13 w =>
 xConv Try.prog 3 22 t13 w fun t14 w =>
 xCall Try.prog (fnv 16) [t5, t14] w fun t15 w =>
 xFieldAddr Try.prog 27 t1 1 w fun t16 w =>
 xLoad Try.prog 22 t16 w fun t17 w =>
 xCall Try.prog (fnv 16) [t5, t17] w fun t18 w =>
 xFieldAddr Try.prog 27 t1 0 w fun t19 w =>
 xLoad Try.prog 3 t19 w fun t20 w =>
 xBin Try.prog .eql 3 false t20 true (.int .i64 1) w fun t21 w =>
 xIf t21
 (xFieldAddr Try.prog 27 t1 2 w fun t22 w =>
 xFieldAddr Try.prog 24 t22 0 w fun t23 w =>
 xLoad Try.prog 3 t23 w fun t24 w =>
 xConv Try.prog 3 22 t24 w fun t25 w =>
 xCall Try.prog (fnv 16) [t5, t25] w fun t26 w =>
 xFieldAddr Try.prog 27 t1 2 w fun t27 w =>
 xFieldAddr Try.prog 24 t27 1 w fun t28 w =>
 xLoad Try.prog 3 t28 w fun t29 w =>
 xConv Try.prog 3 22 t29 w fun t30 w =>
 xCall Try.prog (fnv 16) [t5, t30] w fun t31 w =>
 rec_Encode_j1 K t1 t5 t6 w)
 (rec_Encode_j1 K t1 t5 t6 w))
abbrev n_rec_Encode : Nat := 8
def rec_Encode_ann : Ann := { loop := fun i => [], wr := fun i => [], told := fun i => [] }
theorem rec_Encode_eq (t0 : Value) (w : World) (K : K1) : reads Try.prog rec_Encode_ann Try.f8 #[t0] w K = rec_Encode K t0 w := by kernel_rfl
theorem rec_Encode_of {t0 : Value} {w : World} {K : K1} (h : rec_Encode K t0 w) : Yld Try.prog n_rec_Encode #[t0] w K :=
  yld_of mixed rec_Encode_ann Try.func8 (by kernel_rfl) (rec_Encode_eq t0 w K) h

/-! loam/loamref8.Encode: function 9 -/
def loamref8_Encode_j1 (K : K1) (t1 t4 : Value) (w : World) : Prop :=
 xFieldAddr Try.prog 36 t1 3 w fun t83_1 w =>
 xLoad Try.prog 25 t83_1 w fun t84_1 w =>
 xCall Try.prog (fnv 21) [t84_1] w fun t85_1 w =>
 xBuiltin Try.prog .append #[25, 25] 25 [false, false] [t4, t85_1] w fun t86_1 w =>
 xCall Try.prog (fnv 23) [t86_1] w fun t89_1 w =>
 xCall Try.prog (fnv 22) [t89_1] w fun t90_1 w =>
 xBuiltin Try.prog .append #[25, 25] 25 [false, false] [t86_1, t90_1] w fun t91_1 w =>
 xCall Try.prog (fnv 21) [t91_1] w fun t93_1 w =>
 K (.tuple #[t93_1, (.int .i64 0)]) w
def loamref8_Encode (K : K1) (t0 : Value) (w : World) : Prop :=
 xBox Try.prog 36 t0 w fun t1 w =>
 xFieldAddr Try.prog 36 t1 0 w fun t5 w =>
 xLoad Try.prog 3 t5 w fun t6 w =>
 xBin Try.prog .lss 3 false t6 true (.int .i64 1) w fun t7 w =>
 xGuard t7 false (fun w K => xFieldAddr Try.prog 36 t1 0 w K) w fun t9 w =>
 xGuard t7 false (fun w K => xLoad Try.prog 3 t9 w K) w fun t10 w =>
 xGuard t7 false (fun w K => xBin Try.prog .gtr 3 false t10 true (.int .i64 3) w K) w fun t11 w =>
 xPick t7 (.bool true) t11 w fun t12 w =>
 xGuard t12 false (fun w K => xFieldAddr Try.prog 36 t1 0 w K) w fun t14 w =>
 xGuard t12 false (fun w K => xLoad Try.prog 3 t14 w K) w fun t15 w =>
 xGuard t12 false (fun w K => xBin Try.prog .neq 3 false t15 true (.int .i64 1) w K) w fun t16 w =>
 xGuard t12 false (fun w K => K t16 w) w fun t17 w =>
 xGuard t17 true (fun w K => xFieldAddr Try.prog 36 t1 2 w K) w fun t18 w =>
 xGuard t17 true (fun w K => xFieldAddr Try.prog 34 t18 0 w K) w fun t19 w =>
 xGuard t17 true (fun w K => xLoad Try.prog 3 t19 w K) w fun t20 w =>
 xGuard t17 true (fun w K => xBin Try.prog .neq 3 false t20 true (.int .i64 0) w K) w fun t21 w =>
 xGuard t17 true (fun w K => K t21 w) w fun t22 w =>
 xGuard t22 false (fun w K => xFieldAddr Try.prog 36 t1 2 w K) w fun t23 w =>
 xGuard t22 false (fun w K => xFieldAddr Try.prog 34 t23 1 w K) w fun t24 w =>
 xGuard t22 false (fun w K => xLoad Try.prog 3 t24 w K) w fun t25 w =>
 xGuard t22 false (fun w K => xBin Try.prog .neq 3 false t25 true (.int .i64 0) w K) w fun t26 w =>
 xGuard t17 true (fun w K => xPick t22 (.bool true) t26 w K) w fun t27 w =>
 xGuard t12 false (fun w K => xPick t17 t27 (.bool false) w K) w fun t28 w =>
 xPick t12 (.bool true) t28 w fun t29 w =>
 xGuard t29 false (fun w K => xFieldAddr Try.prog 36 t1 2 w K) w fun t31 w =>
 xGuard t29 false (fun w K => xFieldAddr Try.prog 34 t31 0 w K) w fun t32 w =>
 xGuard t29 false (fun w K => xLoad Try.prog 3 t32 w K) w fun t33 w =>
 xGuard t29 false (fun w K => xBin Try.prog .neq 3 false t33 true (.int .i64 0) w K) w fun t34 w =>
 xGuard t29 false (fun w K => K t34 w) w fun t35 w =>
 xGuard t35 true (fun w K => xFieldAddr Try.prog 36 t1 2 w K) w fun t36 w =>
 xGuard t35 true (fun w K => xFieldAddr Try.prog 34 t36 0 w K) w fun t37 w =>
 xGuard t35 true (fun w K => xLoad Try.prog 3 t37 w K) w fun t38 w =>
 xGuard t35 true (fun w K => xBin Try.prog .neq 3 false t38 true (.int .i64 1) w K) w fun t39 w =>
 xGuard t29 false (fun w K => xPick t35 t39 (.bool false) w K) w fun t40 w =>
 xPick t29 (.bool true) t40 w fun t41 w =>
 xGuard t41 false (fun w K => xFieldAddr Try.prog 36 t1 2 w K) w fun t43 w =>
 xGuard t41 false (fun w K => xFieldAddr Try.prog 34 t43 1 w K) w fun t44 w =>
 xGuard t41 false (fun w K => xLoad Try.prog 3 t44 w K) w fun t45 w =>
 xGuard t41 false (fun w K => xBin Try.prog .lss 3 false t45 true (.int .i64 0) w K) w fun t46 w =>
 xPick t41 (.bool true) t46 w fun t47 w =>
 xGuard t47 false (fun w K => xFieldAddr Try.prog 36 t1 2 w K) w fun t49 w =>
 xGuard t47 false (fun w K => xFieldAddr Try.prog 34 t49 1 w K) w fun t50 w =>
 xGuard t47 false (fun w K => xLoad Try.prog 3 t50 w K) w fun t51 w =>
 xGuard t47 false (fun w K => xBin Try.prog .gtr 3 false t51 true (.int .i64 65535) w K) w fun t52 w =>
 xPick t47 (.bool true) t52 w fun t53 w =>
 xIf t53
 (K (.tuple #[(.slice none 0 0), (.int .i64 1)]) w)
 (xFieldAddr Try.prog 36 t1 3 w fun t54 w =>
 xLoad Try.prog 25 t54 w fun t55 w =>
 xBuiltin Try.prog .len #[25] 3 [false] [t55] w fun t56 w =>
 xBin Try.prog .gtr 3 false t56 true (.int .i64 4096) w fun t57 w =>
 xIf t57
 (K (.tuple #[(.slice none 0 0), (.int .i64 3)]) w)
 (xSq w.drew fun w =>
 xPur w (fun w K => xFieldAddr Try.prog 36 t1 0 w K) fun t58 =>
 xRd w (fun K => xLoad Try.prog 3 t58 w K) fun t59 =>
 xPur w (fun w K => xConv Try.prog 3 22 t59 w K) fun t60 =>
 xPur w (fun w K => xFieldAddr Try.prog 36 t1 1 w K) fun t62 =>
 xRd w (fun K => xLoad Try.prog 22 t62 w K) fun t63 =>
 xCall Try.prog (fnv 20) [t60] w fun t61 w =>
 xRe w (fun K => xLoad Try.prog 22 t62 w K) t63 (
 xCall Try.prog (fnv 20) [t63] w fun t64 w =>
 xBuiltin Try.prog .append #[25, 25] 25 [false, false] [t61, t64] w fun t65 w =>
 xPur w (fun w K => K t65 w) fun t4 =>
 xFieldAddr Try.prog 36 t1 0 w fun t66 w =>
 xLoad Try.prog 3 t66 w fun t67 w =>
 xBin Try.prog .eql 3 false t67 true (.int .i64 1) w fun t68 w =>
 xIf t68
 (xSq w.drew fun w =>
 xPur w (fun w K => K t4 w) fun t69 =>
 xPur w (fun w K => xFieldAddr Try.prog 36 t1 2 w K) fun t70 =>
 xPur w (fun w K => xFieldAddr Try.prog 34 t70 0 w K) fun t71 =>
 xRd w (fun K => xLoad Try.prog 3 t71 w K) fun t72 =>
 xPur w (fun w K => xConv Try.prog 3 22 t72 w K) fun t73 =>
 xPur w (fun w K => xFieldAddr Try.prog 36 t1 2 w K) fun t76 =>
 xPur w (fun w K => xFieldAddr Try.prog 34 t76 1 w K) fun t77 =>
 xRd w (fun K => xLoad Try.prog 3 t77 w K) fun t78 =>
 xPur w (fun w K => xConv Try.prog 3 22 t78 w K) fun t79 =>
 xCall Try.prog (fnv 20) [t73] w fun t74 w =>
 xRe w (fun K => xLoad Try.prog 3 t77 w K) t78 (
 xBuiltin Try.prog .append #[25, 25] 25 [false, false] [t69, t74] w fun t75 w =>
 xRe w (fun K => xLoad Try.prog 3 t77 w K) t78 (
 xCall Try.prog (fnv 20) [t79] w fun t80 w =>
 xBuiltin Try.prog .append #[25, 25] 25 [false, false] [t75, t80] w fun t81 w =>
 xPur w (fun w K => K t81 w) fun t4_1 =>
 loamref8_Encode_j1 K t1 t4_1 w)))
 (loamref8_Encode_j1 K t1 t4 w))))
abbrev n_loamref8_Encode : Nat := 9
def loamref8_Encode_ann : Ann := { loop := fun i => [], wr := fun i => [], told := fun i => bif Nat.beq i 5 then [(0, false, ⟨0, 288230376151711746, some 58⟩), (1, false, ⟨1, 864691128455135232, some 59⟩), (2, false, ⟨2, 1729382256910270464, some 60⟩), (4, false, ⟨0, 4611686018427387906, some 62⟩), (5, false, ⟨16, 13835058055282163712, some 63⟩), (3, false, ⟨4, 3458764513820540928, some 61⟩), (6, false, ⟨40, 27670116110564327424, some 64⟩), (7, false, ⟨72, 57646075230342348800, some 65⟩), (8, false, ⟨255, 36893488147419103248, some 4⟩)] else bif Nat.beq i 7 then [(0, false, ⟨0, 590295810358705651728, some 69⟩), (1, false, ⟨0, 1180591620717411303426, some 70⟩), (2, false, ⟨2, 3541774862152233910272, some 71⟩), (3, false, ⟨4, 7083549724304467820544, some 72⟩), (4, false, ⟨8, 14167099448608935641088, some 73⟩), (7, false, ⟨0, 75557863725914323419138, some 76⟩), (8, false, ⟨128, 226673591177742970257408, some 77⟩), (9, false, ⟨256, 453347182355485940514816, some 78⟩), (10, false, ⟨512, 906694364710971881029632, some 79⟩), (5, false, ⟨16, 28334198897217871282176, some 74⟩), (6, false, ⟨33, 57258693604794448216064, some 75⟩), (11, false, ⟨1088, 1813388729421943762059264, some 80⟩), (12, false, ⟨2112, 3664556390706844685828096, some 81⟩), (13, false, ⟨8191, 2417851639229258349412368, some 4⟩)] else [], sq := fun i => bif Nat.beq i 5 then some (.rd true 0 (.rd false 1 (.rd true 2 (.rd true 4 (.rd false 5 (.ef 3 [5] (.ef 6 [] (.ef 7 [] (.rd true 8 .done))))))))) else bif Nat.beq i 7 then some (.rd true 0 (.rd true 1 (.rd true 2 (.rd false 3 (.rd true 4 (.rd true 7 (.rd true 8 (.rd false 9 (.rd true 10 (.ef 5 [9] (.ef 6 [9] (.ef 11 [] (.ef 12 [] (.rd true 13 .done)))))))))))))) else none }
theorem loamref8_Encode_eq (t0 : Value) (w : World) (K : K1) : reads Try.prog loamref8_Encode_ann Try.f9 #[t0] w K = loamref8_Encode K t0 w := by kernel_rfl
theorem loamref8_Encode_of {t0 : Value} {w : World} {K : K1} (h : loamref8_Encode K t0 w) : Yld Try.prog n_loamref8_Encode #[t0] w K :=
  yld_of mixed loamref8_Encode_ann Try.func9 (by kernel_rfl) (loamref8_Encode_eq t0 w K) h

/-! loam/loamlaw8.Of: function 10 -/
def loamlaw8_Of (K : K1) (t0 : Value) (w : World) : Prop :=
 xBox Try.prog 27 t0 w fun t1 w =>
 xAlloc Try.prog 36 w fun t2 w =>
 xFieldAddr Try.prog 27 t1 0 w fun t3 w =>
 xLoad Try.prog 3 t3 w fun t4 w =>
 xFieldAddr Try.prog 27 t1 1 w fun t5 w =>
 xLoad Try.prog 22 t5 w fun t6 w =>
 xFieldAddr Try.prog 27 t1 2 w fun t7 w =>
 xFieldAddr Try.prog 24 t7 0 w fun t8 w =>
 xLoad Try.prog 3 t8 w fun t9 w =>
 xFieldAddr Try.prog 27 t1 2 w fun t10 w =>
 xFieldAddr Try.prog 24 t10 1 w fun t11 w =>
 xLoad Try.prog 3 t11 w fun t12 w =>
 xBuild Try.prog 34 [(0, t9), (1, t12)] w fun t13 w =>
 xFieldAddr Try.prog 27 t1 3 w fun t14 w =>
 xLoad Try.prog 25 t14 w fun t15 w =>
 xBuild Try.prog 36 [(0, t4), (1, t6), (2, t13), (3, t15)] w fun t16 w =>
 xStore Try.prog 36 t2 t16 w fun _ w =>
 xLoadR Try.prog 36 t2 w fun r0 =>
 K r0 w
abbrev n_loamlaw8_Of : Nat := 10
def loamlaw8_Of_ann : Ann := { loop := fun i => [], wr := fun i => [], told := fun i => [] }
theorem loamlaw8_Of_eq (t0 : Value) (w : World) (K : K1) : reads Try.prog loamlaw8_Of_ann Try.f10 #[t0] w K = loamlaw8_Of K t0 w := by kernel_rfl
theorem loamlaw8_Of_of {t0 : Value} {w : World} {K : K1} (h : loamlaw8_Of K t0 w) : Yld Try.prog n_loamlaw8_Of #[t0] w K :=
  yld_of mixed loamlaw8_Of_ann Try.func10 (by kernel_rfl) (loamlaw8_Of_eq t0 w K) h

/-! loam/rec.Decode: function 11 -/
def rec_Decode (K : K1) (t0 : Value) (w : World) : Prop :=
 xAlloc Try.prog 27 w fun t2 w =>
 xCall Try.prog (fnv 24) [t0] w fun t12 w =>
 xCall Try.prog (fnv 25) [t12] w fun t14 w =>
 xCall Try.prog (fnv 26) [t12] w fun t17 w =>
 xBin Try.prog .neq 29 false t17 true (.int .i64 0) w fun t18 w =>
 xIf t18
 (xBuild Try.prog 27 [] w fun t19 w =>
 xCall Try.prog (fnv 26) [t12] w fun t21 w =>
 xStore Try.prog 27 t2 t19 w fun _ w =>
 xLoadR Try.prog 27 t2 w fun r0 =>
 K (.tuple #[r0, (.int .i64 0), t21]) w)
 (xBuiltin Try.prog .len #[25] 3 [false] [t14] w fun t24 w =>
 xBin Try.prog .lss 3 false t24 true (.int .i64 4) w fun t25 w =>
 xIf t25
 (xBuild Try.prog 27 [] w fun t26 w =>
 xStore Try.prog 27 t2 t26 w fun _ w =>
 xLoadR Try.prog 27 t2 w fun r0 =>
 K (.tuple #[r0, (.int .i64 0), (.int .i64 2)]) w)
 (xBuiltin Try.prog .len #[25] 3 [false] [t0] w fun t28 w =>
 xCall Try.prog (fnv 27) [t12] w fun t30 w =>
 xBin Try.prog .sub 3 false t28 false t30 w fun t31 w =>
 xBuiltin Try.prog .len #[25] 3 [false] [t14] w fun t34 w =>
 xBin Try.prog .sub 3 false t34 true (.int .i64 4) w fun t35 w =>
 xSlice Try.prog 25 t14 none (some t35) none w fun t36 w =>
 xCall Try.prog (fnv 28) [t36] w fun t37 w =>
 xAlloc Try.prog 27 w fun t8 w =>
 xStore Try.prog 27 t8 t37 w fun _ w =>
 xLoad Try.prog 27 t8 w fun t39 w =>
 xCall Try.prog (fnv 8) [t39] w fun t40 w =>
 xExtract Try.prog t40 0 w fun t41 w =>
 xExtract Try.prog t40 1 w fun t42 w =>
 xBin Try.prog .neq 29 false t42 true (.int .i64 0) w fun t44 w =>
 xGuard t44 false (fun w K => K t41 w) w fun t46 w =>
 xGuard t44 false (fun w K => K t0 w) w fun t47 w =>
 xGuard t44 false (fun w K => K t31 w) w fun t48 w =>
 xGuard t44 false (fun w K => xSlice Try.prog 25 t47 none (some t48) none w K) w fun t49 w =>
 xGuard t44 false (fun w K => xCall Try.prog (fnv 29) [t46, t49] w K) w fun t50 w =>
 xGuard t44 false (fun w K => xUn Try.prog .not t50 w K) w fun t51 w =>
 xPick t44 (.bool true) t51 w fun t52 w =>
 xIf t52
 (xBuild Try.prog 27 [] w fun t53 w =>
 xStore Try.prog 27 t2 t53 w fun _ w =>
 xLoadR Try.prog 27 t2 w fun r0 =>
 K (.tuple #[r0, (.int .i64 0), (.int .i64 2)]) w)
 (xLoad Try.prog 27 t8 w fun t54 w =>
 xStore Try.prog 27 t2 t54 w fun _ w =>
 xLoadR Try.prog 27 t2 w fun r0 =>
 K (.tuple #[r0, t31, (.int .i64 0)]) w)))
abbrev n_rec_Decode : Nat := 11
def rec_Decode_ann : Ann := { loop := fun i => [], wr := fun i => [], told := fun i => [] }
theorem rec_Decode_eq (t0 : Value) (w : World) (K : K1) : reads Try.prog rec_Decode_ann Try.f11 #[t0] w K = rec_Decode K t0 w := by kernel_rfl
theorem rec_Decode_of {t0 : Value} {w : World} {K : K1} (h : rec_Decode K t0 w) : Yld Try.prog n_rec_Decode #[t0] w K :=
  yld_of mixed rec_Decode_ann Try.func11 (by kernel_rfl) (rec_Decode_eq t0 w K) h

/-! loam/rec.Same: function 12 -/
def rec_Same (K : K1) (t0 t1 : Value) (w : World) : Prop :=
 xBox Try.prog 27 t0 w fun t2 w =>
 xBox Try.prog 27 t1 w fun t3 w =>
 xFieldAddr Try.prog 27 t2 0 w fun t5 w =>
 xLoad Try.prog 3 t5 w fun t6 w =>
 xFieldAddr Try.prog 27 t3 0 w fun t7 w =>
 xLoad Try.prog 3 t7 w fun t8 w =>
 xBin Try.prog .eql 3 false t6 false t8 w fun t9 w =>
 xGuard t9 true (fun w K => xFieldAddr Try.prog 27 t2 1 w K) w fun t11 w =>
 xGuard t9 true (fun w K => xLoad Try.prog 22 t11 w K) w fun t12 w =>
 xGuard t9 true (fun w K => xFieldAddr Try.prog 27 t3 1 w K) w fun t13 w =>
 xGuard t9 true (fun w K => xLoad Try.prog 22 t13 w K) w fun t14 w =>
 xGuard t9 true (fun w K => xBin Try.prog .eql 22 false t12 false t14 w K) w fun t15 w =>
 xPick t9 t15 (.bool false) w fun t16 w =>
 xGuard t16 true (fun w K => xFieldAddr Try.prog 27 t2 2 w K) w fun t18 w =>
 xGuard t16 true (fun w K => xLoad Try.prog 24 t18 w K) w fun t19 w =>
 xGuard t16 true (fun w K => xFieldAddr Try.prog 27 t3 2 w K) w fun t20 w =>
 xGuard t16 true (fun w K => xLoad Try.prog 24 t20 w K) w fun t21 w =>
 xGuard t16 true (fun w K => xBin Try.prog .eql 24 false t19 false t21 w K) w fun t22 w =>
 xPick t16 t22 (.bool false) w fun t23 w =>
 xGuard t23 true (fun w K => xFieldAddr Try.prog 27 t2 3 w K) w fun t25 w =>
 xGuard t23 true (fun w K => xLoad Try.prog 25 t25 w K) w fun t26 w =>
 xGuard t23 true (fun w K => xFieldAddr Try.prog 27 t3 3 w K) w fun t27 w =>
 xGuard t23 true (fun w K => xLoad Try.prog 25 t27 w K) w fun t28 w =>
 xGuard t23 true (fun w K => xCall Try.prog (fnv 29) [t26, t28] w K) w fun t29 w =>
 xPick t23 t29 (.bool false) w fun t30 w =>
 K t30 w
abbrev n_rec_Same : Nat := 12
def rec_Same_ann : Ann := { loop := fun i => [], wr := fun i => [], told := fun i => [] }
theorem rec_Same_eq (t0 t1 : Value) (w : World) (K : K1) : reads Try.prog rec_Same_ann Try.f12 #[t0, t1] w K = rec_Same K t0 t1 w := by kernel_rfl
theorem rec_Same_of {t0 t1 : Value} {w : World} {K : K1} (h : rec_Same K t0 t1 w) : Yld Try.prog n_rec_Same #[t0, t1] w K :=
  yld_of mixed rec_Same_ann Try.func12 (by kernel_rfl) (rec_Same_eq t0 t1 w K) h

/-! loam/loamref8.Same: function 13 -/
def loamref8_Same (K : K1) (t0 t1 : Value) (w : World) : Prop :=
 xBox Try.prog 36 t0 w fun t2 w =>
 xBox Try.prog 36 t1 w fun t3 w =>
 xFieldAddr Try.prog 36 t2 0 w fun t5 w =>
 xLoad Try.prog 3 t5 w fun t6 w =>
 xFieldAddr Try.prog 36 t3 0 w fun t7 w =>
 xLoad Try.prog 3 t7 w fun t8 w =>
 xBin Try.prog .eql 3 false t6 false t8 w fun t9 w =>
 xGuard t9 true (fun w K => xFieldAddr Try.prog 36 t2 1 w K) w fun t11 w =>
 xGuard t9 true (fun w K => xLoad Try.prog 22 t11 w K) w fun t12 w =>
 xGuard t9 true (fun w K => xFieldAddr Try.prog 36 t3 1 w K) w fun t13 w =>
 xGuard t9 true (fun w K => xLoad Try.prog 22 t13 w K) w fun t14 w =>
 xGuard t9 true (fun w K => xBin Try.prog .eql 22 false t12 false t14 w K) w fun t15 w =>
 xPick t9 t15 (.bool false) w fun t16 w =>
 xGuard t16 true (fun w K => xFieldAddr Try.prog 36 t2 2 w K) w fun t18 w =>
 xGuard t16 true (fun w K => xFieldAddr Try.prog 34 t18 0 w K) w fun t19 w =>
 xGuard t16 true (fun w K => xLoad Try.prog 3 t19 w K) w fun t20 w =>
 xGuard t16 true (fun w K => xFieldAddr Try.prog 36 t3 2 w K) w fun t21 w =>
 xGuard t16 true (fun w K => xFieldAddr Try.prog 34 t21 0 w K) w fun t22 w =>
 xGuard t16 true (fun w K => xLoad Try.prog 3 t22 w K) w fun t23 w =>
 xGuard t16 true (fun w K => xBin Try.prog .eql 3 false t20 false t23 w K) w fun t24 w =>
 xPick t16 t24 (.bool false) w fun t25 w =>
 xGuard t25 true (fun w K => xFieldAddr Try.prog 36 t2 2 w K) w fun t27 w =>
 xGuard t25 true (fun w K => xFieldAddr Try.prog 34 t27 1 w K) w fun t28 w =>
 xGuard t25 true (fun w K => xLoad Try.prog 3 t28 w K) w fun t29 w =>
 xGuard t25 true (fun w K => xFieldAddr Try.prog 36 t3 2 w K) w fun t30 w =>
 xGuard t25 true (fun w K => xFieldAddr Try.prog 34 t30 1 w K) w fun t31 w =>
 xGuard t25 true (fun w K => xLoad Try.prog 3 t31 w K) w fun t32 w =>
 xGuard t25 true (fun w K => xBin Try.prog .eql 3 false t29 false t32 w K) w fun t33 w =>
 xPick t25 t33 (.bool false) w fun t34 w =>
 xGuard t34 true (fun w K => xFieldAddr Try.prog 36 t2 3 w K) w fun t36 w =>
 xGuard t34 true (fun w K => xLoad Try.prog 25 t36 w K) w fun t37 w =>
 xGuard t34 true (fun w K => xConv Try.prog 25 9 t37 w K) w fun t38 w =>
 xGuard t34 true (fun w K => xFieldAddr Try.prog 36 t3 3 w K) w fun t39 w =>
 xGuard t34 true (fun w K => xLoad Try.prog 25 t39 w K) w fun t40 w =>
 xGuard t34 true (fun w K => xConv Try.prog 25 9 t40 w K) w fun t41 w =>
 xGuard t34 true (fun w K => xBin Try.prog .eql 9 false t38 false t41 w K) w fun t42 w =>
 xPick t34 t42 (.bool false) w fun t43 w =>
 K t43 w
abbrev n_loamref8_Same : Nat := 13
def loamref8_Same_ann : Ann := { loop := fun i => [], wr := fun i => [], told := fun i => [] }
theorem loamref8_Same_eq (t0 t1 : Value) (w : World) (K : K1) : reads Try.prog loamref8_Same_ann Try.f13 #[t0, t1] w K = loamref8_Same K t0 t1 w := by kernel_rfl
theorem loamref8_Same_of {t0 t1 : Value} {w : World} {K : K1} (h : loamref8_Same K t0 t1 w) : Yld Try.prog n_loamref8_Same #[t0, t1] w K :=
  yld_of mixed loamref8_Same_ann Try.func13 (by kernel_rfl) (loamref8_Same_eq t0 t1 w K) h

/-! loam/rec.All: function 14 -/
def rec_All_l1 (K : K1) (nxt0 : List Value → World → Prop) (t0 t4 : Value) (w : World) : Prop :=
 xBuiltin Try.prog .len #[25] 3 [false] [t0] w fun t9_1 w =>
 xBin Try.prog .gtr 3 false t9_1 true (.int .i64 0) w fun t10_1 w =>
 xIf t10_1
 (xCall Try.prog (fnv 11) [t0] w fun t13_1 w =>
 xExtract Try.prog t13_1 0 w fun t14_1 w =>
 xExtract Try.prog t13_1 1 w fun t15_1 w =>
 xExtract Try.prog t13_1 2 w fun t16_1 w =>
 xAlloc Try.prog 27 w fun t5_1 w =>
 xStore Try.prog 27 t5_1 t14_1 w fun _ w =>
 xBin Try.prog .neq 29 false t16_1 true (.int .i64 0) w fun t18_1 w =>
 xIf t18_1
 (K (.tuple #[(.slice none 0 0), t16_1]) w)
 (xLoad Try.prog 27 t5_1 w fun t21_1 w =>
 xBuildSlice Try.prog 45 1 [(0, t21_1)] w fun t22_1 w =>
 xBuiltin Try.prog .append #[45, 45] 45 [false, false] [t4, t22_1] w fun t23_1 w =>
 xSlice Try.prog 25 t0 (some t15_1) none none w fun t26_1 w =>
 nxt0 [t26_1, t23_1] w))
 (K (.tuple #[t4, (.int .i64 0)]) w)
def rec_All (K : K1) (t0 : Value) (w : World) : Prop :=
 xLoop [t0, (.slice none 0 0)] w [0, 4] fun u w nxt0 =>
 rec_All_l1 K nxt0 (u 0) (u 4) w
abbrev n_rec_All : Nat := 14
def rec_All_ann : Ann := { loop := fun i => bif Nat.beq i 0 then [0, 4] else [], wr := fun i => bif Nat.beq i 0 then [0, 2, 3, 4, 5, 6, 7, 8, 9, 10, 11, 12, 13, 14, 15, 16, 17, 18, 19, 20, 21, 22, 23, 24, 25, 26] else [], told := fun i => [] }
theorem rec_All_eq (t0 : Value) (w : World) (K : K1) : reads Try.prog rec_All_ann Try.f14 #[t0] w K = rec_All K t0 w := by kernel_rfl
theorem rec_All_of {t0 : Value} {w : World} {K : K1} (h : rec_All K t0 w) : Yld Try.prog n_rec_All #[t0] w K :=
  yld_of mixed rec_All_ann Try.func14 (by kernel_rfl) (rec_All_eq t0 w K) h

/-! (loam/rec.Record).check: function 15 -/
def rec_Record_check (K : K1) (t0 : Value) (w : World) : Prop :=
 xBox Try.prog 27 t0 w fun t1 w =>
 xFieldAddr Try.prog 27 t1 0 w fun t4 w =>
 xLoad Try.prog 3 t4 w fun t5 w =>
 xBin Try.prog .lss 3 false t5 true (.int .i64 1) w fun t6 w =>
 xGuard t6 false (fun w K => xFieldAddr Try.prog 27 t1 0 w K) w fun t8 w =>
 xGuard t6 false (fun w K => xLoad Try.prog 3 t8 w K) w fun t9 w =>
 xGuard t6 false (fun w K => xBin Try.prog .gtr 3 false t9 true (.int .i64 3) w K) w fun t10 w =>
 xPick t6 (.bool true) t10 w fun t11 w =>
 xIf t11
 (K (.int .i64 1) w)
 (xFieldAddr Try.prog 27 t1 0 w fun t13 w =>
 xLoad Try.prog 3 t13 w fun t14 w =>
 xBin Try.prog .neq 3 false t14 true (.int .i64 1) w fun t15 w =>
 xGuard t15 true (fun w K => xFieldAddr Try.prog 27 t1 2 w K) w fun t17 w =>
 xGuard t15 true (fun w K => xLoad Try.prog 24 t17 w K) w fun t18 w =>
 xGuard t15 true (fun w K => xBuild Try.prog 24 [] w K) w fun t19 w =>
 xGuard t15 true (fun w K => xBin Try.prog .neq 24 false t18 false t19 w K) w fun t20 w =>
 xPick t15 t20 (.bool false) w fun t21 w =>
 xIf t21
 (K (.int .i64 1) w)
 (xFieldAddr Try.prog 27 t1 2 w fun t23 w =>
 xFieldAddr Try.prog 24 t23 0 w fun t24 w =>
 xLoad Try.prog 3 t24 w fun t25 w =>
 xBin Try.prog .lss 3 false t25 true (.int .i64 0) w fun t26 w =>
 xGuard t26 false (fun w K => xFieldAddr Try.prog 27 t1 2 w K) w fun t28 w =>
 xGuard t26 false (fun w K => xFieldAddr Try.prog 24 t28 0 w K) w fun t29 w =>
 xGuard t26 false (fun w K => xLoad Try.prog 3 t29 w K) w fun t30 w =>
 xGuard t26 false (fun w K => xBin Try.prog .gtr 3 false t30 true (.int .i64 1) w K) w fun t31 w =>
 xPick t26 (.bool true) t31 w fun t32 w =>
 xGuard t32 false (fun w K => xFieldAddr Try.prog 27 t1 2 w K) w fun t34 w =>
 xGuard t32 false (fun w K => xFieldAddr Try.prog 24 t34 1 w K) w fun t35 w =>
 xGuard t32 false (fun w K => xLoad Try.prog 3 t35 w K) w fun t36 w =>
 xGuard t32 false (fun w K => xBin Try.prog .lss 3 false t36 true (.int .i64 0) w K) w fun t37 w =>
 xPick t32 (.bool true) t37 w fun t38 w =>
 xGuard t38 false (fun w K => xFieldAddr Try.prog 27 t1 2 w K) w fun t40 w =>
 xGuard t38 false (fun w K => xFieldAddr Try.prog 24 t40 1 w K) w fun t41 w =>
 xGuard t38 false (fun w K => xLoad Try.prog 3 t41 w K) w fun t42 w =>
 xGuard t38 false (fun w K => xBin Try.prog .gtr 3 false t42 true (.int .i64 65535) w K) w fun t43 w =>
 xPick t38 (.bool true) t43 w fun t44 w =>
 xIf t44
 (K (.int .i64 1) w)
 (xFieldAddr Try.prog 27 t1 3 w fun t46 w =>
 xLoad Try.prog 25 t46 w fun t47 w =>
 xBuiltin Try.prog .len #[25] 3 [false] [t47] w fun t48 w =>
 xBin Try.prog .gtr 3 false t48 true (.int .i64 4096) w fun t49 w =>
 xIf t49
 (K (.int .i64 3) w)
 (K (.int .i64 0) w))))
abbrev n_rec_Record_check : Nat := 15
def rec_Record_check_ann : Ann := { loop := fun i => [], wr := fun i => [], told := fun i => [] }
theorem rec_Record_check_eq (t0 : Value) (w : World) (K : K1) : reads Try.prog rec_Record_check_ann Try.f15 #[t0] w K = rec_Record_check K t0 w := by kernel_rfl
theorem rec_Record_check_of {t0 : Value} {w : World} {K : K1} (h : rec_Record_check K t0 w) : Yld Try.prog n_rec_Record_check #[t0] w K :=
  yld_of mixed rec_Record_check_ann Try.func15 (by kernel_rfl) (rec_Record_check_eq t0 w K) h

/-! (*loam/codec.Enc).Uint: function 16 -/
def codec_Enc_Uint_l1 (K : K1) (nxt0 : List Value → World → Prop) (t0 t1 : Value) (w : World) : Prop :=
 xBin Try.prog .geq 22 false t1 true (c64 128) w fun t5_1 w =>
 xIf t5_1
 (xNilCheck t0 w fun t8_1 w =>
 xFieldAddr Try.prog 51 t8_1 0 w fun t9_1 w =>
 xLoad Try.prog 25 t9_1 w fun t10_1 w =>
 xBin Try.prog .and 22 false t1 true (c64 127) w fun t12_1 w =>
 xConv Try.prog 22 5 t12_1 w fun t13_1 w =>
 xBin Try.prog .or 5 false t13_1 true (c8 128) w fun t14_1 w =>
 xBuildSlice Try.prog 25 1 [(0, t14_1)] w fun t15_1 w =>
 xBuiltin Try.prog .append #[25, 25] 25 [false, false] [t10_1, t15_1] w fun t16_1 w =>
 xNilCheck t0 w fun t17_1 w =>
 xFieldAddr Try.prog 51 t17_1 0 w fun t18_1 w =>
 xStore Try.prog 25 t18_1 t16_1 w fun _ w =>
 xBin Try.prog .shr 22 false t1 true (c64 7) w fun t20_1 w =>
 nxt0 [t20_1] w)
 (xNilCheck t0 w fun t23 w =>
 xFieldAddr Try.prog 51 t23 0 w fun t24 w =>
 xLoad Try.prog 25 t24 w fun t25 w =>
 xConv Try.prog 22 5 t1 w fun t27 w =>
 xBuildSlice Try.prog 25 1 [(0, t27)] w fun t28 w =>
 xBuiltin Try.prog .append #[25, 25] 25 [false, false] [t25, t28] w fun t29 w =>
 xNilCheck t0 w fun t30 w =>
 xFieldAddr Try.prog 51 t30 0 w fun t31 w =>
 xStore Try.prog 25 t31 t29 w fun _ w =>
 K (.tuple #[]) w)
def codec_Enc_Uint (K : K1) (t0 t1 : Value) (w : World) : Prop :=
 xLoop [t1] w [1] fun u w nxt0 =>
 codec_Enc_Uint_l1 K nxt0 t0 (u 1) w
abbrev n_codec_Enc_Uint : Nat := 16
def codec_Enc_Uint_ann : Ann := { loop := fun i => bif Nat.beq i 0 then [1] else [], wr := fun i => bif Nat.beq i 0 then [1, 4, 5, 6, 7, 8, 9, 10, 11, 12, 13, 14, 15, 16, 17, 18, 19, 20] else [], told := fun i => [] }
theorem codec_Enc_Uint_eq (t0 t1 : Value) (w : World) (K : K1) : reads Try.prog codec_Enc_Uint_ann Try.f16 #[t0, t1] w K = codec_Enc_Uint K t0 t1 w := by kernel_rfl
theorem codec_Enc_Uint_of {t0 t1 : Value} {w : World} {K : K1} (h : codec_Enc_Uint K t0 t1 w) : Yld Try.prog n_codec_Enc_Uint #[t0, t1] w K :=
  yld_of mixed codec_Enc_Uint_ann Try.func16 (by kernel_rfl) (codec_Enc_Uint_eq t0 t1 w K) h

/-! (*loam/codec.Enc).Raw: function 17 -/
def codec_Enc_Raw (K : K1) (t0 t1 : Value) (w : World) : Prop :=
 xBuiltin Try.prog .len #[25] 3 [false] [t1] w fun t6 w =>
 xConv Try.prog 3 22 t6 w fun t7 w =>
 xCall Try.prog (fnv 16) [t0, t7] w fun t8 w =>
 xNilCheck t0 w fun t11 w =>
 xFieldAddr Try.prog 51 t11 0 w fun t12 w =>
 xLoad Try.prog 25 t12 w fun t13 w =>
 xBuiltin Try.prog .append #[25, 25] 25 [false, false] [t13, t1] w fun t15 w =>
 xNilCheck t0 w fun t16 w =>
 xFieldAddr Try.prog 51 t16 0 w fun t17 w =>
 xStore Try.prog 25 t17 t15 w fun _ w =>
 K (.tuple #[]) w
abbrev n_codec_Enc_Raw : Nat := 17
def codec_Enc_Raw_ann : Ann := { loop := fun i => [], wr := fun i => [], told := fun i => [] }
theorem codec_Enc_Raw_eq (t0 t1 : Value) (w : World) (K : K1) : reads Try.prog codec_Enc_Raw_ann Try.f17 #[t0, t1] w K = codec_Enc_Raw K t0 t1 w := by kernel_rfl
theorem codec_Enc_Raw_of {t0 t1 : Value} {w : World} {K : K1} (h : codec_Enc_Raw K t0 t1 w) : Yld Try.prog n_codec_Enc_Raw #[t0, t1] w K :=
  yld_of mixed codec_Enc_Raw_ann Try.func17 (by kernel_rfl) (codec_Enc_Raw_eq t0 t1 w K) h

/-! loam/crc.Seal: function 18 -/
def crc_Seal (K : K1) (t0 : Value) (w : World) : Prop :=
 xBuiltin Try.prog .len #[25] 3 [false] [t0] w fun t5 w =>
 xBin Try.prog .add 3 false t5 true (.int .i64 4) w fun t6 w =>
 xMakeSlice Try.prog 25 t6 t6 w fun t7 w =>
 xBuiltin Try.prog .copy #[25, 25] 3 [false, false] [t7, t0] w fun t10 w =>
 xBuiltin Try.prog .len #[25] 3 [false] [t0] w fun t14 w =>
 xBuildSlice Try.prog 73 1 [(0, t0)] w fun t16 w =>
 xCall Try.prog (fnv 31) [t16] w fun t17 w =>
 xConv Try.prog 58 22 t17 w fun t18 w =>
 xCall Try.prog (fnv 30) [t7, t14, (.int .i64 4), t18] w fun t19 w =>
 xExtract Try.prog t19 0 w fun t20 w =>
 xExtract Try.prog t19 1 w fun t21 w =>
 K t20 w
abbrev n_crc_Seal : Nat := 18
def crc_Seal_ann : Ann := { loop := fun i => [], wr := fun i => [], told := fun i => [] }
theorem crc_Seal_eq (t0 : Value) (w : World) (K : K1) : reads Try.prog crc_Seal_ann Try.f18 #[t0] w K = crc_Seal K t0 w := by kernel_rfl
theorem crc_Seal_of {t0 : Value} {w : World} {K : K1} (h : crc_Seal K t0 w) : Yld Try.prog n_crc_Seal #[t0] w K :=
  yld_of mixed crc_Seal_ann Try.func18 (by kernel_rfl) (crc_Seal_eq t0 w K) h

/-! (*loam/codec.Enc).Bytes: function 19 -/
def codec_Enc_Bytes (K : K1) (t0 : Value) (w : World) : Prop :=
 xNilCheck t0 w fun t4 w =>
 xFieldAddr Try.prog 51 t4 0 w fun t5 w =>
 xLoad Try.prog 25 t5 w fun t6 w =>
 xCall Try.prog (fnv 33) [t6] w fun t7 w =>
 xCall Try.prog (fnv 32) [t7] w fun t8 w =>
 K t8 w
abbrev n_codec_Enc_Bytes : Nat := 19
def codec_Enc_Bytes_ann : Ann := { loop := fun i => [], wr := fun i => [], told := fun i => [] }
theorem codec_Enc_Bytes_eq (t0 : Value) (w : World) (K : K1) : reads Try.prog codec_Enc_Bytes_ann Try.f19 #[t0] w K = codec_Enc_Bytes K t0 w := by kernel_rfl
theorem codec_Enc_Bytes_of {t0 : Value} {w : World} {K : K1} (h : codec_Enc_Bytes K t0 w) : Yld Try.prog n_codec_Enc_Bytes #[t0] w K :=
  yld_of mixed codec_Enc_Bytes_ann Try.func19 (by kernel_rfl) (codec_Enc_Bytes_eq t0 w K) h

/-! loam/loamref5.Uint: function 20 -/
def loamref5_Uint_l1 (K : K1) (nxt0 : List Value → World → Prop) (t0 t3 : Value) (w : World) : Prop :=
 xBin Try.prog .geq 22 false t0 true (c64 128) w fun t5_1 w =>
 xIf t5_1
 (xBin Try.prog .and 22 false t0 true (c64 127) w fun t8_1 w =>
 xBin Try.prog .or 22 false t8_1 true (c64 128) w fun t9_1 w =>
 xConv Try.prog 22 5 t9_1 w fun t10_1 w =>
 xBuildSlice Try.prog 25 1 [(0, t10_1)] w fun t11_1 w =>
 xBuiltin Try.prog .append #[25, 25] 25 [false, false] [t3, t11_1] w fun t12_1 w =>
 xBin Try.prog .shr 22 false t0 true (c64 7) w fun t14_1 w =>
 nxt0 [t14_1, t12_1] w)
 (xConv Try.prog 22 5 t0 w fun t17 w =>
 xBuildSlice Try.prog 25 1 [(0, t17)] w fun t18 w =>
 xBuiltin Try.prog .append #[25, 25] 25 [false, false] [t3, t18] w fun t19 w =>
 K t19 w)
def loamref5_Uint (K : K1) (t0 : Value) (w : World) : Prop :=
 xLoop [t0, (.slice none 0 0)] w [0, 3] fun u w nxt0 =>
 loamref5_Uint_l1 K nxt0 (u 0) (u 3) w
abbrev n_loamref5_Uint : Nat := 20
def loamref5_Uint_ann : Ann := { loop := fun i => bif Nat.beq i 0 then [0, 3] else [], wr := fun i => bif Nat.beq i 0 then [0, 3, 4, 5, 6, 7, 8, 9, 10, 11, 12, 13, 14] else [], told := fun i => [] }
theorem loamref5_Uint_eq (t0 : Value) (w : World) (K : K1) : reads Try.prog loamref5_Uint_ann Try.f20 #[t0] w K = loamref5_Uint K t0 w := by kernel_rfl
theorem loamref5_Uint_of {t0 : Value} {w : World} {K : K1} (h : loamref5_Uint K t0 w) : Yld Try.prog n_loamref5_Uint #[t0] w K :=
  yld_of mixed loamref5_Uint_ann Try.func20 (by kernel_rfl) (loamref5_Uint_eq t0 w K) h

/-! loam/loamref5.Raw: function 21 -/
def loamref5_Raw (K : K1) (t0 : Value) (w : World) : Prop :=
 xBuiltin Try.prog .len #[25] 3 [false] [t0] w fun t4 w =>
 xConv Try.prog 3 22 t4 w fun t5 w =>
 xCall Try.prog (fnv 20) [t5] w fun t6 w =>
 xBuiltin Try.prog .append #[25, 25] 25 [false, false] [t6, t0] w fun t8 w =>
 K t8 w
abbrev n_loamref5_Raw : Nat := 21
def loamref5_Raw_ann : Ann := { loop := fun i => [], wr := fun i => [], told := fun i => [] }
theorem loamref5_Raw_eq (t0 : Value) (w : World) (K : K1) : reads Try.prog loamref5_Raw_ann Try.f21 #[t0] w K = loamref5_Raw K t0 w := by kernel_rfl
theorem loamref5_Raw_of {t0 : Value} {w : World} {K : K1} (h : loamref5_Raw K t0 w) : Yld Try.prog n_loamref5_Raw #[t0] w K :=
  yld_of mixed loamref5_Raw_ann Try.func21 (by kernel_rfl) (loamref5_Raw_eq t0 w K) h

/-! loam/loamref2.Low: function 22 -/
def loamref2_Low (K : K1) (t0 : Value) (w : World) : Prop :=
 xConv Try.prog 58 5 t0 w fun t4 w =>
 xBin Try.prog .shr 58 false t0 true (c64 8) w fun t6 w =>
 xConv Try.prog 58 5 t6 w fun t7 w =>
 xBin Try.prog .shr 58 false t0 true (c64 16) w fun t9 w =>
 xConv Try.prog 58 5 t9 w fun t10 w =>
 xBin Try.prog .shr 58 false t0 true (c64 24) w fun t12 w =>
 xConv Try.prog 58 5 t12 w fun t13 w =>
 xBuildSlice Try.prog 25 4 [(0, t4), (1, t7), (2, t10), (3, t13)] w fun t14 w =>
 K t14 w
abbrev n_loamref2_Low : Nat := 22
def loamref2_Low_ann : Ann := { loop := fun i => [], wr := fun i => [], told := fun i => [] }
theorem loamref2_Low_eq (t0 : Value) (w : World) (K : K1) : reads Try.prog loamref2_Low_ann Try.f22 #[t0] w K = loamref2_Low K t0 w := by kernel_rfl
theorem loamref2_Low_of {t0 : Value} {w : World} {K : K1} (h : loamref2_Low K t0 w) : Yld Try.prog n_loamref2_Low #[t0] w K :=
  yld_of mixed loamref2_Low_ann Try.func22 (by kernel_rfl) (loamref2_Low_eq t0 w K) h

/-! loam/loamref2.Sum: function 23 -/
def loamref2_Sum_j1 (K : K1) (nxt2 : List Value → World → Prop) (t3 t5 : Value) (w : World) : Prop :=
 xBin Try.prog .add 3 false t5 true (.int .i64 1) w fun t23_1 w =>
 nxt2 [t3, t23_1] w
def loamref2_Sum_l2 (K : K1) (nxt0 : List Value → World → Prop) (nxt2 : List Value → World → Prop) (t3 t4 t5 : Value) (w : World) : Prop :=
 xBin Try.prog .lss 3 false t5 true (.int .i64 8) w fun t21_1 w =>
 xIf t21_1
 (xBin Try.prog .and 58 false t3 true (c32 1) w fun t25_1 w =>
 xBin Try.prog .shr 58 false t3 true (c64 1) w fun t27_1 w =>
 xBin Try.prog .eql 58 false t25_1 true (c32 1) w fun t29_1 w =>
 xIf t29_1
 (xBin Try.prog .xor 58 false t27_1 true (c32 3988292384) w fun t31_1 w =>
 loamref2_Sum_j1 K nxt2 t31_1 t5 w)
 (loamref2_Sum_j1 K nxt2 t27_1 t5 w))
 (xBin Try.prog .add 3 false t4 true (.int .i64 1) w fun t12_1 w =>
 nxt0 [t3, t12_1] w)
def loamref2_Sum_l1 (K : K1) (nxt0 : List Value → World → Prop) (t0 t3 t4 : Value) (w : World) : Prop :=
 xBuiltin Try.prog .len #[25] 3 [false] [t0] w fun t9_1 w =>
 xBin Try.prog .lss 3 false t4 false t9_1 w fun t10_1 w =>
 xIf t10_1
 (xIndexAddr Try.prog 25 t0 t4 w fun t16_1 w =>
 xLoad Try.prog 5 t16_1 w fun t17_1 w =>
 xConv Try.prog 5 58 t17_1 w fun t18_1 w =>
 xBin Try.prog .xor 58 false t3 false t18_1 w fun t19_1 w =>
 xLoop [t19_1, (.int .i64 0)] w [3, 5] fun u w nxt2 =>
 loamref2_Sum_l2 K nxt0 nxt2 (u 3) t4 (u 5) w)
 (xUn Try.prog .xor t3 w fun t33 w =>
 K t33 w)
def loamref2_Sum (K : K1) (t0 : Value) (w : World) : Prop :=
 xLoop [(c32 4294967295), (.int .i64 0)] w [3, 4] fun u w nxt0 =>
 loamref2_Sum_l1 K nxt0 t0 (u 3) (u 4) w
abbrev n_loamref2_Sum : Nat := 23
def loamref2_Sum_ann : Ann := { loop := fun i => bif Nat.beq i 2 then [3, 5] else bif Nat.beq i 0 then [3, 4] else [], wr := fun i => bif Nat.beq i 2 then [3, 5, 6, 20, 21, 22, 23, 24, 25, 26, 27, 28, 29, 30, 31] else bif Nat.beq i 0 then [3, 4, 5, 6, 7, 8, 9, 10, 11, 12, 13, 14, 15, 16, 17, 18, 19, 20, 21, 22, 23, 24, 25, 26, 27, 28, 29, 30, 31] else [], told := fun i => [] }
theorem loamref2_Sum_eq (t0 : Value) (w : World) (K : K1) : reads Try.prog loamref2_Sum_ann Try.f23 #[t0] w K = loamref2_Sum K t0 w := by kernel_rfl
theorem loamref2_Sum_of {t0 : Value} {w : World} {K : K1} (h : loamref2_Sum K t0 w) : Yld Try.prog n_loamref2_Sum #[t0] w K :=
  yld_of mixed loamref2_Sum_ann Try.func23 (by kernel_rfl) (loamref2_Sum_eq t0 w K) h

/-! loam/codec.Of: function 24 -/
def codec_Of (K : K1) (t0 : Value) (w : World) : Prop :=
 xCall Try.prog (fnv 33) [t0] w fun t4 w =>
 xBuild Try.prog 70 [(0, t4)] w fun t5 w =>
 xBox Try.prog 70 t5 w fun t6 w =>
 K t6 w
abbrev n_codec_Of : Nat := 24
def codec_Of_ann : Ann := { loop := fun i => [], wr := fun i => [], told := fun i => [] }
theorem codec_Of_eq (t0 : Value) (w : World) (K : K1) : reads Try.prog codec_Of_ann Try.f24 #[t0] w K = codec_Of K t0 w := by kernel_rfl
theorem codec_Of_of {t0 : Value} {w : World} {K : K1} (h : codec_Of K t0 w) : Yld Try.prog n_codec_Of #[t0] w K :=
  yld_of mixed codec_Of_ann Try.func24 (by kernel_rfl) (codec_Of_eq t0 w K) h

/-! (*loam/codec.Dec).Raw: function 25 -/
def codec_Dec_Raw (K : K1) (t0 : Value) (w : World) : Prop :=
 xCall Try.prog (fnv 35) [t0] w fun t5 w =>
 xCall Try.prog (fnv 34) [t0, t5, (.int .i64 1)] w fun t6 w =>
 K t6 w
abbrev n_codec_Dec_Raw : Nat := 25
def codec_Dec_Raw_ann : Ann := { loop := fun i => [], wr := fun i => [], told := fun i => [] }
theorem codec_Dec_Raw_eq (t0 : Value) (w : World) (K : K1) : reads Try.prog codec_Dec_Raw_ann Try.f25 #[t0] w K = codec_Dec_Raw K t0 w := by kernel_rfl
theorem codec_Dec_Raw_of {t0 : Value} {w : World} {K : K1} (h : codec_Dec_Raw K t0 w) : Yld Try.prog n_codec_Dec_Raw #[t0] w K :=
  yld_of mixed codec_Dec_Raw_ann Try.func25 (by kernel_rfl) (codec_Dec_Raw_eq t0 w K) h

/-! (*loam/codec.Dec).Err: function 26 -/
def codec_Dec_Err (K : K1) (t0 : Value) (w : World) : Prop :=
 xNilCheck t0 w fun t4 w =>
 xFieldAddr Try.prog 70 t4 1 w fun t5 w =>
 xLoad Try.prog 29 t5 w fun t6 w =>
 K t6 w
abbrev n_codec_Dec_Err : Nat := 26
def codec_Dec_Err_ann : Ann := { loop := fun i => [], wr := fun i => [], told := fun i => [] }
theorem codec_Dec_Err_eq (t0 : Value) (w : World) (K : K1) : reads Try.prog codec_Dec_Err_ann Try.f26 #[t0] w K = codec_Dec_Err K t0 w := by kernel_rfl
theorem codec_Dec_Err_of {t0 : Value} {w : World} {K : K1} (h : codec_Dec_Err K t0 w) : Yld Try.prog n_codec_Dec_Err #[t0] w K :=
  yld_of mixed codec_Dec_Err_ann Try.func26 (by kernel_rfl) (codec_Dec_Err_eq t0 w K) h

/-! (*loam/codec.Dec).Left: function 27 -/
def codec_Dec_Left (K : K1) (t0 : Value) (w : World) : Prop :=
 xNilCheck t0 w fun t4 w =>
 xFieldAddr Try.prog 70 t4 0 w fun t5 w =>
 xLoad Try.prog 25 t5 w fun t6 w =>
 xBuiltin Try.prog .len #[25] 3 [false] [t6] w fun t7 w =>
 K t7 w
abbrev n_codec_Dec_Left : Nat := 27
def codec_Dec_Left_ann : Ann := { loop := fun i => [], wr := fun i => [], told := fun i => [] }
theorem codec_Dec_Left_eq (t0 : Value) (w : World) (K : K1) : reads Try.prog codec_Dec_Left_ann Try.f27 #[t0] w K = codec_Dec_Left K t0 w := by kernel_rfl
theorem codec_Dec_Left_of {t0 : Value} {w : World} {K : K1} (h : codec_Dec_Left K t0 w) : Yld Try.prog n_codec_Dec_Left #[t0] w K :=
  yld_of mixed codec_Dec_Left_ann Try.func27 (by kernel_rfl) (codec_Dec_Left_eq t0 w K) h

/-! loam/rec.parse: function 28 -/
def rec_parse_j1 (K : K1) (t2 t3 t4 : Value) (w : World) : Prop :=
 xCall Try.prog (fnv 25) [t3] w fun t25_1 w =>
 xFieldAddr Try.prog 27 t4 3 w fun t26_1 w =>
 xStore Try.prog 25 t26_1 t25_1 w fun _ w =>
 xLoad Try.prog 27 t4 w fun t27_1 w =>
 xStore Try.prog 27 t2 t27_1 w fun _ w =>
 xLoadR Try.prog 27 t2 w fun r0 =>
 K r0 w
def rec_parse (K : K1) (t0 : Value) (w : World) : Prop :=
 xAlloc Try.prog 27 w fun t2 w =>
 xCall Try.prog (fnv 24) [t0] w fun t6 w =>
 xCall Try.prog (fnv 35) [t6] w fun t8 w =>
 xConv Try.prog 22 3 t8 w fun t9 w =>
 xCall Try.prog (fnv 35) [t6] w fun t11 w =>
 xBuild Try.prog 27 [(0, t9), (1, t11)] w fun t12 w =>
 xAlloc Try.prog 27 w fun t4 w =>
 xStore Try.prog 27 t4 t12 w fun _ w =>
 xFieldAddr Try.prog 27 t4 0 w fun t13 w =>
 xLoad Try.prog 3 t13 w fun t14 w =>
 xBin Try.prog .eql 3 false t14 true (.int .i64 1) w fun t15 w =>
 xIf t15
 (xCall Try.prog (fnv 35) [t6] w fun t17 w =>
 xConv Try.prog 22 3 t17 w fun t18 w =>
 xCall Try.prog (fnv 35) [t6] w fun t20 w =>
 xConv Try.prog 22 3 t20 w fun t21 w =>
 xBuild Try.prog 24 [(0, t18), (1, t21)] w fun t22 w =>
 xFieldAddr Try.prog 27 t4 2 w fun t23 w =>
 xStore Try.prog 24 t23 t22 w fun _ w =>
 rec_parse_j1 K t2 t6 t4 w)
 (rec_parse_j1 K t2 t6 t4 w)
abbrev n_rec_parse : Nat := 28
def rec_parse_ann : Ann := { loop := fun i => [], wr := fun i => [], told := fun i => [] }
theorem rec_parse_eq (t0 : Value) (w : World) (K : K1) : reads Try.prog rec_parse_ann Try.f28 #[t0] w K = rec_parse K t0 w := by kernel_rfl
theorem rec_parse_of {t0 : Value} {w : World} {K : K1} (h : rec_parse K t0 w) : Yld Try.prog n_rec_parse #[t0] w K :=
  yld_of mixed rec_parse_ann Try.func28 (by kernel_rfl) (rec_parse_eq t0 w K) h

/-! bytes.Equal: function 29 -/
def bytes_Equal (K : K1) (t0 t1 : Value) (w : World) : Prop :=
 xConv Try.prog 25 9 t0 w fun t6 w =>
 xConv Try.prog 25 9 t1 w fun t8 w =>
 xBin Try.prog .eql 9 false t6 false t8 w fun t9 w =>
 K t9 w
abbrev n_bytes_Equal : Nat := 29
def bytes_Equal_ann : Ann := { loop := fun i => [], wr := fun i => [], told := fun i => [] }
theorem bytes_Equal_eq (t0 t1 : Value) (w : World) (K : K1) : reads Try.prog bytes_Equal_ann Try.f29 #[t0, t1] w K = bytes_Equal K t0 t1 w := by kernel_rfl
theorem bytes_Equal_of {t0 t1 : Value} {w : World} {K : K1} (h : bytes_Equal K t0 t1 w) : Yld Try.prog n_bytes_Equal #[t0, t1] w K :=
  yld_of mixed bytes_Equal_ann Try.func29 (by kernel_rfl) (bytes_Equal_eq t0 t1 w K) h

/-! loam/bits.Put: function 30 -/
def bits_Put_l1 (K : K1) (nxt0 : List Value → World → Prop) (t1 t3 t10 t24 t25 : Value) (w : World) : Prop :=
 xBin Try.prog .lss 3 false t25 false t24 w fun t26_1 w =>
 xIf t26_1
 (xBin Try.prog .add 3 false t1 false t25 w fun t31_1 w =>
 xBin Try.prog .mul 3 true (.int .i64 8) false t25 w fun t34_1 w =>
 xBin Try.prog .shr 22 false t3 false t34_1 w fun t35_1 w =>
 xConv Try.prog 22 5 t35_1 w fun t36_1 w =>
 xIndexAddr Try.prog 25 t10 t31_1 w fun t37_1 w =>
 xStore Try.prog 5 t37_1 t36_1 w fun _ w =>
 xBin Try.prog .add 3 false t25 true (.int .i64 1) w fun t38_1 w =>
 nxt0 [t38_1] w)
 (K (.tuple #[t10, (.int .i64 0)]) w)
def bits_Put (K : K1) (t0 t1 t2 t3 : Value) (w : World) : Prop :=
 xBuiltin Try.prog .len #[25] 3 [false] [t0] w fun t15 w =>
 xCall Try.prog (fnv 36) [t1, t2, t15] w fun t16 w =>
 xUn Try.prog .not t16 w fun t17 w =>
 xIf t17
 (K (.tuple #[(.slice none 0 0), (.int .i64 1)]) w)
 (xBuiltin Try.prog .len #[25] 3 [false] [t0] w fun t19 w =>
 xMakeSlice Try.prog 25 t19 t19 w fun t20 w =>
 xBuiltin Try.prog .copy #[25, 25] 3 [false, false] [t20, t0] w fun t23 w =>
 xLoop [(.int .i64 0)] w [25] fun u w nxt0 =>
 bits_Put_l1 K nxt0 t1 t3 t20 t2 (u 25) w)
abbrev n_bits_Put : Nat := 30
def bits_Put_ann : Ann := { loop := fun i => bif Nat.beq i 0 then [25] else [], wr := fun i => bif Nat.beq i 0 then [11, 25, 26, 27, 28, 29, 30, 31, 32, 33, 34, 35, 36, 37, 38] else [], told := fun i => [] }
theorem bits_Put_eq (t0 t1 t2 t3 : Value) (w : World) (K : K1) : reads Try.prog bits_Put_ann Try.f30 #[t0, t1, t2, t3] w K = bits_Put K t0 t1 t2 t3 w := by kernel_rfl
theorem bits_Put_of {t0 t1 t2 t3 : Value} {w : World} {K : K1} (h : bits_Put K t0 t1 t2 t3 w) : Yld Try.prog n_bits_Put #[t0, t1, t2, t3] w K :=
  yld_of mixed bits_Put_ann Try.func30 (by kernel_rfl) (bits_Put_eq t0 t1 t2 t3 w K) h

/-! loam/crc.Sum: function 31 -/
def crc_Sum_l1 (K : K1) (nxt0 : List Value → World → Prop) (t3 t6 t7 t8 : Value) (w : World) : Prop :=
 xBin Try.prog .lss 3 false t8 false t7 w fun t9_1 w =>
 xIf t9_1
 (xIndexAddr Try.prog 73 t6 t8 w fun t10_1 w =>
 xLoad Try.prog 25 t10_1 w fun t11_1 w =>
 xCall Try.prog (fnv 37) [t3, t11_1] w fun t14_1 w =>
 xBin Try.prog .add 3 false t8 true (.int .i64 1) w fun t15_1 w =>
 nxt0 [t14_1, t15_1] w)
 (K t3 w)
def crc_Sum (K : K1) (t0 : Value) (w : World) : Prop :=
 xBuiltin Try.prog .len #[73] 3 [false] [t0] w fun t7 w =>
 xLoop [(c32 0), (.int .i64 0)] w [3, 8] fun u w nxt0 =>
 crc_Sum_l1 K nxt0 (u 3) t0 t7 (u 8) w
abbrev n_crc_Sum : Nat := 31
def crc_Sum_ann : Ann := { loop := fun i => bif Nat.beq i 0 then [3, 8] else [], wr := fun i => bif Nat.beq i 0 then [3, 5, 8, 9, 10, 11, 12, 13, 14, 15] else [], told := fun i => [] }
theorem crc_Sum_eq (t0 : Value) (w : World) (K : K1) : reads Try.prog crc_Sum_ann Try.f31 #[t0] w K = crc_Sum K t0 w := by kernel_rfl
theorem crc_Sum_of {t0 : Value} {w : World} {K : K1} (h : crc_Sum K t0 w) : Yld Try.prog n_crc_Sum #[t0] w K :=
  yld_of mixed crc_Sum_ann Try.func31 (by kernel_rfl) (crc_Sum_eq t0 w K) h

/-! slices.Clip[[]byte,byte]: function 32 -/
def slices_Clip_byte_byte (K : K1) (t0 : Value) (w : World) : Prop :=
 xBuiltin Try.prog .len #[25] 3 [false] [t0] w fun t5 w =>
 xBuiltin Try.prog .len #[25] 3 [false] [t0] w fun t7 w =>
 xSlice Try.prog 25 t0 none (some t5) (some t7) w fun t8 w =>
 K t8 w
abbrev n_slices_Clip_byte_byte : Nat := 32
def slices_Clip_byte_byte_ann : Ann := { loop := fun i => [], wr := fun i => [], told := fun i => [] }
theorem slices_Clip_byte_byte_eq (t0 : Value) (w : World) (K : K1) : reads Try.prog slices_Clip_byte_byte_ann Try.f32 #[t0] w K = slices_Clip_byte_byte K t0 w := by kernel_rfl
theorem slices_Clip_byte_byte_of {t0 : Value} {w : World} {K : K1} (h : slices_Clip_byte_byte K t0 w) : Yld Try.prog n_slices_Clip_byte_byte #[t0] w K :=
  yld_of mixed slices_Clip_byte_byte_ann Try.func32 (by kernel_rfl) (slices_Clip_byte_byte_eq t0 w K) h

/-! slices.Clone[[]byte,byte]: function 33 -/
def slices_Clone_byte_byte (K : K1) (t0 : Value) (w : World) : Prop :=
 xBin Try.prog .eql 25 false t0 true (.slice none 0 0) w fun t4 w =>
 xIf t4
 (K (.slice none 0 0) w)
 (xBuildSlice Try.prog 25 0 [] w fun t5 w =>
 xBuiltin Try.prog .append #[25, 25] 25 [false, false] [t5, t0] w fun t7 w =>
 K t7 w)
abbrev n_slices_Clone_byte_byte : Nat := 33
def slices_Clone_byte_byte_ann : Ann := { loop := fun i => [], wr := fun i => [], told := fun i => [] }
theorem slices_Clone_byte_byte_eq (t0 : Value) (w : World) (K : K1) : reads Try.prog slices_Clone_byte_byte_ann Try.f33 #[t0] w K = slices_Clone_byte_byte K t0 w := by kernel_rfl
theorem slices_Clone_byte_byte_of {t0 : Value} {w : World} {K : K1} (h : slices_Clone_byte_byte K t0 w) : Yld Try.prog n_slices_Clone_byte_byte #[t0] w K :=
  yld_of mixed slices_Clone_byte_byte_ann Try.func33 (by kernel_rfl) (slices_Clone_byte_byte_eq t0 w K) h

/-! (*loam/codec.Dec).take: function 34 -/
def codec_Dec_take (K : K1) (t0 t1 t2 : Value) (w : World) : Prop :=
 xNilCheck t0 w fun t10 w =>
 xFieldAddr Try.prog 70 t10 0 w fun t11 w =>
 xLoad Try.prog 25 t11 w fun t12 w =>
 xBuiltin Try.prog .len #[25] 3 [false] [t12] w fun t13 w =>
 xBin Try.prog .quo 3 false t13 false t2 w fun t15 w =>
 xConv Try.prog 3 22 t15 w fun t16 w =>
 xBin Try.prog .gtr 22 false t1 false t16 w fun t17 w =>
 xIf t17
 (xCall Try.prog (fnv 38) [t0, (.int .i64 3)] w fun t19 w =>
 K (.slice none 0 0) w)
 (xNilCheck t0 w fun t21 w =>
 xFieldAddr Try.prog 70 t21 0 w fun t22 w =>
 xLoad Try.prog 25 t22 w fun t23 w =>
 xConv Try.prog 22 3 t1 w fun t25 w =>
 xBin Try.prog .mul 3 false t25 false t2 w fun t27 w =>
 xSlice Try.prog 25 t23 none (some t27) none w fun t28 w =>
 xCall Try.prog (fnv 33) [t28] w fun t29 w =>
 xCall Try.prog (fnv 32) [t29] w fun t30 w =>
 xNilCheck t0 w fun t33 w =>
 xFieldAddr Try.prog 70 t33 0 w fun t34 w =>
 xLoad Try.prog 25 t34 w fun t35 w =>
 xConv Try.prog 22 3 t1 w fun t37 w =>
 xBin Try.prog .mul 3 false t37 false t2 w fun t39 w =>
 xSlice Try.prog 25 t35 (some t39) none none w fun t40 w =>
 xNilCheck t0 w fun t41 w =>
 xFieldAddr Try.prog 70 t41 0 w fun t42 w =>
 xStore Try.prog 25 t42 t40 w fun _ w =>
 K t30 w)
abbrev n_codec_Dec_take : Nat := 34
def codec_Dec_take_ann : Ann := { loop := fun i => [], wr := fun i => [], told := fun i => [] }
theorem codec_Dec_take_eq (t0 t1 t2 : Value) (w : World) (K : K1) : reads Try.prog codec_Dec_take_ann Try.f34 #[t0, t1, t2] w K = codec_Dec_take K t0 t1 t2 w := by kernel_rfl
theorem codec_Dec_take_of {t0 t1 t2 : Value} {w : World} {K : K1} (h : codec_Dec_take K t0 t1 t2 w) : Yld Try.prog n_codec_Dec_take #[t0, t1, t2] w K :=
  yld_of mixed codec_Dec_take_ann Try.func34 (by kernel_rfl) (codec_Dec_take_eq t0 t1 t2 w K) h

/-! (*loam/codec.Dec).Uint: function 35 -/
def codec_Dec_Uint_j1 (K : K1) (t0 : Value) (w : World) : Prop :=
 xCall Try.prog (fnv 38) [t0, (.int .i64 2)] w fun t65_1 w =>
 K (c64 0) w
def codec_Dec_Uint_l1 (K : K1) (nxt0 : List Value → World → Prop) (t0 t3 t6 : Value) (w : World) : Prop :=
 xBin Try.prog .lss 3 false t6 true (.int .i64 10) w fun t7_1 w =>
 xIf t7_1
 (xNilCheck t0 w fun t11_1 w =>
 xFieldAddr Try.prog 70 t11_1 0 w fun t12_1 w =>
 xLoad Try.prog 25 t12_1 w fun t13_1 w =>
 xBuiltin Try.prog .len #[25] 3 [false] [t13_1] w fun t14_1 w =>
 xBin Try.prog .geq 3 false t6 false t14_1 w fun t15_1 w =>
 xIf t15_1
 (xNilCheck t0 w fun t17_1 w =>
 xFieldAddr Try.prog 70 t17_1 1 w fun t18_1 w =>
 xLoad Try.prog 29 t18_1 w fun t19_1 w =>
 xBin Try.prog .eql 29 false t19_1 true (.int .i64 0) w fun t20_1 w =>
 xIf t20_1
 (xCall Try.prog (fnv 38) [t0, (.int .i64 3)] w fun t22_1 w =>
 K (c64 0) w)
 (K (c64 0) w))
 (xNilCheck t0 w fun t24_1 w =>
 xFieldAddr Try.prog 70 t24_1 0 w fun t25_1 w =>
 xLoad Try.prog 25 t25_1 w fun t26_1 w =>
 xIndexAddr Try.prog 25 t26_1 t6 w fun t28_1 w =>
 xLoad Try.prog 5 t28_1 w fun t29_1 w =>
 xBin Try.prog .eql 3 false t6 true (.int .i64 9) w fun t31_1 w =>
 xGuard t31_1 true (fun w K => K t29_1 w) w fun t33_1 w =>
 xGuard t31_1 true (fun w K => xBin Try.prog .gtr 5 false t33_1 true (c8 1) w K) w fun t34_1 w =>
 xPick t31_1 t34_1 (.bool false) w fun t35_1 w =>
 xIf t35_1
 (codec_Dec_Uint_j1 K t0 w)
 (xBin Try.prog .and 5 false t29_1 true (c8 127) w fun t38_1 w =>
 xConv Try.prog 5 22 t38_1 w fun t39_1 w =>
 xBin Try.prog .mul 3 true (.int .i64 7) false t6 w fun t41_1 w =>
 xBin Try.prog .shl 22 false t39_1 false t41_1 w fun t42_1 w =>
 xBin Try.prog .or 22 false t3 false t42_1 w fun t43_1 w =>
 xBin Try.prog .lss 5 false t29_1 true (c8 128) w fun t45_1 w =>
 xIf t45_1
 (xBin Try.prog .eql 5 false t29_1 true (c8 0) w fun t47_1 w =>
 xGuard t47_1 true (fun w K => K t6 w) w fun t49_1 w =>
 xGuard t47_1 true (fun w K => xBin Try.prog .gtr 3 false t49_1 true (.int .i64 0) w K) w fun t50_1 w =>
 xPick t47_1 t50_1 (.bool false) w fun t51_1 w =>
 xIf t51_1
 (codec_Dec_Uint_j1 K t0 w)
 (xNilCheck t0 w fun t54_1 w =>
 xFieldAddr Try.prog 70 t54_1 0 w fun t55_1 w =>
 xLoad Try.prog 25 t55_1 w fun t56_1 w =>
 xBin Try.prog .add 3 false t6 true (.int .i64 1) w fun t58_1 w =>
 xSlice Try.prog 25 t56_1 (some t58_1) none none w fun t59_1 w =>
 xNilCheck t0 w fun t60_1 w =>
 xFieldAddr Try.prog 70 t60_1 0 w fun t61_1 w =>
 xStore Try.prog 25 t61_1 t59_1 w fun _ w =>
 K t43_1 w))
 (xBin Try.prog .add 3 false t6 true (.int .i64 1) w fun t63_1 w =>
 nxt0 [t43_1, t63_1] w))))
 (codec_Dec_Uint_j1 K t0 w)
def codec_Dec_Uint (K : K1) (t0 : Value) (w : World) : Prop :=
 xLoop [(c64 0), (.int .i64 0)] w [3, 6] fun u w nxt0 =>
 codec_Dec_Uint_l1 K nxt0 t0 (u 3) (u 6) w
abbrev n_codec_Dec_Uint : Nat := 35
def codec_Dec_Uint_ann : Ann := { loop := fun i => bif Nat.beq i 0 then [3, 6] else [], wr := fun i => bif Nat.beq i 0 then [2, 3, 4, 5, 6, 7, 8, 9, 10, 11, 12, 13, 14, 15, 16, 17, 18, 19, 20, 21, 22, 23, 24, 25, 26, 27, 28, 29, 30, 31, 32, 33, 34, 35, 36, 37, 38, 39, 40, 41, 42, 43, 44, 45, 46, 47, 48, 49, 50, 51, 52, 53, 54, 55, 56, 57, 58, 59, 60, 61, 62, 63] else [], told := fun i => [] }
theorem codec_Dec_Uint_eq (t0 : Value) (w : World) (K : K1) : reads Try.prog codec_Dec_Uint_ann Try.f35 #[t0] w K = codec_Dec_Uint K t0 w := by kernel_rfl
theorem codec_Dec_Uint_of {t0 : Value} {w : World} {K : K1} (h : codec_Dec_Uint K t0 w) : Yld Try.prog n_codec_Dec_Uint #[t0] w K :=
  yld_of mixed codec_Dec_Uint_ann Try.func35 (by kernel_rfl) (codec_Dec_Uint_eq t0 w K) h

/-! loam/bits.within: function 36 -/
def bits_within (K : K1) (t0 t1 t2 : Value) (w : World) : Prop :=
 xBin Try.prog .geq 3 false t1 true (.int .i64 1) w fun t8 w =>
 xGuard t8 true (fun w K => K t1 w) w fun t10 w =>
 xGuard t8 true (fun w K => xBin Try.prog .leq 3 false t10 true (.int .i64 8) w K) w fun t11 w =>
 xPick t8 t11 (.bool false) w fun t12 w =>
 xGuard t12 true (fun w K => K t0 w) w fun t14 w =>
 xGuard t12 true (fun w K => xBin Try.prog .geq 3 false t14 true (.int .i64 0) w K) w fun t15 w =>
 xPick t12 t15 (.bool false) w fun t16 w =>
 xGuard t16 true (fun w K => K t1 w) w fun t18 w =>
 xGuard t16 true (fun w K => K t2 w) w fun t19 w =>
 xGuard t16 true (fun w K => xBin Try.prog .leq 3 false t18 false t19 w K) w fun t20 w =>
 xPick t16 t20 (.bool false) w fun t21 w =>
 xGuard t21 true (fun w K => K t0 w) w fun t23 w =>
 xGuard t21 true (fun w K => K t2 w) w fun t24 w =>
 xGuard t21 true (fun w K => K t1 w) w fun t25 w =>
 xGuard t21 true (fun w K => xBin Try.prog .sub 3 false t24 false t25 w K) w fun t26 w =>
 xGuard t21 true (fun w K => xBin Try.prog .leq 3 false t23 false t26 w K) w fun t27 w =>
 xPick t21 t27 (.bool false) w fun t28 w =>
 K t28 w
abbrev n_bits_within : Nat := 36
def bits_within_ann : Ann := { loop := fun i => [], wr := fun i => [], told := fun i => [] }
theorem bits_within_eq (t0 t1 t2 : Value) (w : World) (K : K1) : reads Try.prog bits_within_ann Try.f36 #[t0, t1, t2] w K = bits_within K t0 t1 t2 w := by kernel_rfl
theorem bits_within_of {t0 t1 t2 : Value} {w : World} {K : K1} (h : bits_within K t0 t1 t2 w) : Yld Try.prog n_bits_within #[t0, t1, t2] w K :=
  yld_of mixed bits_within_ann Try.func36 (by kernel_rfl) (bits_within_eq t0 t1 t2 w K) h

/-! loam/crc.Add: function 37 -/
def crc_Add_j1 (K : K1) (nxt2 : List Value → World → Prop) (t0 t20 : Value) (w : World) : Prop :=
 xBin Try.prog .add 3 false t20 true (.int .i64 1) w fun t30_1 w =>
 nxt2 [t0, t30_1] w
def crc_Add_l2 (K : K1) (nxt0 : List Value → World → Prop) (nxt2 : List Value → World → Prop) (t0 t12 t20 : Value) (w : World) : Prop :=
 xBin Try.prog .lss 3 false t20 true (.int .i64 8) w fun t21_1 w =>
 xIf t21_1
 (xBin Try.prog .and 58 false t0 true (c32 1) w fun t23_1 w =>
 xBin Try.prog .shr 58 false t0 true (c64 1) w fun t25_1 w =>
 xBin Try.prog .eql 58 false t23_1 true (c32 1) w fun t27_1 w =>
 xIf t27_1
 (xBin Try.prog .xor 58 false t25_1 true (c32 3988292384) w fun t29_1 w =>
 crc_Add_j1 K nxt2 t29_1 t20 w)
 (crc_Add_j1 K nxt2 t25_1 t20 w))
 (xBin Try.prog .add 3 false t12 true (.int .i64 1) w fun t31_1 w =>
 nxt0 [t0, t31_1] w)
def crc_Add_l1 (K : K1) (nxt0 : List Value → World → Prop) (t0 t10 t11 t12 : Value) (w : World) : Prop :=
 xBin Try.prog .lss 3 false t12 false t11 w fun t13_1 w =>
 xIf t13_1
 (xIndexAddr Try.prog 25 t10 t12 w fun t14_1 w =>
 xLoad Try.prog 5 t14_1 w fun t15_1 w =>
 xConv Try.prog 5 58 t15_1 w fun t18_1 w =>
 xBin Try.prog .xor 58 false t0 false t18_1 w fun t19_1 w =>
 xLoop [t19_1, (.int .i64 0)] w [0, 20] fun u w nxt2 =>
 crc_Add_l2 K nxt0 nxt2 (u 0) t12 (u 20) w)
 (xUn Try.prog .xor t0 w fun t33 w =>
 K t33 w)
def crc_Add (K : K1) (t0 t1 : Value) (w : World) : Prop :=
 xUn Try.prog .xor t0 w fun t9 w =>
 xBuiltin Try.prog .len #[25] 3 [false] [t1] w fun t11 w =>
 xLoop [t9, (.int .i64 0)] w [0, 12] fun u w nxt0 =>
 crc_Add_l1 K nxt0 (u 0) t1 t11 (u 12) w
abbrev n_crc_Add : Nat := 37
def crc_Add_ann : Ann := { loop := fun i => bif Nat.beq i 2 then [0, 20] else bif Nat.beq i 0 then [0, 12] else [], wr := fun i => bif Nat.beq i 2 then [0, 7, 20, 21, 22, 23, 24, 25, 26, 27, 28, 29, 30] else bif Nat.beq i 0 then [0, 6, 7, 12, 13, 14, 15, 16, 17, 18, 19, 20, 21, 22, 23, 24, 25, 26, 27, 28, 29, 30, 31] else [], told := fun i => [] }
theorem crc_Add_eq (t0 t1 : Value) (w : World) (K : K1) : reads Try.prog crc_Add_ann Try.f37 #[t0, t1] w K = crc_Add K t0 t1 w := by kernel_rfl
theorem crc_Add_of {t0 t1 : Value} {w : World} {K : K1} (h : crc_Add K t0 t1 w) : Yld Try.prog n_crc_Add #[t0, t1] w K :=
  yld_of mixed crc_Add_ann Try.func37 (by kernel_rfl) (crc_Add_eq t0 t1 w K) h

/-! (*loam/codec.Dec).fail: function 38 -/
def codec_Dec_fail (K : K1) (t0 t1 : Value) (w : World) : Prop :=
 xNilCheck t0 w fun t7 w =>
 xFieldAddr Try.prog 70 t7 0 w fun t8 w =>
 xStore Try.prog 25 t8 (.slice none 0 0) w fun _ w =>
 xNilCheck t0 w fun t9 w =>
 xFieldAddr Try.prog 70 t9 1 w fun t10 w =>
 xStore Try.prog 29 t10 t1 w fun _ w =>
 K (.tuple #[]) w
abbrev n_codec_Dec_fail : Nat := 38
def codec_Dec_fail_ann : Ann := { loop := fun i => [], wr := fun i => [], told := fun i => [] }
theorem codec_Dec_fail_eq (t0 t1 : Value) (w : World) (K : K1) : reads Try.prog codec_Dec_fail_ann Try.f38 #[t0, t1] w K = codec_Dec_fail K t0 t1 w := by kernel_rfl
theorem codec_Dec_fail_of {t0 t1 : Value} {w : World} {K : K1} (h : codec_Dec_fail K t0 t1 w) : Yld Try.prog n_codec_Dec_fail #[t0, t1] w K :=
  yld_of mixed codec_Dec_fail_ann Try.func38 (by kernel_rfl) (codec_Dec_fail_eq t0 t1 w K) h

end Go.Proofs.Ytknineilpenbnaa
