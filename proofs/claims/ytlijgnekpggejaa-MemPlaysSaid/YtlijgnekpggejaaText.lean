/- Each function of the set, as it is loaded, read as a statement on values; and that a call gives what the reading asks. -/
import Derived.Test.YtlijgnekpggejaaBase
set_option linter.unusedVariables false
namespace Go.Proofs.Ytlijgnekpggejaa
open Go.Sh Go.RowKit
/-! loam/loamlaw1.BitsBytes: function 3 -/
def loamlaw1_BitsBytes (K : K1) (t0 t1 t2 t3 : Value) (w : World) : Prop :=
 xCall Try.prog (fnv 15) [] w fun t20 w =>
 xUn Try.prog .not t20 w fun t21 w =>
 xIf t21
 (K (.bool false) w)
 (xBuiltin Try.prog .len #[22] 3 [false] [t0] w fun t23 w =>
 xBin Try.prog .gtr 3 false t23 true (.int .i64 1000) w fun t24 w =>
 xIf t24
 (K (.bool true) w)
 (xCall Try.prog (fnv 16) [t0, t1, t2] w fun t29 w =>
 xExtract Try.prog t29 0 w fun t30 w =>
 xExtract Try.prog t29 1 w fun t31 w =>
 xCall Try.prog (fnv 17) [t0, t1, t2] w fun t36 w =>
 xExtract Try.prog t36 0 w fun t37 w =>
 xExtract Try.prog t36 1 w fun t38 w =>
 xConv Try.prog 22 9 t0 w fun t40 w =>
 xCall Try.prog (fnv 18) [t0, t1, t2, t3] w fun t46 w =>
 xExtract Try.prog t46 0 w fun t47 w =>
 xExtract Try.prog t46 1 w fun t48 w =>
 xCall Try.prog (fnv 19) [t0, t1, t2, t3] w fun t54 w =>
 xExtract Try.prog t54 0 w fun t55 w =>
 xExtract Try.prog t54 1 w fun t56 w =>
 xBin Try.prog .neq 23 false t30 false t37 w fun t59 w =>
 xGuard t59 false (fun w K => K t31 w) w fun t61 w =>
 xGuard t59 false (fun w K => K t38 w) w fun t62 w =>
 xGuard t59 false (fun w K => xBin Try.prog .neq 3 false t61 false t62 w K) w fun t63 w =>
 xPick t59 (.bool true) t63 w fun t64 w =>
 xGuard t64 false (fun w K => K t47 w) w fun t66 w =>
 xGuard t64 false (fun w K => xConv Try.prog 22 9 t66 w K) w fun t67 w =>
 xGuard t64 false (fun w K => K t55 w) w fun t68 w =>
 xGuard t64 false (fun w K => xConv Try.prog 22 9 t68 w K) w fun t69 w =>
 xGuard t64 false (fun w K => xBin Try.prog .neq 9 false t67 false t69 w K) w fun t70 w =>
 xPick t64 (.bool true) t70 w fun t71 w =>
 xGuard t71 false (fun w K => K t48 w) w fun t73 w =>
 xGuard t71 false (fun w K => K t56 w) w fun t74 w =>
 xGuard t71 false (fun w K => xBin Try.prog .neq 3 false t73 false t74 w K) w fun t75 w =>
 xPick t71 (.bool true) t75 w fun t76 w =>
 xGuard t76 false (fun w K => K t0 w) w fun t78 w =>
 xGuard t76 false (fun w K => xConv Try.prog 22 9 t78 w K) w fun t79 w =>
 xGuard t76 false (fun w K => K t40 w) w fun t80 w =>
 xGuard t76 false (fun w K => xBin Try.prog .neq 9 false t79 false t80 w K) w fun t81 w =>
 xPick t76 (.bool true) t81 w fun t82 w =>
 xIf t82
 (K (.bool false) w)
 (xBin Try.prog .neq 3 false t56 true (.int .i64 0) w fun t84 w =>
 xIf t84
 (K (.bool true) w)
 (xCall Try.prog (fnv 16) [t47, t1, t2] w fun t89 w =>
 xExtract Try.prog t89 0 w fun t90 w =>
 xExtract Try.prog t89 1 w fun t91 w =>
 xBin Try.prog .eql 3 false t91 true (.int .i64 0) w fun t93 w =>
 xGuard t93 true (fun w K => K t90 w) w fun t95 w =>
 xGuard t93 true (fun w K => K t3 w) w fun t96 w =>
 xGuard t93 true (fun w K => K t2 w) w fun t97 w =>
 xGuard t93 true (fun w K => xBin Try.prog .mul 3 true (.int .i64 8) false t97 w K) w fun t98 w =>
 xGuard t93 true (fun w K => xCall Try.prog (fnv 20) [t96, (.int .i64 0), t98] w K) w fun t99 w =>
 xGuard t93 true (fun w K => xBin Try.prog .eql 23 false t95 false t99 w K) w fun t100 w =>
 xPick t93 t100 (.bool false) w fun t101 w =>
 K t101 w))))
abbrev n_loamlaw1_BitsBytes : Nat := 3
def loamlaw1_BitsBytes_ann : Ann := { loop := fun i => [], wr := fun i => [], told := fun i => [] }
theorem loamlaw1_BitsBytes_eq (t0 t1 t2 t3 : Value) (w : World) (K : K1) : reads Try.prog loamlaw1_BitsBytes_ann Try.f3 #[t0, t1, t2, t3] w K = loamlaw1_BitsBytes K t0 t1 t2 t3 w := by kernel_rfl
theorem loamlaw1_BitsBytes_of {t0 t1 t2 t3 : Value} {w : World} {K : K1} (h : loamlaw1_BitsBytes K t0 t1 t2 t3 w) : Yld Try.prog n_loamlaw1_BitsBytes #[t0, t1, t2, t3] w K :=
  yld_of mixed loamlaw1_BitsBytes_ann Try.func3 (by kernel_rfl) (loamlaw1_BitsBytes_eq t0 t1 t2 t3 w K) h

/-! loam/loamlaw1.BitsSigns: function 4 -/
def loamlaw1_BitsSigns (K : K1) (t0 t1 : Value) (w : World) : Prop :=
 xCall Try.prog (fnv 15) [] w fun t6 w =>
 xUn Try.prog .not t6 w fun t7 w =>
 xIf t7
 (K (.bool false) w)
 (xConv Try.prog 2 23 t0 w fun t9 w =>
 xCall Try.prog (fnv 21) [t9, t1] w fun t11 w =>
 xConv Try.prog 2 23 t0 w fun t14 w =>
 xCall Try.prog (fnv 22) [t14, t1] w fun t16 w =>
 xBin Try.prog .neq 2 false t11 false t16 w fun t17 w =>
 xGuard t17 false (fun w K => K t0 w) w fun t19 w =>
 xGuard t17 false (fun w K => K t1 w) w fun t20 w =>
 xGuard t17 false (fun w K => xCall Try.prog (fnv 23) [t19, t20] w K) w fun t21 w =>
 xGuard t17 false (fun w K => K t11 w) w fun t22 w =>
 xGuard t17 false (fun w K => xBin Try.prog .neq 2 false t21 false t22 w K) w fun t23 w =>
 xPick t17 (.bool true) t23 w fun t24 w =>
 xGuard t24 false (fun w K => K t0 w) w fun t26 w =>
 xGuard t24 false (fun w K => K t1 w) w fun t27 w =>
 xGuard t24 false (fun w K => xCall Try.prog (fnv 24) [t26, t27] w K) w fun t28 w =>
 xGuard t24 false (fun w K => K t11 w) w fun t29 w =>
 xGuard t24 false (fun w K => K t0 w) w fun t30 w =>
 xGuard t24 false (fun w K => xBin Try.prog .eql 2 false t29 false t30 w K) w fun t31 w =>
 xGuard t24 false (fun w K => xBin Try.prog .neq 4 false t28 false t31 w K) w fun t32 w =>
 xPick t24 (.bool true) t32 w fun t33 w =>
 xIf t33
 (K (.bool false) w)
 (xBin Try.prog .lss 3 false t1 true (.int .i64 1) w fun t35 w =>
 xGuard t35 false (fun w K => K t1 w) w fun t37 w =>
 xGuard t35 false (fun w K => xBin Try.prog .gtr 3 false t37 true (.int .i64 63) w K) w fun t38 w =>
 xPick t35 (.bool true) t38 w fun t39 w =>
 xIf t39
 (xBin Try.prog .eql 3 false t1 true (.int .i64 64) w fun t41 w =>
 xGuard t41 true (fun w K => K t11 w) w fun t43 w =>
 xGuard t41 true (fun w K => K t0 w) w fun t44 w =>
 xGuard t41 true (fun w K => xBin Try.prog .eql 2 false t43 false t44 w K) w fun t45 w =>
 xPick t41 t45 (.bool false) w fun t46 w =>
 xGuard t46 false (fun w K => K t1 w) w fun t48 w =>
 xGuard t46 false (fun w K => xBin Try.prog .neq 3 false t48 true (.int .i64 64) w K) w fun t49 w =>
 xGuard t46 false (fun w K => K t49 w) w fun t50 w =>
 xGuard t50 true (fun w K => K t11 w) w fun t51 w =>
 xGuard t50 true (fun w K => xBin Try.prog .eql 2 false t51 true (.int .i64 0) w K) w fun t52 w =>
 xGuard t46 false (fun w K => xPick t50 t52 (.bool false) w K) w fun t53 w =>
 xPick t46 (.bool true) t53 w fun t54 w =>
 K t54 w)
 (xBin Try.prog .sub 3 false t1 true (.int .i64 1) w fun t57 w =>
 xConv Try.prog 3 39 t57 w fun t58 w =>
 xBin Try.prog .shl 2 true (.int .i64 1) false t58 w fun t59 w =>
 xBin Try.prog .sub 2 true (.int .i64 0) false t59 w fun t60 w =>
 xBin Try.prog .geq 2 false t11 false t60 w fun t61 w =>
 xGuard t61 true (fun w K => K t11 w) w fun t63 w =>
 xGuard t61 true (fun w K => K t1 w) w fun t64 w =>
 xGuard t61 true (fun w K => xBin Try.prog .sub 3 false t64 true (.int .i64 1) w K) w fun t65 w =>
 xGuard t61 true (fun w K => xConv Try.prog 3 39 t65 w K) w fun t66 w =>
 xGuard t61 true (fun w K => xBin Try.prog .shl 2 true (.int .i64 1) false t66 w K) w fun t67 w =>
 xGuard t61 true (fun w K => xBin Try.prog .lss 2 false t63 false t67 w K) w fun t68 w =>
 xPick t61 t68 (.bool false) w fun t69 w =>
 xGuard t69 true (fun w K => K t11 w) w fun t71 w =>
 xGuard t69 true (fun w K => xConv Try.prog 2 23 t71 w K) w fun t72 w =>
 xGuard t69 true (fun w K => K t1 w) w fun t73 w =>
 xGuard t69 true (fun w K => xCall Try.prog (fnv 21) [t72, t73] w K) w fun t74 w =>
 xGuard t69 true (fun w K => K t11 w) w fun t75 w =>
 xGuard t69 true (fun w K => xBin Try.prog .eql 2 false t74 false t75 w K) w fun t76 w =>
 xPick t69 t76 (.bool false) w fun t77 w =>
 K t77 w)))
abbrev n_loamlaw1_BitsSigns : Nat := 4
def loamlaw1_BitsSigns_ann : Ann := { loop := fun i => [], wr := fun i => [], told := fun i => [] }
theorem loamlaw1_BitsSigns_eq (t0 t1 : Value) (w : World) (K : K1) : reads Try.prog loamlaw1_BitsSigns_ann Try.f4 #[t0, t1] w K = loamlaw1_BitsSigns K t0 t1 w := by kernel_rfl
theorem loamlaw1_BitsSigns_of {t0 t1 : Value} {w : World} {K : K1} (h : loamlaw1_BitsSigns K t0 t1 w) : Yld Try.prog n_loamlaw1_BitsSigns #[t0, t1] w K :=
  yld_of mixed loamlaw1_BitsSigns_ann Try.func4 (by kernel_rfl) (loamlaw1_BitsSigns_eq t0 t1 w K) h

/-! loam/loamlaw1.BitsFields: function 5 -/
def loamlaw1_BitsFields (K : K1) (t0 t1 t2 t3 : Value) (w : World) : Prop :=
 xCall Try.prog (fnv 15) [] w fun t11 w =>
 xUn Try.prog .not t11 w fun t12 w =>
 xIf t12
 (K (.bool false) w)
 (xCall Try.prog (fnv 25) [t0, t1, t2, t3] w fun t17 w =>
 xCall Try.prog (fnv 20) [t0, t1, t2] w fun t21 w =>
 xCall Try.prog (fnv 26) [t0, t1, t2] w fun t26 w =>
 xBin Try.prog .neq 23 false t21 false t26 w fun t27 w =>
 xGuard t27 false (fun w K => K t17 w) w fun t29 w =>
 xGuard t27 false (fun w K => K t0 w) w fun t30 w =>
 xGuard t27 false (fun w K => K t1 w) w fun t31 w =>
 xGuard t27 false (fun w K => K t2 w) w fun t32 w =>
 xGuard t27 false (fun w K => K t3 w) w fun t33 w =>
 xGuard t27 false (fun w K => xCall Try.prog (fnv 27) [t30, t31, t32, t33] w K) w fun t34 w =>
 xGuard t27 false (fun w K => xBin Try.prog .neq 23 false t29 false t34 w K) w fun t35 w =>
 xPick t27 (.bool true) t35 w fun t36 w =>
 xIf t36
 (K (.bool false) w)
 (xBin Try.prog .lss 3 false t1 true (.int .i64 0) w fun t38 w =>
 xGuard t38 false (fun w K => K t1 w) w fun t40 w =>
 xGuard t38 false (fun w K => xBin Try.prog .gtr 3 false t40 true (.int .i64 63) w K) w fun t41 w =>
 xPick t38 (.bool true) t41 w fun t42 w =>
 xGuard t42 false (fun w K => K t2 w) w fun t44 w =>
 xGuard t42 false (fun w K => xBin Try.prog .lss 3 false t44 true (.int .i64 1) w K) w fun t45 w =>
 xPick t42 (.bool true) t45 w fun t46 w =>
 xGuard t46 false (fun w K => K t2 w) w fun t48 w =>
 xGuard t46 false (fun w K => K t1 w) w fun t49 w =>
 xGuard t46 false (fun w K => xBin Try.prog .sub 3 true (.int .i64 64) false t49 w K) w fun t50 w =>
 xGuard t46 false (fun w K => xBin Try.prog .gtr 3 false t48 false t50 w K) w fun t51 w =>
 xPick t46 (.bool true) t51 w fun t52 w =>
 xIf t52
 (xBin Try.prog .eql 23 false t21 true (c64 0) w fun t54 w =>
 xGuard t54 true (fun w K => K t17 w) w fun t56 w =>
 xGuard t54 true (fun w K => K t0 w) w fun t57 w =>
 xGuard t54 true (fun w K => xBin Try.prog .eql 23 false t56 false t57 w K) w fun t58 w =>
 xPick t54 t58 (.bool false) w fun t59 w =>
 K t59 w)
 (xCall Try.prog (fnv 20) [t17, t1, t2] w fun t63 w =>
 xCall Try.prog (fnv 20) [t3, (.int .i64 0), t2] w fun t66 w =>
 xBin Try.prog .eql 23 false t63 false t66 w fun t67 w =>
 xGuard t67 true (fun w K => K t17 w) w fun t69 w =>
 xGuard t67 true (fun w K => K t1 w) w fun t70 w =>
 xGuard t67 true (fun w K => K t2 w) w fun t71 w =>
 xGuard t67 true (fun w K => K t21 w) w fun t72 w =>
 xGuard t67 true (fun w K => xCall Try.prog (fnv 25) [t69, t70, t71, t72] w K) w fun t73 w =>
 xGuard t67 true (fun w K => K t0 w) w fun t74 w =>
 xGuard t67 true (fun w K => xBin Try.prog .eql 23 false t73 false t74 w K) w fun t75 w =>
 xPick t67 t75 (.bool false) w fun t76 w =>
 K t76 w)))
abbrev n_loamlaw1_BitsFields : Nat := 5
def loamlaw1_BitsFields_ann : Ann := { loop := fun i => [], wr := fun i => [], told := fun i => [] }
theorem loamlaw1_BitsFields_eq (t0 t1 t2 t3 : Value) (w : World) (K : K1) : reads Try.prog loamlaw1_BitsFields_ann Try.f5 #[t0, t1, t2, t3] w K = loamlaw1_BitsFields K t0 t1 t2 t3 w := by kernel_rfl
theorem loamlaw1_BitsFields_of {t0 t1 t2 t3 : Value} {w : World} {K : K1} (h : loamlaw1_BitsFields K t0 t1 t2 t3 w) : Yld Try.prog n_loamlaw1_BitsFields #[t0, t1, t2, t3] w K :=
  yld_of mixed loamlaw1_BitsFields_ann Try.func5 (by kernel_rfl) (loamlaw1_BitsFields_eq t0 t1 t2 t3 w K) h

/-! loam/loamlaw1.BitsTurns: function 6 -/
def loamlaw1_BitsTurns (K : K1) (t0 t1 t2 : Value) (w : World) : Prop :=
 xCall Try.prog (fnv 15) [] w fun t8 w =>
 xUn Try.prog .not t8 w fun t9 w =>
 xIf t9
 (K (.bool false) w)
 (xCall Try.prog (fnv 28) [t0, t1] w fun t12 w =>
 xCall Try.prog (fnv 29) [t0, t1] w fun t16 w =>
 xBin Try.prog .neq 23 false t12 false t16 w fun t17 w =>
 xIf t17
 (K (.bool false) w)
 (xBin Try.prog .lss 3 false t1 true (.int .i64 (-1000)) w fun t19 w =>
 xGuard t19 false (fun w K => K t1 w) w fun t21 w =>
 xGuard t19 false (fun w K => xBin Try.prog .gtr 3 false t21 true (.int .i64 1000) w K) w fun t22 w =>
 xPick t19 (.bool true) t22 w fun t23 w =>
 xGuard t23 false (fun w K => K t2 w) w fun t25 w =>
 xGuard t23 false (fun w K => xBin Try.prog .lss 3 false t25 true (.int .i64 (-1000)) w K) w fun t26 w =>
 xPick t23 (.bool true) t26 w fun t27 w =>
 xGuard t27 false (fun w K => K t2 w) w fun t29 w =>
 xGuard t27 false (fun w K => xBin Try.prog .gtr 3 false t29 true (.int .i64 1000) w K) w fun t30 w =>
 xPick t27 (.bool true) t30 w fun t31 w =>
 xIf t31
 (K (.bool true) w)
 (xBin Try.prog .sub 3 true (.int .i64 0) false t1 w fun t34 w =>
 xCall Try.prog (fnv 28) [t12, t34] w fun t35 w =>
 xBin Try.prog .eql 23 false t35 false t0 w fun t37 w =>
 xGuard t37 true (fun w K => K t12 w) w fun t39 w =>
 xGuard t37 true (fun w K => K t2 w) w fun t40 w =>
 xGuard t37 true (fun w K => xCall Try.prog (fnv 28) [t39, t40] w K) w fun t41 w =>
 xGuard t37 true (fun w K => K t0 w) w fun t42 w =>
 xGuard t37 true (fun w K => K t1 w) w fun t43 w =>
 xGuard t37 true (fun w K => K t2 w) w fun t44 w =>
 xGuard t37 true (fun w K => xBin Try.prog .add 3 false t43 false t44 w K) w fun t45 w =>
 xGuard t37 true (fun w K => xCall Try.prog (fnv 28) [t42, t45] w K) w fun t46 w =>
 xGuard t37 true (fun w K => xBin Try.prog .eql 23 false t41 false t46 w K) w fun t47 w =>
 xPick t37 t47 (.bool false) w fun t48 w =>
 xGuard t48 true (fun w K => K t0 w) w fun t50 w =>
 xGuard t48 true (fun w K => xCall Try.prog (fnv 28) [t50, (.int .i64 64)] w K) w fun t51 w =>
 xGuard t48 true (fun w K => K t0 w) w fun t52 w =>
 xGuard t48 true (fun w K => xBin Try.prog .eql 23 false t51 false t52 w K) w fun t53 w =>
 xPick t48 t53 (.bool false) w fun t54 w =>
 K t54 w)))
abbrev n_loamlaw1_BitsTurns : Nat := 6
def loamlaw1_BitsTurns_ann : Ann := { loop := fun i => [], wr := fun i => [], told := fun i => [] }
theorem loamlaw1_BitsTurns_eq (t0 t1 t2 : Value) (w : World) (K : K1) : reads Try.prog loamlaw1_BitsTurns_ann Try.f6 #[t0, t1, t2] w K = loamlaw1_BitsTurns K t0 t1 t2 w := by kernel_rfl
theorem loamlaw1_BitsTurns_of {t0 t1 t2 : Value} {w : World} {K : K1} (h : loamlaw1_BitsTurns K t0 t1 t2 w) : Yld Try.prog n_loamlaw1_BitsTurns #[t0, t1, t2] w K :=
  yld_of mixed loamlaw1_BitsTurns_ann Try.func6 (by kernel_rfl) (loamlaw1_BitsTurns_eq t0 t1 t2 w K) h

/-! loam/loamlaw1.BitsMerge: function 7 -/
def loamlaw1_BitsMerge (K : K1) (t0 t1 : Value) (w : World) : Prop :=
 xCall Try.prog (fnv 15) [] w fun t7 w =>
 xUn Try.prog .not t7 w fun t8 w =>
 xIf t8
 (K (.bool false) w)
 (xBin Try.prog .lss 3 false t1 true (.int .i64 1) w fun t10 w =>
 xGuard t10 false (fun w K => K t1 w) w fun t12 w =>
 xGuard t10 false (fun w K => xBin Try.prog .gtr 3 false t12 true (.int .i64 63) w K) w fun t13 w =>
 xPick t10 (.bool true) t13 w fun t14 w =>
 xIf t14
 (K (.bool true) w)
 (xCall Try.prog (fnv 20) [t0, (.int .i64 0), t1] w fun t17 w =>
 xBin Try.prog .sub 3 true (.int .i64 64) false t1 w fun t21 w =>
 xCall Try.prog (fnv 20) [t0, t1, t21] w fun t22 w =>
 xBin Try.prog .sub 3 true (.int .i64 64) false t1 w fun t26 w =>
 xCall Try.prog (fnv 25) [t17, t1, t26, t22] w fun t28 w =>
 xBin Try.prog .eql 23 false t28 false t0 w fun t30 w =>
 xGuard t30 true (fun w K => K t17 w) w fun t32 w =>
 xGuard t30 true (fun w K => K t22 w) w fun t33 w =>
 xGuard t30 true (fun w K => K t1 w) w fun t34 w =>
 xGuard t30 true (fun w K => xConv Try.prog 3 39 t34 w K) w fun t35 w =>
 xGuard t30 true (fun w K => xBin Try.prog .shl 23 false t33 false t35 w K) w fun t36 w =>
 xGuard t30 true (fun w K => xBin Try.prog .or 23 false t32 false t36 w K) w fun t37 w =>
 xGuard t30 true (fun w K => K t0 w) w fun t38 w =>
 xGuard t30 true (fun w K => xBin Try.prog .eql 23 false t37 false t38 w K) w fun t39 w =>
 xPick t30 t39 (.bool false) w fun t40 w =>
 xGuard t40 true (fun w K => K t0 w) w fun t42 w =>
 xGuard t40 true (fun w K => K t1 w) w fun t43 w =>
 xGuard t40 true (fun w K => xBin Try.prog .sub 3 true (.int .i64 64) false t43 w K) w fun t44 w =>
 xGuard t40 true (fun w K => xCall Try.prog (fnv 28) [t42, t44] w K) w fun t45 w =>
 xGuard t40 true (fun w K => K t22 w) w fun t46 w =>
 xGuard t40 true (fun w K => K t17 w) w fun t47 w =>
 xGuard t40 true (fun w K => K t1 w) w fun t48 w =>
 xGuard t40 true (fun w K => xBin Try.prog .sub 3 true (.int .i64 64) false t48 w K) w fun t49 w =>
 xGuard t40 true (fun w K => xConv Try.prog 3 39 t49 w K) w fun t50 w =>
 xGuard t40 true (fun w K => xBin Try.prog .shl 23 false t47 false t50 w K) w fun t51 w =>
 xGuard t40 true (fun w K => xBin Try.prog .or 23 false t46 false t51 w K) w fun t52 w =>
 xGuard t40 true (fun w K => xBin Try.prog .eql 23 false t45 false t52 w K) w fun t53 w =>
 xPick t40 t53 (.bool false) w fun t54 w =>
 xGuard t54 true (fun w K => K t0 w) w fun t56 w =>
 xGuard t54 true (fun w K => K t1 w) w fun t57 w =>
 xGuard t54 true (fun w K => xBin Try.prog .sub 3 true (.int .i64 64) false t57 w K) w fun t58 w =>
 xGuard t54 true (fun w K => xCall Try.prog (fnv 28) [t56, t58] w K) w fun t59 w =>
 xGuard t54 true (fun w K => K t0 w) w fun t60 w =>
 xGuard t54 true (fun w K => K t1 w) w fun t61 w =>
 xGuard t54 true (fun w K => xBin Try.prog .sub 3 true (.int .i64 64) false t61 w K) w fun t62 w =>
 xGuard t54 true (fun w K => xCall Try.prog (fnv 29) [t60, t62] w K) w fun t63 w =>
 xGuard t54 true (fun w K => xBin Try.prog .eql 23 false t59 false t63 w K) w fun t64 w =>
 xPick t54 t64 (.bool false) w fun t65 w =>
 K t65 w))
abbrev n_loamlaw1_BitsMerge : Nat := 7
def loamlaw1_BitsMerge_ann : Ann := { loop := fun i => [], wr := fun i => [], told := fun i => [] }
theorem loamlaw1_BitsMerge_eq (t0 t1 : Value) (w : World) (K : K1) : reads Try.prog loamlaw1_BitsMerge_ann Try.f7 #[t0, t1] w K = loamlaw1_BitsMerge K t0 t1 w := by kernel_rfl
theorem loamlaw1_BitsMerge_of {t0 t1 : Value} {w : World} {K : K1} (h : loamlaw1_BitsMerge K t0 t1 w) : Yld Try.prog n_loamlaw1_BitsMerge #[t0, t1] w K :=
  yld_of mixed loamlaw1_BitsMerge_ann Try.func7 (by kernel_rfl) (loamlaw1_BitsMerge_eq t0 t1 w K) h

/-! loam/loamlaw1.BitsParts: function 8 -/
def loamlaw1_BitsParts (K : K1) (t0 t1 t2 : Value) (w : World) : Prop :=
 xCall Try.prog (fnv 15) [] w fun t16 w =>
 xUn Try.prog .not t16 w fun t17 w =>
 xIf t17
 (K (.bool false) w)
 (xBuildSlice Try.prog 22 9 [(0, t2), (1, t2), (2, t2), (3, t2), (4, t2), (5, t2), (6, t2), (7, t2), (8, t2)] w fun t27 w =>
 xConv Try.prog 45 23 t0 w fun t31 w =>
 xCall Try.prog (fnv 18) [t27, (.int .i64 0), (.int .i64 4), t31] w fun t32 w =>
 xExtract Try.prog t32 0 w fun t33 w =>
 xExtract Try.prog t32 1 w fun t34 w =>
 xConv Try.prog 45 23 t1 w fun t38 w =>
 xCall Try.prog (fnv 18) [t33, (.int .i64 4), (.int .i64 4), t38] w fun t39 w =>
 xExtract Try.prog t39 0 w fun t40 w =>
 xExtract Try.prog t39 1 w fun t41 w =>
 xCall Try.prog (fnv 16) [t40, (.int .i64 0), (.int .i64 8)] w fun t44 w =>
 xExtract Try.prog t44 0 w fun t45 w =>
 xExtract Try.prog t44 1 w fun t46 w =>
 xCall Try.prog (fnv 16) [t40, (.int .i64 4), (.int .i64 4)] w fun t49 w =>
 xExtract Try.prog t49 0 w fun t50 w =>
 xExtract Try.prog t49 1 w fun t51 w =>
 xBin Try.prog .add 3 false t34 false t41 w fun t54 w =>
 xBin Try.prog .add 3 false t54 false t46 w fun t56 w =>
 xBin Try.prog .add 3 false t56 false t51 w fun t58 w =>
 xBin Try.prog .eql 3 false t58 true (.int .i64 0) w fun t59 w =>
 xGuard t59 true (fun w K => K t45 w) w fun t61 w =>
 xGuard t59 true (fun w K => K t0 w) w fun t62 w =>
 xGuard t59 true (fun w K => xConv Try.prog 45 23 t62 w K) w fun t63 w =>
 xGuard t59 true (fun w K => K t1 w) w fun t64 w =>
 xGuard t59 true (fun w K => xConv Try.prog 45 23 t64 w K) w fun t65 w =>
 xGuard t59 true (fun w K => xBin Try.prog .shl 23 false t65 true (c64 32) w K) w fun t66 w =>
 xGuard t59 true (fun w K => xBin Try.prog .or 23 false t63 false t66 w K) w fun t67 w =>
 xGuard t59 true (fun w K => xBin Try.prog .eql 23 false t61 false t67 w K) w fun t68 w =>
 xPick t59 t68 (.bool false) w fun t69 w =>
 xGuard t69 true (fun w K => K t50 w) w fun t71 w =>
 xGuard t69 true (fun w K => K t1 w) w fun t72 w =>
 xGuard t69 true (fun w K => xConv Try.prog 45 23 t72 w K) w fun t73 w =>
 xGuard t69 true (fun w K => xBin Try.prog .eql 23 false t71 false t73 w K) w fun t74 w =>
 xPick t69 t74 (.bool false) w fun t75 w =>
 xGuard t75 true (fun w K => K t40 w) w fun t77 w =>
 xGuard t75 true (fun w K => xBuiltin Try.prog .len #[22] 3 [false] [t77] w K) w fun t78 w =>
 xGuard t75 true (fun w K => xBin Try.prog .eql 3 false t78 true (.int .i64 9) w K) w fun t79 w =>
 xPick t75 t79 (.bool false) w fun t80 w =>
 xGuard t80 true (fun w K => K t40 w) w fun t82 w =>
 xGuard t80 true (fun w K => xIndexAddr Try.prog 22 t82 (.int .i64 8) w K) w fun t83 w =>
 xGuard t80 true (fun w K => xLoad Try.prog 5 t83 w K) w fun t84 w =>
 xGuard t80 true (fun w K => K t2 w) w fun t85 w =>
 xGuard t80 true (fun w K => xBin Try.prog .eql 5 false t84 false t85 w K) w fun t86 w =>
 xPick t80 t86 (.bool false) w fun t87 w =>
 xGuard t87 true (fun w K => K t27 w) w fun t89 w =>
 xGuard t87 true (fun w K => xIndexAddr Try.prog 22 t89 (.int .i64 0) w K) w fun t90 w =>
 xGuard t87 true (fun w K => xLoad Try.prog 5 t90 w K) w fun t91 w =>
 xGuard t87 true (fun w K => K t2 w) w fun t92 w =>
 xGuard t87 true (fun w K => xBin Try.prog .eql 5 false t91 false t92 w K) w fun t93 w =>
 xPick t87 t93 (.bool false) w fun t94 w =>
 K t94 w)
abbrev n_loamlaw1_BitsParts : Nat := 8
def loamlaw1_BitsParts_ann : Ann := { loop := fun i => [], wr := fun i => [], told := fun i => [] }
theorem loamlaw1_BitsParts_eq (t0 t1 t2 : Value) (w : World) (K : K1) : reads Try.prog loamlaw1_BitsParts_ann Try.f8 #[t0, t1, t2] w K = loamlaw1_BitsParts K t0 t1 t2 w := by kernel_rfl
theorem loamlaw1_BitsParts_of {t0 t1 t2 : Value} {w : World} {K : K1} (h : loamlaw1_BitsParts K t0 t1 t2 w) : Yld Try.prog n_loamlaw1_BitsParts #[t0, t1, t2] w K :=
  yld_of mixed loamlaw1_BitsParts_ann Try.func8 (by kernel_rfl) (loamlaw1_BitsParts_eq t0 t1 t2 w K) h

/-! loam/loamlaw1.BitsNarrow: function 9 -/
def loamlaw1_BitsNarrow (K : K1) (t0 t1 t2 : Value) (w : World) : Prop :=
 xCall Try.prog (fnv 15) [] w fun t7 w =>
 xUn Try.prog .not t7 w fun t8 w =>
 xIf t8
 (K (.bool false) w)
 (xBin Try.prog .lss 3 false t1 true (.int .i64 1) w fun t10 w =>
 xGuard t10 false (fun w K => K t1 w) w fun t12 w =>
 xGuard t10 false (fun w K => xBin Try.prog .gtr 3 false t12 true (.int .i64 64) w K) w fun t13 w =>
 xPick t10 (.bool true) t13 w fun t14 w =>
 xGuard t14 false (fun w K => K t2 w) w fun t16 w =>
 xGuard t14 false (fun w K => xBin Try.prog .lss 3 false t16 true (.int .i64 1) w K) w fun t17 w =>
 xPick t14 (.bool true) t17 w fun t18 w =>
 xGuard t18 false (fun w K => K t2 w) w fun t20 w =>
 xGuard t18 false (fun w K => K t1 w) w fun t21 w =>
 xGuard t18 false (fun w K => xBin Try.prog .gtr 3 false t20 false t21 w K) w fun t22 w =>
 xPick t18 (.bool true) t22 w fun t23 w =>
 xIf t23
 (K (.bool true) w)
 (xCall Try.prog (fnv 23) [t0, t1] w fun t26 w =>
 xCall Try.prog (fnv 23) [t26, t2] w fun t28 w =>
 xCall Try.prog (fnv 23) [t0, t2] w fun t31 w =>
 xBin Try.prog .eql 2 false t28 false t31 w fun t32 w =>
 xGuard t32 true (fun w K => K t0 w) w fun t34 w =>
 xGuard t32 true (fun w K => K t2 w) w fun t35 w =>
 xGuard t32 true (fun w K => xCall Try.prog (fnv 24) [t34, t35] w K) w fun t36 w =>
 xGuard t32 true (fun w K => xUn Try.prog .not t36 w K) w fun t37 w =>
 xGuard t32 true (fun w K => K t37 w) w fun t38 w =>
 xGuard t38 false (fun w K => K t0 w) w fun t39 w =>
 xGuard t38 false (fun w K => K t1 w) w fun t40 w =>
 xGuard t38 false (fun w K => xCall Try.prog (fnv 24) [t39, t40] w K) w fun t41 w =>
 xGuard t32 true (fun w K => xPick t38 (.bool true) t41 w K) w fun t42 w =>
 xPick t32 t42 (.bool false) w fun t43 w =>
 K t43 w))
abbrev n_loamlaw1_BitsNarrow : Nat := 9
def loamlaw1_BitsNarrow_ann : Ann := { loop := fun i => [], wr := fun i => [], told := fun i => [] }
theorem loamlaw1_BitsNarrow_eq (t0 t1 t2 : Value) (w : World) (K : K1) : reads Try.prog loamlaw1_BitsNarrow_ann Try.f9 #[t0, t1, t2] w K = loamlaw1_BitsNarrow K t0 t1 t2 w := by kernel_rfl
theorem loamlaw1_BitsNarrow_of {t0 t1 t2 : Value} {w : World} {K : K1} (h : loamlaw1_BitsNarrow K t0 t1 t2 w) : Yld Try.prog n_loamlaw1_BitsNarrow #[t0, t1, t2] w K :=
  yld_of mixed loamlaw1_BitsNarrow_ann Try.func9 (by kernel_rfl) (loamlaw1_BitsNarrow_eq t0 t1 t2 w K) h

/-! loam/loamlaw13.MemBytes: function 10 -/
def loamlaw13_MemBytes_l2 (K : K1) (nxt2 : List Value → World → Prop) (t0 t1 t7 t9 t11 : Value) (w : World) : Prop :=
 xBuiltin Try.prog .len #[22] 3 [false] [t1] w fun t57_1 w =>
 xBin Try.prog .lss 3 false t11 false t57_1 w fun t58_1 w =>
 xIf t58_1
 (xBin Try.prog .add 3 false t0 false t11 w fun t64_1 w =>
 xIndexAddr Try.prog 22 t1 t11 w fun t67_1 w =>
 xLoad Try.prog 5 t67_1 w fun t68_1 w =>
 xIndexAddr Try.prog 22 t9 t64_1 w fun t69_1 w =>
 xStore Try.prog 5 t69_1 t68_1 w fun _ w =>
 xBin Try.prog .add 3 false t11 true (.int .i64 1) w fun t60_1 w =>
 nxt2 [t60_1] w)
 (xCall Try.prog (fnv 33) [t7, (.int .i64 0), (.int .i64 400)] w fun t72 w =>
 xExtract Try.prog t72 0 w fun t73 w =>
 xExtract Try.prog t72 1 w fun t74 w =>
 xCall Try.prog (fnv 34) [t7, (.int .i64 0)] w fun t77 w =>
 xExtract Try.prog t77 0 w fun t78 w =>
 xExtract Try.prog t77 1 w fun t79 w =>
 xDraw w.drew fun le H =>
 xDet le (H) (fun w K => K t74 w) fun t80 =>
 xDet le (H) (fun w K => K t79 w) fun t81 =>
 xDet le (H) (fun w K => xBin Try.prog .add 3 false t80 false t81 w K) fun t82 =>
 xDet le (H) (fun w K => xBin Try.prog .eql 3 false t82 true (.int .i64 0) w K) fun t83 =>
 xDet le (H) (fun w K => K t83 w) fun t84 =>
 xDet le (H) (fun w K => xGuard t84 true (fun w K => K t73 w) w K) fun t85 =>
 xDet le (H) (fun w K => xGuard t84 true (fun w K => xConv Try.prog 22 9 t85 w K) w K) fun t86 =>
 xDet le (H) (fun w K => xGuard t84 true (fun w K => K t9 w) w K) fun t87 =>
 xDet le (H) (fun w K => xGuard t84 true (fun w K => xConv Try.prog 22 9 t87 w K) w K) fun t88 =>
 xDet le (H) (fun w K => xGuard t84 true (fun w K => xBin Try.prog .eql 9 false t86 false t88 w K) w K) fun t89 =>
 xDet le (H) (fun w K => xPick t84 t89 (.bool false) w K) fun t90 =>
 xDet le (H) (fun w K => K t90 w) fun t91 =>
 xDet le (H) (fun w K => xGuard t91 true (fun w K => K t78 w) w K) fun t92 =>
 xDet le (H) (fun w K => xGuard t91 true (fun w K => K t9 w) w K) fun t95 =>
 xDet le (H) (fun w K => xGuard t91 true (fun w K => xSlice Try.prog 22 t95 none (some (.int .i64 8)) none w K) w K) fun t96 =>
 xDet le (H) (fun w K => xGuard t91 true (fun w K => xConv Try.prog 22 9 t96 w K) w K) fun t97 =>
 xStr (fun N =>
  xNon le (H) (fun w K => xGuard t91 true (fun w K => xCall Try.prog (fnv 35) [t92, (.int .i64 8)] w K) w K) fun t93 h13 =>
  xDet le (fun w => H w ∧ h13 w) (fun w K => xGuard t91 true (fun w K => xConv Try.prog 22 9 t93 w K) w K) N) fun t94 =>
 xDet le (H) (fun w K => xGuard t91 true (fun w K => xBin Try.prog .eql 9 false t94 false t97 w K) w K) fun t98 =>
 xDet le (H) (fun w K => xPick t91 t98 (.bool false) w K) fun t99 =>
 xDet le (H) (fun w K => K t99 w) fun t6_1 =>
 xEndU (fun _ w => H w) fun uS w =>
 K t6_1 w)
def loamlaw13_MemBytes_l1 (K : K1) (nxt0 : List Value → World → Prop) (t0 t1 t2 t7 t9 t10 : Value) (w : World) : Prop :=
 xBuiltin Try.prog .len #[22] 3 [false] [t9] w fun t36_1 w =>
 xBin Try.prog .lss 3 false t10 false t36_1 w fun t37_1 w =>
 xIf t37_1
 (xIndexAddr Try.prog 22 t9 t10 w fun t43_1 w =>
 xStore Try.prog 5 t43_1 t2 w fun _ w =>
 xBin Try.prog .add 3 false t10 true (.int .i64 1) w fun t39_1 w =>
 nxt0 [t39_1] w)
 (xCall Try.prog (fnv 32) [t7, (.int .i64 0), t9] w fun t46 w =>
 xBin Try.prog .neq 3 false t46 true (.int .i64 0) w fun t47 w =>
 xGuard t47 false (fun w K => K t7 w) w fun t49 w =>
 xGuard t47 false (fun w K => K t0 w) w fun t50 w =>
 xGuard t47 false (fun w K => K t1 w) w fun t51 w =>
 xGuard t47 false (fun w K => xCall Try.prog (fnv 32) [t49, t50, t51] w K) w fun t52 w =>
 xGuard t47 false (fun w K => xBin Try.prog .neq 3 false t52 true (.int .i64 0) w K) w fun t53 w =>
 xPick t47 (.bool true) t53 w fun t54 w =>
 xIf t54
 (K (.bool false) w)
 (xLoop [(.int .i64 0)] w [11] fun u w nxt2 =>
 loamlaw13_MemBytes_l2 K nxt2 t0 t1 t7 t9 (u 11) w))
def loamlaw13_MemBytes (K : K1) (t0 t1 t2 : Value) (w : World) : Prop :=
 xCall Try.prog (fnv 30) [] w fun t16 w =>
 xUn Try.prog .not t16 w fun t17 w =>
 xIf t17
 (K (.bool false) w)
 (xBin Try.prog .lss 3 false t0 true (.int .i64 0) w fun t19 w =>
 xGuard t19 false (fun w K => K t0 w) w fun t21 w =>
 xGuard t19 false (fun w K => xBin Try.prog .gtr 3 false t21 true (.int .i64 200) w K) w fun t22 w =>
 xPick t19 (.bool true) t22 w fun t23 w =>
 xGuard t23 false (fun w K => K t1 w) w fun t25 w =>
 xGuard t23 false (fun w K => xBuiltin Try.prog .len #[22] 3 [false] [t25] w K) w fun t26 w =>
 xGuard t23 false (fun w K => xBin Try.prog .gtr 3 false t26 true (.int .i64 100) w K) w fun t27 w =>
 xPick t23 (.bool true) t27 w fun t28 w =>
 xIf t28
 (K (.bool true) w)
 (xCall Try.prog (fnv 31) [(.int .i64 50)] w fun t30 w =>
 xExtract Try.prog t30 0 w fun t31 w =>
 xExtract Try.prog t30 1 w fun t32 w =>
 xMakeSlice Try.prog 22 (.int .i64 400) (.int .i64 400) w fun t33 w =>
 xLoop [(.int .i64 0)] w [10] fun u w nxt0 =>
 loamlaw13_MemBytes_l1 K nxt0 t0 t1 t2 t31 t33 (u 10) w))
abbrev n_loamlaw13_MemBytes : Nat := 10
def loamlaw13_MemBytes_ann : Ann := { loop := fun i => bif Nat.beq i 2 then [11] else bif Nat.beq i 0 then [10] else [], wr := fun i => bif Nat.beq i 2 then [11, 55, 56, 57, 58, 59, 60, 61, 62, 63, 64, 65, 66, 67, 68, 69] else bif Nat.beq i 0 then [10, 34, 35, 36, 37, 38, 39, 40, 41, 42, 43] else [], told := fun i => bif Nat.beq i 19 then [(0, false, ⟨0, 1208925819614629174714368, some 80⟩), (1, false, ⟨0, 2417851639229258349445120, some 81⟩), (2, false, ⟨3, 8462480737302404222943232, some 82⟩), (3, false, ⟨4, 14507109835375550096474112, some 83⟩), (4, false, ⟨8, 29014219670751100192948224, some 84⟩), (5, false, ⟨16, 58028439341502200385900544, some 85⟩), (6, false, ⟨48, 135399691796838467567091712, some 86⟩), (7, false, ⟨16, 174085318024506601157689856, some 87⟩), (8, false, ⟨144, 483570327845851669882470400, some 88⟩), (9, false, ⟨336, 1025169095033205540150837248, some 89⟩), (10, false, ⟨528, 1876252872041904479143985152, some 90⟩), (11, false, ⟨1040, 3713820117856140824697372672, some 91⟩), (12, false, ⟨2048, 7427640235712281649394761728, some 92⟩), (15, false, ⟨2048, 42089961335702929346570224128, some 95⟩), (16, false, ⟨34816, 121318123849967266940114173952, some 96⟩), (17, false, ⟨67584, 240160367621363773330430099456, some 97⟩), (13, false, ⟨6144, 17331160549995323848587739136, some 93⟩), (14, false, ⟨10240, 32186441021419887147377229824, some 94⟩), (18, false, ⟨149504, 497651895792722870509447938048, some 98⟩), (19, false, ⟨264192, 953213830249742811672325652480, some 99⟩), (20, false, ⟨1048575, 633825300114114700748351602752, some 6⟩)] else [], plan := fun i => bif Nat.beq i 19 then some ⟨[[0], [1], [2], [3], [4], [5], [6], [7], [8], [9], [10], [11], [12], [15], [16], [17], [13, 14], [18], [19], [20]], [], [93], []⟩ else none }
theorem loamlaw13_MemBytes_eq (t0 t1 t2 : Value) (w : World) (K : K1) : reads Try.prog loamlaw13_MemBytes_ann Try.f10 #[t0, t1, t2] w K = loamlaw13_MemBytes K t0 t1 t2 w := by kernel_rfl
theorem loamlaw13_MemBytes_of {t0 t1 t2 : Value} {w : World} {K : K1} (h : loamlaw13_MemBytes K t0 t1 t2 w) : Yld Try.prog n_loamlaw13_MemBytes #[t0, t1, t2] w K :=
  yld_of mixed loamlaw13_MemBytes_ann Try.func10 (by kernel_rfl) (loamlaw13_MemBytes_eq t0 t1 t2 w K) h

/-! loam/loamlaw13.MemSizes: function 11 -/
def loamlaw13_MemSizes (K : K1) (t0 : Value) (w : World) : Prop :=
 xCall Try.prog (fnv 30) [] w fun t6 w =>
 xUn Try.prog .not t6 w fun t7 w =>
 xIf t7
 (K (.bool false) w)
 (xCall Try.prog (fnv 31) [t0] w fun t10 w =>
 xExtract Try.prog t10 0 w fun t11 w =>
 xExtract Try.prog t10 1 w fun t12 w =>
 xBin Try.prog .geq 3 false t0 true (.int .i64 0) w fun t14 w =>
 xGuard t14 true (fun w K => K t0 w) w fun t16 w =>
 xGuard t14 true (fun w K => xBin Try.prog .leq 3 false t16 true (.int .i64 8192) w K) w fun t17 w =>
 xPick t14 t17 (.bool false) w fun t18 w =>
 xBin Try.prog .eql 3 false t12 true (.int .i64 0) w fun t20 w =>
 xBin Try.prog .eql 4 false t20 false t18 w fun t22 w =>
 xGuard t22 true (fun w K => K t11 w) w fun t24 w =>
 xGuard t22 true (fun w K => xBin Try.prog .neq 48 false t24 true (.pointer none) w K) w fun t25 w =>
 xGuard t22 true (fun w K => K t18 w) w fun t26 w =>
 xGuard t22 true (fun w K => xBin Try.prog .eql 4 false t25 false t26 w K) w fun t27 w =>
 xPick t22 t27 (.bool false) w fun t28 w =>
 xGuard t28 true (fun w K => K t18 w) w fun t30 w =>
 xGuard t28 true (fun w K => K t30 w) w fun t31 w =>
 xGuard t31 true (fun w K => K t11 w) w fun t32 w =>
 xGuard t31 true (fun w K => xCall Try.prog (fnv 36) [t32] w K) w fun t33 w =>
 xGuard t31 true (fun w K => K t0 w) w fun t34 w =>
 xGuard t31 true (fun w K => xBin Try.prog .eql 3 false t33 false t34 w K) w fun t35 w =>
 xGuard t28 true (fun w K => xPick t31 t35 (.bool false) w K) w fun t36 w =>
 xGuard t28 true (fun w K => K t36 w) w fun t37 w =>
 xGuard t37 false (fun w K => K t18 w) w fun t38 w =>
 xGuard t37 false (fun w K => xUn Try.prog .not t38 w K) w fun t39 w =>
 xGuard t37 false (fun w K => K t39 w) w fun t40 w =>
 xGuard t40 true (fun w K => K t12 w) w fun t41 w =>
 xGuard t40 true (fun w K => xBin Try.prog .eql 3 false t41 true (.int .i64 1) w K) w fun t42 w =>
 xGuard t37 false (fun w K => xPick t40 t42 (.bool false) w K) w fun t43 w =>
 xGuard t28 true (fun w K => xPick t37 (.bool true) t43 w K) w fun t44 w =>
 xPick t28 t44 (.bool false) w fun t45 w =>
 K t45 w)
abbrev n_loamlaw13_MemSizes : Nat := 11
def loamlaw13_MemSizes_ann : Ann := { loop := fun i => [], wr := fun i => [], told := fun i => [] }
theorem loamlaw13_MemSizes_eq (t0 : Value) (w : World) (K : K1) : reads Try.prog loamlaw13_MemSizes_ann Try.f11 #[t0] w K = loamlaw13_MemSizes K t0 w := by kernel_rfl
theorem loamlaw13_MemSizes_of {t0 : Value} {w : World} {K : K1} (h : loamlaw13_MemSizes K t0 w) : Yld Try.prog n_loamlaw13_MemSizes #[t0] w K :=
  yld_of mixed loamlaw13_MemSizes_ann Try.func11 (by kernel_rfl) (loamlaw13_MemSizes_eq t0 w K) h

/-! loam/loamlaw13.MemMoves: function 12 -/
def loamlaw13_MemMoves_j1 (K : K1) (nxt0 : List Value → World → Prop) (t12 t13 t14 : Value) (w : World) : Prop :=
 xIndexAddr Try.prog 58 t12 t13 w fun t83_1 w =>
 xLoad Try.prog 23 t83_1 w fun t84_1 w =>
 xBin Try.prog .neq 23 false t84_1 false t14 w fun t86_1 w =>
 xIf t86_1
 (K (.bool false) w)
 (xBin Try.prog .add 3 false t13 true (.int .i64 1) w fun t58_1 w =>
 nxt0 [t58_1] w)
def loamlaw13_MemMoves_l1 (K : K1) (nxt0 : List Value → World → Prop) (t0 t1 t2 t3 t11 t12 t13 : Value) (w : World) : Prop :=
 xBuiltin Try.prog .len #[58] 3 [false] [t12] w fun t55_1 w =>
 xBin Try.prog .lss 3 false t13 false t55_1 w fun t56_1 w =>
 xIf t56_1
 (xIndexAddr Try.prog 58 t0 t13 w fun t61_1 w =>
 xLoad Try.prog 23 t61_1 w fun t62_1 w =>
 xBin Try.prog .geq 3 false t13 false t1 w fun t65_1 w =>
 xGuard t65_1 true (fun w K => K t13 w) w fun t67_1 w =>
 xGuard t65_1 true (fun w K => K t1 w) w fun t68_1 w =>
 xGuard t65_1 true (fun w K => K t3 w) w fun t69_1 w =>
 xGuard t65_1 true (fun w K => xBin Try.prog .add 3 false t68_1 false t69_1 w K) w fun t70_1 w =>
 xGuard t65_1 true (fun w K => xBin Try.prog .lss 3 false t67_1 false t70_1 w K) w fun t71_1 w =>
 xPick t65_1 t71_1 (.bool false) w fun t72_1 w =>
 xIf t72_1
 (xBin Try.prog .add 3 false t2 false t13 w fun t76_1 w =>
 xBin Try.prog .sub 3 false t76_1 false t1 w fun t78_1 w =>
 xIndexAddr Try.prog 58 t0 t78_1 w fun t79_1 w =>
 xLoad Try.prog 23 t79_1 w fun t80_1 w =>
 loamlaw13_MemMoves_j1 K nxt0 t12 t13 t80_1 w)
 (loamlaw13_MemMoves_j1 K nxt0 t12 t13 t62_1 w))
 (xBin Try.prog .eql 3 false t11 true (.int .i64 0) w fun t88 w =>
 K t88 w)
def loamlaw13_MemMoves (K : K1) (t0 t1 t2 t3 : Value) (w : World) : Prop :=
 xCall Try.prog (fnv 30) [] w fun t15 w =>
 xUn Try.prog .not t15 w fun t16 w =>
 xIf t16
 (K (.bool false) w)
 (xBuiltin Try.prog .len #[58] 3 [false] [t0] w fun t18 w =>
 xBin Try.prog .gtr 3 false t18 true (.int .i64 100) w fun t19 w =>
 xIf t19
 (K (.bool true) w)
 (xCall Try.prog (fnv 37) [t0] w fun t22 w =>
 xExtract Try.prog t22 0 w fun t23 w =>
 xExtract Try.prog t22 1 w fun t24 w =>
 xCall Try.prog (fnv 38) [t23, t1, t2, t3] w fun t29 w =>
 xBuiltin Try.prog .len #[58] 3 [false] [t0] w fun t33 w =>
 xCall Try.prog (fnv 39) [t1, t3, t33] w fun t34 w =>
 xUn Try.prog .not t34 w fun t35 w =>
 xGuard t35 false (fun w K => K t2 w) w fun t37 w =>
 xGuard t35 false (fun w K => K t3 w) w fun t38 w =>
 xGuard t35 false (fun w K => K t0 w) w fun t39 w =>
 xGuard t35 false (fun w K => xBuiltin Try.prog .len #[58] 3 [false] [t39] w K) w fun t40 w =>
 xGuard t35 false (fun w K => xCall Try.prog (fnv 39) [t37, t38, t40] w K) w fun t41 w =>
 xGuard t35 false (fun w K => xUn Try.prog .not t41 w K) w fun t42 w =>
 xPick t35 (.bool true) t42 w fun t43 w =>
 xIf t43
 (xBin Try.prog .eql 3 false t29 true (.int .i64 1) w fun t45 w =>
 xGuard t45 true (fun w K => K t23 w) w fun t47 w =>
 xGuard t45 true (fun w K => K t0 w) w fun t48 w =>
 xGuard t45 true (fun w K => xCall Try.prog (fnv 40) [t47, t48] w K) w fun t49 w =>
 xPick t45 t49 (.bool false) w fun t50 w =>
 K t50 w)
 (xCall Try.prog (fnv 41) [t23] w fun t52 w =>
 xLoop [(.int .i64 0)] w [13] fun u w nxt0 =>
 loamlaw13_MemMoves_l1 K nxt0 t0 t1 t2 t3 t29 t52 (u 13) w)))
abbrev n_loamlaw13_MemMoves : Nat := 12
def loamlaw13_MemMoves_ann : Ann := { loop := fun i => bif Nat.beq i 0 then [13] else [], wr := fun i => bif Nat.beq i 0 then [8, 13, 14, 53, 54, 55, 56, 57, 58, 59, 60, 61, 62, 63, 64, 65, 66, 67, 68, 69, 70, 71, 72, 73, 74, 75, 76, 77, 78, 79, 80, 81, 82, 83, 84, 85, 86] else [], told := fun i => [] }
theorem loamlaw13_MemMoves_eq (t0 t1 t2 t3 : Value) (w : World) (K : K1) : reads Try.prog loamlaw13_MemMoves_ann Try.f12 #[t0, t1, t2, t3] w K = loamlaw13_MemMoves K t0 t1 t2 t3 w := by kernel_rfl
theorem loamlaw13_MemMoves_of {t0 t1 t2 t3 : Value} {w : World} {K : K1} (h : loamlaw13_MemMoves K t0 t1 t2 t3 w) : Yld Try.prog n_loamlaw13_MemMoves #[t0, t1, t2, t3] w K :=
  yld_of mixed loamlaw13_MemMoves_ann Try.func12 (by kernel_rfl) (loamlaw13_MemMoves_eq t0 t1 t2 t3 w K) h

/-! loam/loamlaw13.MemPlays: function 13 -/
def loamlaw13_MemPlays_j1 (K : K1) (nxt0 : List Value → World → Prop) (t5 t7 t8 t10 t11 : Value) (w : World) : Prop :=
 xBin Try.prog .eql 3 false t10 true (.int .i64 0) w fun t210_1 w =>
 xBin Try.prog .neq 4 false t210_1 false t11 w fun t212_1 w =>
 xGuard t212_1 false (fun w K => K t11 w) w fun t214_1 w =>
 xGuard t212_1 false (fun w K => xUn Try.prog .not t214_1 w K) w fun t215_1 w =>
 xGuard t212_1 false (fun w K => K t215_1 w) w fun t216_1 w =>
 xGuard t216_1 true (fun w K => K t10 w) w fun t217_1 w =>
 xGuard t216_1 true (fun w K => xBin Try.prog .neq 3 false t217_1 true (.int .i64 1) w K) w fun t218_1 w =>
 xGuard t212_1 false (fun w K => xPick t216_1 t218_1 (.bool false) w K) w fun t219_1 w =>
 xPick t212_1 (.bool true) t219_1 w fun t220_1 w =>
 xGuard t220_1 false (fun w K => K t5 w) w fun t222_1 w =>
 xGuard t220_1 false (fun w K => K t7 w) w fun t223_1 w =>
 xGuard t220_1 false (fun w K => xCall Try.prog (fnv 40) [t222_1, t223_1] w K) w fun t224_1 w =>
 xGuard t220_1 false (fun w K => xUn Try.prog .not t224_1 w K) w fun t225_1 w =>
 xPick t220_1 (.bool true) t225_1 w fun t226_1 w =>
 xIf t226_1
 (K (.bool false) w)
 (xBin Try.prog .add 3 false t8 true (.int .i64 1) w fun t44_1 w =>
 nxt0 [t5, t7, t44_1] w)
def loamlaw13_MemPlays_l2 (K : K1) (nxt0 : List Value → World → Prop) (nxt3 : List Value → World → Prop) (t5 t7 t8 t9 t10 t11 t12 t13 : Value) (w : World) : Prop :=
 xFieldAddr Try.prog 67 t9 3 w fun t135_1 w =>
 xLoad Try.prog 3 t135_1 w fun t136_1 w =>
 xBin Try.prog .lss 3 false t13 false t136_1 w fun t137_1 w =>
 xIf t137_1
 (xSq w.drew fun w =>
 xPur w (fun w K => K t12 w) fun t140_1 =>
 xPur w (fun w K => xFieldAddr Try.prog 67 t9 1 w K) fun t141_1 =>
 xRd w (fun K => xLoad Try.prog 3 t141_1 w K) fun t142_1 =>
 xPur w (fun w K => K t13 w) fun t143_1 =>
 xPur w (fun w K => xBin Try.prog .add 3 false t142_1 false t143_1 w K) fun t144_1 =>
 xPur w (fun w K => K t7 w) fun t145_1 =>
 xPur w (fun w K => xFieldAddr Try.prog 67 t9 2 w K) fun t146_1 =>
 xRd w (fun K => xLoad Try.prog 3 t146_1 w K) fun t147_1 =>
 xPur w (fun w K => K t13 w) fun t148_1 =>
 xPur w (fun w K => xBin Try.prog .add 3 false t147_1 false t148_1 w K) fun t149_1 =>
 xPur w (fun w K => xIndexAddr Try.prog 58 t145_1 t149_1 w K) fun t150_1 =>
 xRd w (fun K => xLoad Try.prog 23 t150_1 w K) fun t151_1 =>
 xPur w (fun w K => xIndexAddr Try.prog 58 t140_1 t144_1 w K) fun t152_1 =>
 xStore Try.prog 23 t152_1 t151_1 w fun _x13 w =>
 xBin Try.prog .add 3 false t13 true (.int .i64 1) w fun t139_1 w =>
 nxt3 [t139_1] w)
 (loamlaw13_MemPlays_j1 K nxt0 t5 t12 t8 t10 t11 w)
def loamlaw13_MemPlays_l3 (K : K1) (nxt0 : List Value → World → Prop) (nxt5 : List Value → World → Prop) (t5 t7 t8 t17 t18 : Value) (w : World) : Prop :=
 xBuiltin Try.prog .len #[58] 3 [false] [t17] w fun t202_1 w =>
 xBin Try.prog .lss 3 false t18 false t202_1 w fun t203_1 w =>
 xIf t203_1
 (xIndexAddr Try.prog 58 t17 t18 w fun t208_1 w =>
 xStore Try.prog 23 t208_1 (c64 77) w fun _ w =>
 xBin Try.prog .add 3 false t18 true (.int .i64 1) w fun t205_1 w =>
 nxt5 [t205_1] w)
 (loamlaw13_MemPlays_j1 K nxt0 t5 t7 t8 (.int .i64 0) (.bool true) w)
def loamlaw13_MemPlays_l1 (K : K1) (nxt0 : List Value → World → Prop) (t1 t5 t7 t8 : Value) (w : World) : Prop :=
 xBuiltin Try.prog .len #[65] 3 [false] [t1] w fun t41_1 w =>
 xBin Try.prog .lss 3 false t8 false t41_1 w fun t42_1 w =>
 xIf t42_1
 (xIndexAddr Try.prog 65 t1 t8 w fun t47_1 w =>
 xLoad Try.prog 67 t47_1 w fun t48_1 w =>
 xAlloc Try.prog 67 w fun t9_1 w =>
 xStore Try.prog 67 t9_1 t48_1 w fun _ w =>
 xFieldAddr Try.prog 67 t9_1 5 w fun t49_1 w =>
 xLoad Try.prog 22 t49_1 w fun t50_1 w =>
 xBuiltin Try.prog .len #[22] 3 [false] [t50_1] w fun t51_1 w =>
 xBin Try.prog .gtr 3 false t51_1 true (.int .i64 300) w fun t52_1 w =>
 xIf t52_1
 (K (.bool true) w)
 (xFieldAddr Try.prog 67 t9_1 0 w fun t53_1 w =>
 xLoad Try.prog 3 t53_1 w fun t54_1 w =>
 xBin Try.prog .eql 3 false t54_1 true (.int .i64 1) w fun t56_1 w =>
 xIf t56_1
 (xFieldAddr Try.prog 67 t9_1 1 w fun t58_1 w =>
 xLoad Try.prog 3 t58_1 w fun t59_1 w =>
 xFieldAddr Try.prog 67 t9_1 4 w fun t60_1 w =>
 xLoad Try.prog 23 t60_1 w fun t61_1 w =>
 xCall Try.prog (fnv 42) [t5, t59_1, t61_1] w fun t62_1 w =>
 xFieldAddr Try.prog 67 t9_1 1 w fun t63_1 w =>
 xLoad Try.prog 3 t63_1 w fun t64_1 w =>
 xBin Try.prog .geq 3 false t64_1 true (.int .i64 0) w fun t65_1 w =>
 xGuard t65_1 true (fun w K => xFieldAddr Try.prog 67 t9_1 1 w K) w fun t67_1 w =>
 xGuard t65_1 true (fun w K => xLoad Try.prog 3 t67_1 w K) w fun t68_1 w =>
 xGuard t65_1 true (fun w K => K t7 w) w fun t69_1 w =>
 xGuard t65_1 true (fun w K => xBuiltin Try.prog .len #[58] 3 [false] [t69_1] w K) w fun t70_1 w =>
 xGuard t65_1 true (fun w K => xBin Try.prog .lss 3 false t68_1 false t70_1 w K) w fun t71_1 w =>
 xPick t65_1 t71_1 (.bool false) w fun t72_1 w =>
 xIf t72_1
 (xFieldAddr Try.prog 67 t9_1 1 w fun t75_1 w =>
 xLoad Try.prog 3 t75_1 w fun t76_1 w =>
 xFieldAddr Try.prog 67 t9_1 4 w fun t77_1 w =>
 xLoad Try.prog 23 t77_1 w fun t78_1 w =>
 xIndexAddr Try.prog 58 t7 t76_1 w fun t79_1 w =>
 xStore Try.prog 23 t79_1 t78_1 w fun _ w =>
 loamlaw13_MemPlays_j1 K nxt0 t5 t7 t8 t62_1 t72_1 w)
 (loamlaw13_MemPlays_j1 K nxt0 t5 t7 t8 t62_1 t72_1 w))
 (xBin Try.prog .eql 3 false t54_1 true (.int .i64 2) w fun t81_1 w =>
 xIf t81_1
 (xFieldAddr Try.prog 67 t9_1 1 w fun t83_1 w =>
 xLoad Try.prog 3 t83_1 w fun t84_1 w =>
 xFieldAddr Try.prog 67 t9_1 5 w fun t85_1 w =>
 xLoad Try.prog 22 t85_1 w fun t86_1 w =>
 xCall Try.prog (fnv 32) [t5, t84_1, t86_1] w fun t87_1 w =>
 xFieldAddr Try.prog 67 t9_1 1 w fun t88_1 w =>
 xLoad Try.prog 3 t88_1 w fun t89_1 w =>
 xFieldAddr Try.prog 67 t9_1 5 w fun t90_1 w =>
 xLoad Try.prog 22 t90_1 w fun t91_1 w =>
 xBuiltin Try.prog .len #[22] 3 [false] [t91_1] w fun t92_1 w =>
 xBuiltin Try.prog .len #[58] 3 [false] [t7] w fun t94_1 w =>
 xBin Try.prog .mul 3 true (.int .i64 8) false t94_1 w fun t95_1 w =>
 xCall Try.prog (fnv 39) [t89_1, t92_1, t95_1] w fun t96_1 w =>
 xIf t96_1
 (xFieldAddr Try.prog 67 t9_1 1 w fun t99_1 w =>
 xLoad Try.prog 3 t99_1 w fun t100_1 w =>
 xFieldAddr Try.prog 67 t9_1 5 w fun t101_1 w =>
 xLoad Try.prog 22 t101_1 w fun t102_1 w =>
 xCall Try.prog (fnv 43) [t7, t100_1, t102_1] w fun t103_1 w =>
 loamlaw13_MemPlays_j1 K nxt0 t5 t103_1 t8 t87_1 t96_1 w)
 (loamlaw13_MemPlays_j1 K nxt0 t5 t7 t8 t87_1 t96_1 w))
 (xBin Try.prog .eql 3 false t54_1 true (.int .i64 3) w fun t105_1 w =>
 xIf t105_1
 (xFieldAddr Try.prog 67 t9_1 1 w fun t107_1 w =>
 xLoad Try.prog 3 t107_1 w fun t108_1 w =>
 xFieldAddr Try.prog 67 t9_1 2 w fun t109_1 w =>
 xLoad Try.prog 3 t109_1 w fun t110_1 w =>
 xFieldAddr Try.prog 67 t9_1 3 w fun t111_1 w =>
 xLoad Try.prog 3 t111_1 w fun t112_1 w =>
 xCall Try.prog (fnv 38) [t5, t108_1, t110_1, t112_1] w fun t113_1 w =>
 xFieldAddr Try.prog 67 t9_1 1 w fun t114_1 w =>
 xLoad Try.prog 3 t114_1 w fun t115_1 w =>
 xFieldAddr Try.prog 67 t9_1 3 w fun t116_1 w =>
 xLoad Try.prog 3 t116_1 w fun t117_1 w =>
 xBuiltin Try.prog .len #[58] 3 [false] [t7] w fun t119_1 w =>
 xCall Try.prog (fnv 39) [t115_1, t117_1, t119_1] w fun t120_1 w =>
 xGuard t120_1 true (fun w K => xFieldAddr Try.prog 67 t9_1 2 w K) w fun t122_1 w =>
 xGuard t120_1 true (fun w K => xLoad Try.prog 3 t122_1 w K) w fun t123_1 w =>
 xGuard t120_1 true (fun w K => xFieldAddr Try.prog 67 t9_1 3 w K) w fun t124_1 w =>
 xGuard t120_1 true (fun w K => xLoad Try.prog 3 t124_1 w K) w fun t125_1 w =>
 xGuard t120_1 true (fun w K => K t7 w) w fun t126_1 w =>
 xGuard t120_1 true (fun w K => xBuiltin Try.prog .len #[58] 3 [false] [t126_1] w K) w fun t127_1 w =>
 xGuard t120_1 true (fun w K => xCall Try.prog (fnv 39) [t123_1, t125_1, t127_1] w K) w fun t128_1 w =>
 xPick t120_1 t128_1 (.bool false) w fun t129_1 w =>
 xIf t129_1
 (xBuildSlice Try.prog 58 0 [] w fun t131_1 w =>
 xBuiltin Try.prog .append #[58, 58] 58 [false, false] [t131_1, t7] w fun t133_1 w =>
 xLoop [(.int .i64 0)] w [13] fun u w nxt3 =>
 loamlaw13_MemPlays_l2 K nxt0 nxt3 t5 t7 t8 t9_1 t113_1 t129_1 t133_1 (u 13) w)
 (loamlaw13_MemPlays_j1 K nxt0 t5 t7 t8 t113_1 t129_1 w))
 (xBin Try.prog .eql 3 false t54_1 true (.int .i64 4) w fun t155_1 w =>
 xIf t155_1
 (xFieldAddr Try.prog 67 t9_1 1 w fun t158_1 w =>
 xLoad Try.prog 3 t158_1 w fun t159_1 w =>
 xFieldAddr Try.prog 67 t9_1 3 w fun t160_1 w =>
 xLoad Try.prog 3 t160_1 w fun t161_1 w =>
 xCall Try.prog (fnv 33) [t5, t159_1, t161_1] w fun t162_1 w =>
 xExtract Try.prog t162_1 0 w fun t163_1 w =>
 xExtract Try.prog t162_1 1 w fun t164_1 w =>
 xFieldAddr Try.prog 67 t9_1 1 w fun t166_1 w =>
 xLoad Try.prog 3 t166_1 w fun t167_1 w =>
 xFieldAddr Try.prog 67 t9_1 3 w fun t168_1 w =>
 xLoad Try.prog 3 t168_1 w fun t169_1 w =>
 xBuiltin Try.prog .len #[58] 3 [false] [t7] w fun t171_1 w =>
 xBin Try.prog .mul 3 true (.int .i64 8) false t171_1 w fun t172_1 w =>
 xCall Try.prog (fnv 39) [t167_1, t169_1, t172_1] w fun t173_1 w =>
 xSq w.drew fun w =>
 xPur w (fun w K => K t173_1 w) fun t174_1 =>
 xPur w (fun w K => K t174_1 w) fun t175_1 =>
 xPur w (fun w K => xGuard t175_1 true (fun w K => K t163_1 w) w K) fun t176_1 =>
 xRd w (fun K => xGuard t175_1 true (fun w K => xConv Try.prog 22 9 t176_1 w K) w K) fun t177_1 =>
 xPur w (fun w K => xGuard t175_1 true (fun w K => K t7 w) w K) fun t178_1 =>
 xPur w (fun w K => xGuard t175_1 true (fun w K => xFieldAddr Try.prog 67 t9_1 1 w K) w K) fun t179_1 =>
 xRd w (fun K => xGuard t175_1 true (fun w K => xLoad Try.prog 3 t179_1 w K) w K) fun t180_1 =>
 xPur w (fun w K => xGuard t175_1 true (fun w K => xFieldAddr Try.prog 67 t9_1 3 w K) w K) fun t181_1 =>
 xRd w (fun K => xGuard t175_1 true (fun w K => xLoad Try.prog 3 t181_1 w K) w K) fun t182_1 =>
 xGuard t175_1 true (fun w K => xCall Try.prog (fnv 44) [t178_1, t180_1, t182_1] w K) w fun t183_1 w =>
 xRe w (fun K => xGuard t175_1 true (fun w K => xConv Try.prog 22 9 t176_1 w K) w K) t177_1 (
 xRd w (fun K => xGuard t175_1 true (fun w K => xConv Try.prog 22 9 t183_1 w K) w K) fun t184_1 =>
 xPur w (fun w K => xGuard t175_1 true (fun w K => xBin Try.prog .neq 9 false t177_1 false t184_1 w K) w K) fun t185_1 =>
 xPur w (fun w K => xPick t175_1 t185_1 (.bool false) w K) fun t186_1 =>
 xIf t186_1
 (K (.bool false) w)
 (loamlaw13_MemPlays_j1 K nxt0 t5 t7 t8 t164_1 t173_1 w)))
 (xBin Try.prog .eql 3 false t54_1 true (.int .i64 5) w fun t188_1 w =>
 xIf t188_1
 (xCall Try.prog (fnv 45) [t5] w fun t190_1 w =>
 xBin Try.prog .eql 48 false t190_1 true (.pointer none) w fun t192_1 w =>
 xIf t192_1
 (K (.bool false) w)
 (xCall Try.prog (fnv 42) [t5, (.int .i64 0), (c64 99)] w fun t194_1 w =>
 loamlaw13_MemPlays_j1 K nxt0 t190_1 t7 t8 (.int .i64 0) (.bool true) w))
 (xBin Try.prog .eql 3 false t54_1 true (.int .i64 6) w fun t197_1 w =>
 xIf t197_1
 (xCall Try.prog (fnv 41) [t5] w fun t199_1 w =>
 xLoop [(.int .i64 0)] w [18] fun u w nxt5 =>
 loamlaw13_MemPlays_l3 K nxt0 nxt5 t5 t7 t8 t199_1 (u 18) w)
 (loamlaw13_MemPlays_j1 K nxt0 t5 t7 t8 (.int .i64 0) (.bool true) w))))))))
 (K (.bool true) w)
def loamlaw13_MemPlays (K : K1) (t0 t1 : Value) (w : World) : Prop :=
 xCall Try.prog (fnv 30) [] w fun t19 w =>
 xUn Try.prog .not t19 w fun t20 w =>
 xIf t20
 (K (.bool false) w)
 (xBuiltin Try.prog .len #[58] 3 [false] [t0] w fun t22 w =>
 xBin Try.prog .gtr 3 false t22 true (.int .i64 100) w fun t23 w =>
 xGuard t23 false (fun w K => K t1 w) w fun t25 w =>
 xGuard t23 false (fun w K => xBuiltin Try.prog .len #[65] 3 [false] [t25] w K) w fun t26 w =>
 xGuard t23 false (fun w K => xBin Try.prog .gtr 3 false t26 true (.int .i64 60) w K) w fun t27 w =>
 xPick t23 (.bool true) t27 w fun t28 w =>
 xIf t28
 (K (.bool true) w)
 (xCall Try.prog (fnv 37) [t0] w fun t31 w =>
 xExtract Try.prog t31 0 w fun t32 w =>
 xExtract Try.prog t31 1 w fun t33 w =>
 xBin Try.prog .neq 3 false t33 true (.int .i64 0) w fun t35 w =>
 xIf t35
 (K (.bool false) w)
 (xBuildSlice Try.prog 58 0 [] w fun t36 w =>
 xBuiltin Try.prog .append #[58, 58] 58 [false, false] [t36, t0] w fun t38 w =>
 xLoop [t32, t38, (.int .i64 0)] w [5, 7, 8] fun u w nxt0 =>
 loamlaw13_MemPlays_l1 K nxt0 t1 (u 5) (u 7) (u 8) w)))
abbrev n_loamlaw13_MemPlays : Nat := 13
def loamlaw13_MemPlays_ann : Ann := { loop := fun i => bif Nat.beq i 3 then [13] else bif Nat.beq i 5 then [18] else bif Nat.beq i 0 then [5, 7, 8] else [], wr := fun i => bif Nat.beq i 3 then [13, 134, 135, 136, 137, 138, 139, 140, 141, 142, 143, 144, 145, 146, 147, 148, 149, 150, 151, 152] else bif Nat.beq i 5 then [18, 200, 201, 202, 203, 204, 205, 206, 207, 208] else bif Nat.beq i 0 then [4, 5, 7, 8, 9, 10, 11, 12, 13, 14, 15, 16, 17, 18, 39, 40, 41, 42, 43, 44, 45, 46, 47, 48, 49, 50, 51, 52, 53, 54, 55, 56, 57, 58, 59, 60, 61, 62, 63, 64, 65, 66, 67, 68, 69, 70, 71, 72, 73, 74, 75, 76, 77, 78, 79, 80, 81, 82, 83, 84, 85, 86, 87, 88, 89, 90, 91, 92, 93, 94, 95, 96, 97, 98, 99, 100, 101, 102, 103, 104, 105, 106, 107, 108, 109, 110, 111, 112, 113, 114, 115, 116, 117, 118, 119, 120, 121, 122, 123, 124, 125, 126, 127, 128, 129, 130, 131, 132, 133, 134, 135, 136, 137, 138, 139, 140, 141, 142, 143, 144, 145, 146, 147, 148, 149, 150, 151, 152, 153, 154, 155, 156, 157, 158, 159, 160, 161, 162, 163, 164, 165, 166, 167, 168, 169, 170, 171, 172, 173, 174, 175, 176, 177, 178, 179, 180, 181, 182, 183, 184, 185, 186, 187, 188, 189, 190, 191, 192, 193, 194, 195, 196, 197, 198, 199, 200, 201, 202, 203, 204, 205, 206, 207, 208, 209, 210, 211, 212, 213, 214, 215, 216, 217, 218, 219, 220, 221, 222, 223, 224, 225, 226] else [], told := fun i => bif Nat.beq i 36 then [(0, false, ⟨0, 1393796574908163946345982392040522594127872, some 140⟩), (1, false, ⟨0, 2787593149816327892691964784081045188248064, some 141⟩), (2, false, ⟨2, 8362779449448983678075894352243135564742656, some 142⟩), (3, false, ⟨0, 11150372599265311570767859136324180752998400, some 143⟩), (4, false, ⟨12, 39026304097428590497687506977134632635465728, some 144⟩), (5, false, ⟨0, 44601490397061246283071436545296723011960960, some 145⟩), (6, false, ⟨0, 89202980794122492566142873090593446023922176, some 146⟩), (7, false, ⟨64, 267608942382367477698428619271780338071764992, some 147⟩), (8, false, ⟨0, 356811923176489970264571492362373784095694848, some 148⟩), (9, false, ⟨384, 1248841731117714895926000223268308244334903296, some 149⟩), (10, false, ⟨544, 2185473029456001067870500390719539427586080768, some 150⟩), (11, false, ⟨1024, 4281743078117879643174857908348485409148239872, some 151⟩), (12, false, ⟨4095, 5732685312597278311321025578462669429631090688, some 152⟩), (13, false, ⟨8191, 8563486156235759286349715816696970818296479744, none⟩)] else bif Nat.beq i 42 then [(0, false, ⟨0, 23945242826029513411849172299223580994042798784120832, some 174⟩), (1, false, ⟨1, 71835728478088540235547516897670742982128396352356352, some 175⟩), (2, false, ⟨2, 143671456956177080471095033795341485964256792704729088, some 176⟩), (3, false, ⟨6, 335233399564413187765888412189130133916599182977662976, some 177⟩), (4, false, ⟨2, 431014370868531241413285101386024457892770378114138240, some 178⟩), (5, false, ⟨2, 814138256085003456002871858173601753797455158660039168, some 179⟩), (6, false, ⟨34, 2346633796950892314361218885323910937416194280843640832, some 180⟩), (7, false, ⟨2, 3112881567383836743540392398899065529225563841935442432, some 181⟩), (8, false, ⟨130, 9242863730847392176973780507500302263700520330669850624, some 182⟩), (9, false, ⟨338, 20353456402125086400071796454340043844936378966500966400, some 183⟩), (10, false, ⟨514, 36827783466433391627424026996205867568837824529974689792, some 184⟩), (11, false, ⟨1034, 73799238389822960335319149026207076623639905852654092288, some 185⟩), (12, false, ⟨2050, 147167462408777389429225012951028128789387041327194046464, some 186⟩)] else [], sq := fun i => bif Nat.beq i 36 then some (.rd true 0 (.rd true 1 (.rd false 2 (.rd true 3 (.rd true 4 (.rd true 5 (.rd true 6 (.rd false 7 (.rd true 8 (.rd true 9 (.rd true 10 (.rd false 11 (.rd true 12 (.ef 13 [] .done)))))))))))))) else bif Nat.beq i 42 then some (.rd true 0 (.rd true 1 (.rd true 2 (.rd false 3 (.rd true 4 (.rd true 5 (.rd false 6 (.rd true 7 (.rd false 8 (.ef 9 [3] (.rd false 10 (.rd true 11 (.rd true 12 .done))))))))))))) else none }
theorem loamlaw13_MemPlays_eq (t0 t1 : Value) (w : World) (K : K1) : reads Try.prog loamlaw13_MemPlays_ann Try.f13 #[t0, t1] w K = loamlaw13_MemPlays K t0 t1 w := by kernel_rfl
theorem loamlaw13_MemPlays_of {t0 t1 : Value} {w : World} {K : K1} (h : loamlaw13_MemPlays K t0 t1 w) : Yld Try.prog n_loamlaw13_MemPlays #[t0, t1] w K :=
  yld_of mixed loamlaw13_MemPlays_ann Try.func13 (by kernel_rfl) (loamlaw13_MemPlays_eq t0 t1 w K) h

/-! loam/loamlaw13.MemFields: function 14 -/
def loamlaw13_MemFields (K : K1) (t0 t1 : Value) (w : World) : Prop :=
 xCall Try.prog (fnv 30) [] w fun t9 w =>
 xUn Try.prog .not t9 w fun t10 w =>
 xIf t10
 (K (.bool false) w)
 (xBuiltin Try.prog .len #[58] 3 [false] [t0] w fun t12 w =>
 xBin Try.prog .gtr 3 false t12 true (.int .i64 100) w fun t13 w =>
 xIf t13
 (K (.bool true) w)
 (xCall Try.prog (fnv 37) [t0] w fun t16 w =>
 xExtract Try.prog t16 0 w fun t17 w =>
 xExtract Try.prog t16 1 w fun t18 w =>
 xCall Try.prog (fnv 33) [t17, t1, (.int .i64 1)] w fun t22 w =>
 xExtract Try.prog t22 0 w fun t23 w =>
 xExtract Try.prog t22 1 w fun t24 w =>
 xBin Try.prog .lss 3 false t1 true (.int .i64 0) w fun t26 w =>
 xGuard t26 false (fun w K => K t1 w) w fun t28 w =>
 xGuard t26 false (fun w K => K t0 w) w fun t29 w =>
 xGuard t26 false (fun w K => xBuiltin Try.prog .len #[58] 3 [false] [t29] w K) w fun t30 w =>
 xGuard t26 false (fun w K => xBin Try.prog .mul 3 true (.int .i64 8) false t30 w K) w fun t31 w =>
 xGuard t26 false (fun w K => xBin Try.prog .geq 3 false t28 false t31 w K) w fun t32 w =>
 xPick t26 (.bool true) t32 w fun t33 w =>
 xIf t33
 (xBin Try.prog .eql 3 false t24 true (.int .i64 1) w fun t35 w =>
 xGuard t35 true (fun w K => K t23 w) w fun t37 w =>
 xGuard t35 true (fun w K => xBuiltin Try.prog .len #[22] 3 [false] [t37] w K) w fun t38 w =>
 xGuard t35 true (fun w K => xBin Try.prog .eql 3 false t38 true (.int .i64 0) w K) w fun t39 w =>
 xPick t35 t39 (.bool false) w fun t40 w =>
 K t40 w)
 (xDraw w.drew fun le H =>
 xDet le (H) (fun w K => K t24 w) fun t41 =>
 xDet le (H) (fun w K => xBin Try.prog .eql 3 false t41 true (.int .i64 0) w K) fun t42 =>
 xDet le (H) (fun w K => K t42 w) fun t43 =>
 xDet le (H) (fun w K => xGuard t43 true (fun w K => K t23 w) w K) fun t44 =>
 xDet le (H) (fun w K => xGuard t43 true (fun w K => xBuiltin Try.prog .len #[22] 3 [false] [t44] w K) w K) fun t45 =>
 xDet le (H) (fun w K => xGuard t43 true (fun w K => xBin Try.prog .eql 3 false t45 true (.int .i64 1) w K) w K) fun t46 =>
 xDet le (H) (fun w K => xPick t43 t46 (.bool false) w K) fun t47 =>
 xDet le (H) (fun w K => K t47 w) fun t48 =>
 xDet le (H) (fun w K => xGuard t48 true (fun w K => K t23 w) w K) fun t49 =>
 xDet le (H) (fun w K => xGuard t48 true (fun w K => xIndexAddr Try.prog 22 t49 (.int .i64 0) w K) w K) fun t50 =>
 xDet le (H) (fun w K => xGuard t48 true (fun w K => xLoad Try.prog 5 t50 w K) w K) fun t51 =>
 xDet le (H) (fun w K => xGuard t48 true (fun w K => xConv Try.prog 5 23 t51 w K) w K) fun t52 =>
 xDet le (H) (fun w K => xGuard t48 true (fun w K => K t0 w) w K) fun t53 =>
 xDet le (H) (fun w K => xGuard t48 true (fun w K => K t1 w) w K) fun t54 =>
 xDet le (H) (fun w K => xGuard t48 true (fun w K => xBin Try.prog .quo 3 false t54 true (.int .i64 8) w K) w K) fun t55 =>
 xDet le (H) (fun w K => xGuard t48 true (fun w K => xIndexAddr Try.prog 58 t53 t55 w K) w K) fun t56 =>
 xDet le (H) (fun w K => xGuard t48 true (fun w K => xLoad Try.prog 23 t56 w K) w K) fun t57 =>
 xDet le (H) (fun w K => xGuard t48 true (fun w K => K t1 w) w K) fun t58 =>
 xDet le (H) (fun w K => xGuard t48 true (fun w K => xBin Try.prog .rem 3 false t58 true (.int .i64 8) w K) w K) fun t59 =>
 xDet le (H) (fun w K => xGuard t48 true (fun w K => xBin Try.prog .mul 3 true (.int .i64 8) false t59 w K) w K) fun t60 =>
 xDet le (H) (fun w K => xGuard t48 true (fun w K => xCall Try.prog (fnv 20) [t57, t60, (.int .i64 8)] w K) w K) fun t61 =>
 xDet le (H) (fun w K => xGuard t48 true (fun w K => xBin Try.prog .eql 23 false t52 false t61 w K) w K) fun t62 =>
 xDet le (H) (fun w K => xPick t48 t62 (.bool false) w K) fun t63 =>
 xDet le (H) (fun w K => K t63 w) fun t4 =>
 xEnd (H) fun w =>
 K t4 w)))
abbrev n_loamlaw13_MemFields : Nat := 14
def loamlaw13_MemFields_ann : Ann := { loop := fun i => [], wr := fun i => [], told := fun i => bif Nat.beq i 9 then [(0, false, ⟨0, 2199023255808, some 41⟩), (1, false, ⟨1, 6597069766656, some 42⟩), (2, false, ⟨2, 13194139533312, some 43⟩), (3, false, ⟨4, 26388279066752, some 44⟩), (4, false, ⟨12, 61572651155456, some 45⟩), (5, false, ⟨20, 114349209288704, some 46⟩), (6, false, ⟨36, 219902325555200, some 47⟩), (7, false, ⟨68, 422212465065984, some 48⟩), (8, false, ⟨128, 844424930132096, some 49⟩), (9, false, ⟨384, 1970324836974592, some 50⟩), (10, false, ⟨640, 3659174697238528, some 51⟩), (11, false, ⟨1152, 7036874417766400, some 52⟩), (12, false, ⟨128, 9288674231451649, some 53⟩), (13, false, ⟨128, 18295873486192642, some 54⟩), (14, false, ⟨8320, 54324670505156608, some 55⟩), (15, false, ⟨20608, 117375065288343552, some 56⟩), (16, false, ⟨32896, 216454257090494464, some 57⟩), (17, false, ⟨128, 288511851128422402, some 58⟩), (18, false, ⟨131200, 864972603431845888, some 59⟩), (19, false, ⟨262272, 1729663731886981120, some 60⟩), (20, false, ⟨589952, 3603161176873107456, some 61⟩), (21, false, ⟨1050752, 6922314102245163008, some 62⟩), (22, false, ⟨2097280, 13835339530258874368, some 63⟩), (23, false, ⟨8388607, 9223372036854775824, some 4⟩)] else [] }
theorem loamlaw13_MemFields_eq (t0 t1 : Value) (w : World) (K : K1) : reads Try.prog loamlaw13_MemFields_ann Try.f14 #[t0, t1] w K = loamlaw13_MemFields K t0 t1 w := by kernel_rfl
theorem loamlaw13_MemFields_of {t0 t1 : Value} {w : World} {K : K1} (h : loamlaw13_MemFields K t0 t1 w) : Yld Try.prog n_loamlaw13_MemFields #[t0, t1] w K :=
  yld_of mixed loamlaw13_MemFields_ann Try.func14 (by kernel_rfl) (loamlaw13_MemFields_eq t0 t1 w K) h

/-! loam/loamlaw1.known: function 15 -/
def loamlaw1_known (K : K1) (w : World) : Prop :=
 xBuildSlice Try.prog 22 3 [(0, (c8 1)), (1, (c8 2)), (2, (c8 3))] w fun t8 w =>
 xCall Try.prog (fnv 16) [t8, (.int .i64 1), (.int .i64 2)] w fun t9 w =>
 xExtract Try.prog t9 0 w fun t10 w =>
 xExtract Try.prog t9 1 w fun t11 w =>
 xBuildSlice Try.prog 22 3 [(0, (c8 9)), (1, (c8 9)), (2, (c8 9))] w fun t13 w =>
 xCall Try.prog (fnv 18) [t13, (.int .i64 1), (.int .i64 2), (c64 1027)] w fun t14 w =>
 xExtract Try.prog t14 0 w fun t15 w =>
 xExtract Try.prog t14 1 w fun t16 w =>
 xCall Try.prog (fnv 16) [(.slice none 0 0), (.int .i64 0), (.int .i64 1)] w fun t18 w =>
 xExtract Try.prog t18 0 w fun t19 w =>
 xExtract Try.prog t18 1 w fun t20 w =>
 xBin Try.prog .add 3 false t11 false t16 w fun t23 w =>
 xBin Try.prog .eql 3 false t23 true (.int .i64 0) w fun t24 w =>
 xGuard t24 true (fun w K => K t10 w) w fun t26 w =>
 xGuard t24 true (fun w K => xBin Try.prog .eql 23 false t26 true (c64 770) w K) w fun t27 w =>
 xPick t24 t27 (.bool false) w fun t28 w =>
 xGuard t28 true (fun w K => K t15 w) w fun t30 w =>
 xGuard t28 true (fun w K => xConv Try.prog 22 9 t30 w K) w fun t31 w =>
 xGuard t28 true (fun w K => xBin Try.prog .eql 9 false t31 true (.string { data := #[9, 3, 4] }) w K) w fun t32 w =>
 xPick t28 t32 (.bool false) w fun t33 w =>
 xGuard t33 true (fun w K => K t20 w) w fun t35 w =>
 xGuard t33 true (fun w K => xBin Try.prog .eql 3 false t35 true (.int .i64 1) w K) w fun t36 w =>
 xPick t33 t36 (.bool false) w fun t37 w =>
 xGuard t37 true (fun w K => xCall Try.prog (fnv 21) [(c64 255), (.int .i64 8)] w K) w fun t39 w =>
 xGuard t37 true (fun w K => xBin Try.prog .eql 2 false t39 true (.int .i64 (-1)) w K) w fun t40 w =>
 xPick t37 t40 (.bool false) w fun t41 w =>
 xGuard t41 true (fun w K => xCall Try.prog (fnv 23) [(.int .i64 300), (.int .i64 8)] w K) w fun t43 w =>
 xGuard t41 true (fun w K => xBin Try.prog .eql 2 false t43 true (.int .i64 44) w K) w fun t44 w =>
 xPick t41 t44 (.bool false) w fun t45 w =>
 xGuard t45 true (fun w K => xCall Try.prog (fnv 20) [(c64 43981), (.int .i64 4), (.int .i64 8)] w K) w fun t47 w =>
 xGuard t45 true (fun w K => xBin Try.prog .eql 23 false t47 true (c64 188) w K) w fun t48 w =>
 xPick t45 t48 (.bool false) w fun t49 w =>
 xGuard t49 true (fun w K => xCall Try.prog (fnv 25) [(c64 0), (.int .i64 4), (.int .i64 4), (c64 255)] w K) w fun t51 w =>
 xGuard t49 true (fun w K => xBin Try.prog .eql 23 false t51 true (c64 240) w K) w fun t52 w =>
 xPick t49 t52 (.bool false) w fun t53 w =>
 xGuard t53 true (fun w K => xCall Try.prog (fnv 28) [(c64 1), (.int .i64 (-1))] w K) w fun t55 w =>
 xGuard t53 true (fun w K => xBin Try.prog .eql 23 false t55 true (c64 9223372036854775808) w K) w fun t56 w =>
 xPick t53 t56 (.bool false) w fun t57 w =>
 xGuard t57 true (fun w K => xCall Try.prog (fnv 24) [(.int .i64 127), (.int .i64 8)] w K) w fun t59 w =>
 xPick t57 t59 (.bool false) w fun t60 w =>
 xGuard t60 true (fun w K => xCall Try.prog (fnv 24) [(.int .i64 128), (.int .i64 8)] w K) w fun t62 w =>
 xGuard t60 true (fun w K => xUn Try.prog .not t62 w K) w fun t63 w =>
 xPick t60 t63 (.bool false) w fun t64 w =>
 K t64 w
abbrev n_loamlaw1_known : Nat := 15
def loamlaw1_known_ann : Ann := { loop := fun i => [], wr := fun i => [], told := fun i => [] }
theorem loamlaw1_known_eq (w : World) (K : K1) : reads Try.prog loamlaw1_known_ann Try.f15 #[] w K = loamlaw1_known K  w := by kernel_rfl
theorem loamlaw1_known_of {w : World} {K : K1} (h : loamlaw1_known K w) : Yld Try.prog n_loamlaw1_known #[] w K :=
  yld_of mixed loamlaw1_known_ann Try.func15 (by kernel_rfl) (loamlaw1_known_eq  w K) h

/-! loam/bits.Get: function 16 -/
def bits_Get_l1 (K : K1) (nxt0 : List Value → World → Prop) (t0 t1 t8 t9 : Value) (w : World) : Prop :=
 xBin Try.prog .geq 3 false t9 true (.int .i64 0) w fun t19_1 w =>
 xIf t19_1
 (xBin Try.prog .shl 23 false t8 true (c64 8) w fun t23_1 w =>
 xBin Try.prog .add 3 false t1 false t9 w fun t27_1 w =>
 xIndexAddr Try.prog 22 t0 t27_1 w fun t28_1 w =>
 xLoad Try.prog 5 t28_1 w fun t29_1 w =>
 xConv Try.prog 5 23 t29_1 w fun t30_1 w =>
 xBin Try.prog .or 23 false t23_1 false t30_1 w fun t31_1 w =>
 xBin Try.prog .sub 3 false t9 true (.int .i64 1) w fun t21_1 w =>
 nxt0 [t31_1, t21_1] w)
 (K (.tuple #[t8, (.int .i64 0)]) w)
def bits_Get (K : K1) (t0 t1 t2 : Value) (w : World) : Prop :=
 xBuiltin Try.prog .len #[22] 3 [false] [t0] w fun t13 w =>
 xCall Try.prog (fnv 46) [t1, t2, t13] w fun t14 w =>
 xUn Try.prog .not t14 w fun t15 w =>
 xIf t15
 (K (.tuple #[(c64 0), (.int .i64 1)]) w)
 (xBin Try.prog .sub 3 false t2 true (.int .i64 1) w fun t17 w =>
 xLoop [(c64 0), t17] w [8, 9] fun u w nxt0 =>
 bits_Get_l1 K nxt0 t0 t1 (u 8) (u 9) w)
abbrev n_bits_Get : Nat := 16
def bits_Get_ann : Ann := { loop := fun i => bif Nat.beq i 0 then [8, 9] else [], wr := fun i => bif Nat.beq i 0 then [8, 9, 18, 19, 20, 21, 22, 23, 24, 25, 26, 27, 28, 29, 30, 31] else [], told := fun i => [] }
theorem bits_Get_eq (t0 t1 t2 : Value) (w : World) (K : K1) : reads Try.prog bits_Get_ann Try.f16 #[t0, t1, t2] w K = bits_Get K t0 t1 t2 w := by kernel_rfl
theorem bits_Get_of {t0 t1 t2 : Value} {w : World} {K : K1} (h : bits_Get K t0 t1 t2 w) : Yld Try.prog n_bits_Get #[t0, t1, t2] w K :=
  yld_of mixed bits_Get_ann Try.func16 (by kernel_rfl) (bits_Get_eq t0 t1 t2 w K) h

/-! loam/loamref1.Get: function 17 -/
def loamref1_Get_l1 (K : K1) (nxt0 : List Value → World → Prop) (t0 t1 t8 t9 : Value) (w : World) : Prop :=
 xBin Try.prog .geq 3 false t9 true (.int .i64 0) w fun t27_1 w =>
 xIf t27_1
 (xBin Try.prog .shl 23 false t8 true (c64 8) w fun t31_1 w =>
 xBin Try.prog .add 3 false t1 false t9 w fun t35_1 w =>
 xIndexAddr Try.prog 22 t0 t35_1 w fun t36_1 w =>
 xLoad Try.prog 5 t36_1 w fun t37_1 w =>
 xConv Try.prog 5 23 t37_1 w fun t38_1 w =>
 xBin Try.prog .or 23 false t31_1 false t38_1 w fun t39_1 w =>
 xBin Try.prog .sub 3 false t9 true (.int .i64 1) w fun t29_1 w =>
 nxt0 [t39_1, t29_1] w)
 (K (.tuple #[t8, (.int .i64 0)]) w)
def loamref1_Get (K : K1) (t0 t1 t2 : Value) (w : World) : Prop :=
 xBin Try.prog .lss 3 false t2 true (.int .i64 1) w fun t11 w =>
 xGuard t11 false (fun w K => K t2 w) w fun t13 w =>
 xGuard t11 false (fun w K => xBin Try.prog .gtr 3 false t13 true (.int .i64 8) w K) w fun t14 w =>
 xPick t11 (.bool true) t14 w fun t15 w =>
 xGuard t15 false (fun w K => K t1 w) w fun t17 w =>
 xGuard t15 false (fun w K => K t2 w) w fun t18 w =>
 xGuard t15 false (fun w K => K t0 w) w fun t19 w =>
 xGuard t15 false (fun w K => xBuiltin Try.prog .len #[22] 3 [false] [t19] w K) w fun t20 w =>
 xGuard t15 false (fun w K => xCall Try.prog (fnv 47) [t17, t18, t20] w K) w fun t21 w =>
 xGuard t15 false (fun w K => xUn Try.prog .not t21 w K) w fun t22 w =>
 xPick t15 (.bool true) t22 w fun t23 w =>
 xIf t23
 (K (.tuple #[(c64 0), (.int .i64 1)]) w)
 (xBin Try.prog .sub 3 false t2 true (.int .i64 1) w fun t25 w =>
 xLoop [(c64 0), t25] w [8, 9] fun u w nxt0 =>
 loamref1_Get_l1 K nxt0 t0 t1 (u 8) (u 9) w)
abbrev n_loamref1_Get : Nat := 17
def loamref1_Get_ann : Ann := { loop := fun i => bif Nat.beq i 0 then [8, 9] else [], wr := fun i => bif Nat.beq i 0 then [8, 9, 26, 27, 28, 29, 30, 31, 32, 33, 34, 35, 36, 37, 38, 39] else [], told := fun i => [] }
theorem loamref1_Get_eq (t0 t1 t2 : Value) (w : World) (K : K1) : reads Try.prog loamref1_Get_ann Try.f17 #[t0, t1, t2] w K = loamref1_Get K t0 t1 t2 w := by kernel_rfl
theorem loamref1_Get_of {t0 t1 t2 : Value} {w : World} {K : K1} (h : loamref1_Get K t0 t1 t2 w) : Yld Try.prog n_loamref1_Get #[t0, t1, t2] w K :=
  yld_of mixed loamref1_Get_ann Try.func17 (by kernel_rfl) (loamref1_Get_eq t0 t1 t2 w K) h

/-! loam/bits.Put: function 18 -/
def bits_Put_l1 (K : K1) (nxt0 : List Value → World → Prop) (t1 t3 t10 t24 t25 : Value) (w : World) : Prop :=
 xBin Try.prog .lss 3 false t25 false t24 w fun t26_1 w =>
 xIf t26_1
 (xBin Try.prog .add 3 false t1 false t25 w fun t31_1 w =>
 xBin Try.prog .mul 3 true (.int .i64 8) false t25 w fun t34_1 w =>
 xBin Try.prog .shr 23 false t3 false t34_1 w fun t35_1 w =>
 xConv Try.prog 23 5 t35_1 w fun t36_1 w =>
 xIndexAddr Try.prog 22 t10 t31_1 w fun t37_1 w =>
 xStore Try.prog 5 t37_1 t36_1 w fun _ w =>
 xBin Try.prog .add 3 false t25 true (.int .i64 1) w fun t38_1 w =>
 nxt0 [t38_1] w)
 (K (.tuple #[t10, (.int .i64 0)]) w)
def bits_Put (K : K1) (t0 t1 t2 t3 : Value) (w : World) : Prop :=
 xBuiltin Try.prog .len #[22] 3 [false] [t0] w fun t15 w =>
 xCall Try.prog (fnv 46) [t1, t2, t15] w fun t16 w =>
 xUn Try.prog .not t16 w fun t17 w =>
 xIf t17
 (K (.tuple #[(.slice none 0 0), (.int .i64 1)]) w)
 (xBuiltin Try.prog .len #[22] 3 [false] [t0] w fun t19 w =>
 xMakeSlice Try.prog 22 t19 t19 w fun t20 w =>
 xBuiltin Try.prog .copy #[22, 22] 3 [false, false] [t20, t0] w fun t23 w =>
 xLoop [(.int .i64 0)] w [25] fun u w nxt0 =>
 bits_Put_l1 K nxt0 t1 t3 t20 t2 (u 25) w)
abbrev n_bits_Put : Nat := 18
def bits_Put_ann : Ann := { loop := fun i => bif Nat.beq i 0 then [25] else [], wr := fun i => bif Nat.beq i 0 then [11, 25, 26, 27, 28, 29, 30, 31, 32, 33, 34, 35, 36, 37, 38] else [], told := fun i => [] }
theorem bits_Put_eq (t0 t1 t2 t3 : Value) (w : World) (K : K1) : reads Try.prog bits_Put_ann Try.f18 #[t0, t1, t2, t3] w K = bits_Put K t0 t1 t2 t3 w := by kernel_rfl
theorem bits_Put_of {t0 t1 t2 t3 : Value} {w : World} {K : K1} (h : bits_Put K t0 t1 t2 t3 w) : Yld Try.prog n_bits_Put #[t0, t1, t2, t3] w K :=
  yld_of mixed bits_Put_ann Try.func18 (by kernel_rfl) (bits_Put_eq t0 t1 t2 t3 w K) h

/-! loam/loamref1.Put: function 19 -/
def loamref1_Put (K : K1) (t0 t1 t2 t3 : Value) (w : World) : Prop :=
 xBin Try.prog .lss 3 false t2 true (.int .i64 1) w fun t12 w =>
 xGuard t12 false (fun w K => K t2 w) w fun t14 w =>
 xGuard t12 false (fun w K => xBin Try.prog .gtr 3 false t14 true (.int .i64 8) w K) w fun t15 w =>
 xPick t12 (.bool true) t15 w fun t16 w =>
 xGuard t16 false (fun w K => K t1 w) w fun t18 w =>
 xGuard t16 false (fun w K => K t2 w) w fun t19 w =>
 xGuard t16 false (fun w K => K t0 w) w fun t20 w =>
 xGuard t16 false (fun w K => xBuiltin Try.prog .len #[22] 3 [false] [t20] w K) w fun t21 w =>
 xGuard t16 false (fun w K => xCall Try.prog (fnv 47) [t18, t19, t21] w K) w fun t22 w =>
 xGuard t16 false (fun w K => xUn Try.prog .not t22 w K) w fun t23 w =>
 xPick t16 (.bool true) t23 w fun t24 w =>
 xIf t24
 (K (.tuple #[(.slice none 0 0), (.int .i64 1)]) w)
 (xBuildSlice Try.prog 22 0 [] w fun t25 w =>
 xSlice Try.prog 22 t0 none (some t1) none w fun t28 w =>
 xBuiltin Try.prog .append #[22, 22] 22 [false, false] [t25, t28] w fun t29 w =>
 xCall Try.prog (fnv 35) [t3, t2] w fun t32 w =>
 xBuiltin Try.prog .append #[22, 22] 22 [false, false] [t29, t32] w fun t33 w =>
 xBin Try.prog .add 3 false t1 false t2 w fun t38 w =>
 xSlice Try.prog 22 t0 (some t38) none none w fun t39 w =>
 xBuiltin Try.prog .append #[22, 22] 22 [false, false] [t33, t39] w fun t40 w =>
 K (.tuple #[t40, (.int .i64 0)]) w)
abbrev n_loamref1_Put : Nat := 19
def loamref1_Put_ann : Ann := { loop := fun i => [], wr := fun i => [], told := fun i => [] }
theorem loamref1_Put_eq (t0 t1 t2 t3 : Value) (w : World) (K : K1) : reads Try.prog loamref1_Put_ann Try.f19 #[t0, t1, t2, t3] w K = loamref1_Put K t0 t1 t2 t3 w := by kernel_rfl
theorem loamref1_Put_of {t0 t1 t2 t3 : Value} {w : World} {K : K1} (h : loamref1_Put K t0 t1 t2 t3 w) : Yld Try.prog n_loamref1_Put #[t0, t1, t2, t3] w K :=
  yld_of mixed loamref1_Put_ann Try.func19 (by kernel_rfl) (loamref1_Put_eq t0 t1 t2 t3 w K) h

/-! loam/bits.Field: function 20 -/
def bits_Field (K : K1) (t0 t1 t2 : Value) (w : World) : Prop :=
 xCall Try.prog (fnv 48) [t1, t2] w fun t12 w =>
 xExtract Try.prog t12 0 w fun t13 w =>
 xExtract Try.prog t12 1 w fun t14 w =>
 xUn Try.prog .not t14 w fun t16 w =>
 xIf t16
 (K (c64 0) w)
 (xBin Try.prog .and 23 false t0 false t13 w fun t19 w =>
 xBin Try.prog .shr 23 false t19 false t1 w fun t21 w =>
 K t21 w)
abbrev n_bits_Field : Nat := 20
def bits_Field_ann : Ann := { loop := fun i => [], wr := fun i => [], told := fun i => [] }
theorem bits_Field_eq (t0 t1 t2 : Value) (w : World) (K : K1) : reads Try.prog bits_Field_ann Try.f20 #[t0, t1, t2] w K = bits_Field K t0 t1 t2 w := by kernel_rfl
theorem bits_Field_of {t0 t1 t2 : Value} {w : World} {K : K1} (h : bits_Field K t0 t1 t2 w) : Yld Try.prog n_bits_Field #[t0, t1, t2] w K :=
  yld_of mixed bits_Field_ann Try.func20 (by kernel_rfl) (bits_Field_eq t0 t1 t2 w K) h

/-! loam/bits.Sign: function 21 -/
def bits_Sign (K : K1) (t0 t1 : Value) (w : World) : Prop :=
 xBin Try.prog .lss 3 false t1 true (.int .i64 1) w fun t6 w =>
 xGuard t6 false (fun w K => K t1 w) w fun t8 w =>
 xGuard t6 false (fun w K => xBin Try.prog .gtr 3 false t8 true (.int .i64 64) w K) w fun t9 w =>
 xPick t6 (.bool true) t9 w fun t10 w =>
 xIf t10
 (K (.int .i64 0) w)
 (xBin Try.prog .sub 3 true (.int .i64 64) false t1 w fun t13 w =>
 xBin Try.prog .shl 23 false t0 false t13 w fun t14 w =>
 xConv Try.prog 23 2 t14 w fun t15 w =>
 xBin Try.prog .sub 3 true (.int .i64 64) false t1 w fun t17 w =>
 xBin Try.prog .shr 2 false t15 false t17 w fun t18 w =>
 K t18 w)
abbrev n_bits_Sign : Nat := 21
def bits_Sign_ann : Ann := { loop := fun i => [], wr := fun i => [], told := fun i => [] }
theorem bits_Sign_eq (t0 t1 : Value) (w : World) (K : K1) : reads Try.prog bits_Sign_ann Try.f21 #[t0, t1] w K = bits_Sign K t0 t1 w := by kernel_rfl
theorem bits_Sign_of {t0 t1 : Value} {w : World} {K : K1} (h : bits_Sign K t0 t1 w) : Yld Try.prog n_bits_Sign #[t0, t1] w K :=
  yld_of mixed bits_Sign_ann Try.func21 (by kernel_rfl) (bits_Sign_eq t0 t1 w K) h

/-! loam/loamref1.Sign: function 22 -/
def loamref1_Sign_j1 (K : K1) (t5 : Value) (w : World) : Prop :=
 xConv Try.prog 23 2 t5 w fun t30_1 w =>
 K t30_1 w
def loamref1_Sign (K : K1) (t0 t1 : Value) (w : World) : Prop :=
 xBin Try.prog .lss 3 false t1 true (.int .i64 1) w fun t7 w =>
 xGuard t7 false (fun w K => K t1 w) w fun t9 w =>
 xGuard t7 false (fun w K => xBin Try.prog .gtr 3 false t9 true (.int .i64 64) w K) w fun t10 w =>
 xPick t7 (.bool true) t10 w fun t11 w =>
 xIf t11
 (K (.int .i64 0) w)
 (xCall Try.prog (fnv 49) [t1] w fun t14 w =>
 xBin Try.prog .and 23 false t0 false t14 w fun t15 w =>
 xBin Try.prog .sub 3 false t1 true (.int .i64 1) w fun t18 w =>
 xConv Try.prog 3 39 t18 w fun t19 w =>
 xBin Try.prog .shr 23 false t15 false t19 w fun t20 w =>
 xBin Try.prog .and 23 false t20 true (c64 1) w fun t21 w =>
 xBin Try.prog .eql 23 false t21 true (c64 1) w fun t22 w =>
 xIf t22
 (xCall Try.prog (fnv 49) [(.int .i64 64)] w fun t24 w =>
 xCall Try.prog (fnv 49) [t1] w fun t26 w =>
 xBin Try.prog .sub 23 false t24 false t26 w fun t27 w =>
 xBin Try.prog .or 23 false t15 false t27 w fun t28 w =>
 loamref1_Sign_j1 K t28 w)
 (loamref1_Sign_j1 K t15 w))
abbrev n_loamref1_Sign : Nat := 22
def loamref1_Sign_ann : Ann := { loop := fun i => [], wr := fun i => [], told := fun i => [] }
theorem loamref1_Sign_eq (t0 t1 : Value) (w : World) (K : K1) : reads Try.prog loamref1_Sign_ann Try.f22 #[t0, t1] w K = loamref1_Sign K t0 t1 w := by kernel_rfl
theorem loamref1_Sign_of {t0 t1 : Value} {w : World} {K : K1} (h : loamref1_Sign K t0 t1 w) : Yld Try.prog n_loamref1_Sign #[t0, t1] w K :=
  yld_of mixed loamref1_Sign_ann Try.func22 (by kernel_rfl) (loamref1_Sign_eq t0 t1 w K) h

/-! loam/bits.Narrow: function 23 -/
def bits_Narrow (K : K1) (t0 t1 : Value) (w : World) : Prop :=
 xConv Try.prog 2 23 t0 w fun t6 w =>
 xCall Try.prog (fnv 21) [t6, t1] w fun t8 w =>
 K t8 w
abbrev n_bits_Narrow : Nat := 23
def bits_Narrow_ann : Ann := { loop := fun i => [], wr := fun i => [], told := fun i => [] }
theorem bits_Narrow_eq (t0 t1 : Value) (w : World) (K : K1) : reads Try.prog bits_Narrow_ann Try.f23 #[t0, t1] w K = bits_Narrow K t0 t1 w := by kernel_rfl
theorem bits_Narrow_of {t0 t1 : Value} {w : World} {K : K1} (h : bits_Narrow K t0 t1 w) : Yld Try.prog n_bits_Narrow #[t0, t1] w K :=
  yld_of mixed bits_Narrow_ann Try.func23 (by kernel_rfl) (bits_Narrow_eq t0 t1 w K) h

/-! loam/bits.Fits: function 24 -/
def bits_Fits (K : K1) (t0 t1 : Value) (w : World) : Prop :=
 xCall Try.prog (fnv 23) [t0, t1] w fun t7 w =>
 xBin Try.prog .eql 2 false t7 false t0 w fun t9 w =>
 K t9 w
abbrev n_bits_Fits : Nat := 24
def bits_Fits_ann : Ann := { loop := fun i => [], wr := fun i => [], told := fun i => [] }
theorem bits_Fits_eq (t0 t1 : Value) (w : World) (K : K1) : reads Try.prog bits_Fits_ann Try.f24 #[t0, t1] w K = bits_Fits K t0 t1 w := by kernel_rfl
theorem bits_Fits_of {t0 t1 : Value} {w : World} {K : K1} (h : bits_Fits K t0 t1 w) : Yld Try.prog n_bits_Fits #[t0, t1] w K :=
  yld_of mixed bits_Fits_ann Try.func24 (by kernel_rfl) (bits_Fits_eq t0 t1 w K) h

/-! loam/bits.With: function 25 -/
def bits_With (K : K1) (t0 t1 t2 t3 : Value) (w : World) : Prop :=
 xCall Try.prog (fnv 48) [t1, t2] w fun t14 w =>
 xExtract Try.prog t14 0 w fun t15 w =>
 xExtract Try.prog t14 1 w fun t16 w =>
 xUn Try.prog .not t16 w fun t18 w =>
 xIf t18
 (K t0 w)
 (xBin Try.prog .andNot 23 false t0 false t15 w fun t22 w =>
 xBin Try.prog .shl 23 false t3 false t1 w fun t25 w =>
 xBin Try.prog .and 23 false t25 false t15 w fun t27 w =>
 xBin Try.prog .or 23 false t22 false t27 w fun t28 w =>
 K t28 w)
abbrev n_bits_With : Nat := 25
def bits_With_ann : Ann := { loop := fun i => [], wr := fun i => [], told := fun i => [] }
theorem bits_With_eq (t0 t1 t2 t3 : Value) (w : World) (K : K1) : reads Try.prog bits_With_ann Try.f25 #[t0, t1, t2, t3] w K = bits_With K t0 t1 t2 t3 w := by kernel_rfl
theorem bits_With_of {t0 t1 t2 t3 : Value} {w : World} {K : K1} (h : bits_With K t0 t1 t2 t3 w) : Yld Try.prog n_bits_With #[t0, t1, t2, t3] w K :=
  yld_of mixed bits_With_ann Try.func25 (by kernel_rfl) (bits_With_eq t0 t1 t2 t3 w K) h

/-! loam/loamref1.Field: function 26 -/
def loamref1_Field (K : K1) (t0 t1 t2 : Value) (w : World) : Prop :=
 xBin Try.prog .lss 3 false t1 true (.int .i64 0) w fun t8 w =>
 xGuard t8 false (fun w K => K t1 w) w fun t10 w =>
 xGuard t8 false (fun w K => xBin Try.prog .gtr 3 false t10 true (.int .i64 63) w K) w fun t11 w =>
 xPick t8 (.bool true) t11 w fun t12 w =>
 xGuard t12 false (fun w K => K t2 w) w fun t14 w =>
 xGuard t12 false (fun w K => xBin Try.prog .lss 3 false t14 true (.int .i64 1) w K) w fun t15 w =>
 xPick t12 (.bool true) t15 w fun t16 w =>
 xGuard t16 false (fun w K => K t2 w) w fun t18 w =>
 xGuard t16 false (fun w K => K t1 w) w fun t19 w =>
 xGuard t16 false (fun w K => xBin Try.prog .sub 3 true (.int .i64 64) false t19 w K) w fun t20 w =>
 xGuard t16 false (fun w K => xBin Try.prog .gtr 3 false t18 false t20 w K) w fun t21 w =>
 xPick t16 (.bool true) t21 w fun t22 w =>
 xIf t22
 (K (c64 0) w)
 (xConv Try.prog 3 39 t1 w fun t25 w =>
 xBin Try.prog .shr 23 false t0 false t25 w fun t26 w =>
 xCall Try.prog (fnv 49) [t2] w fun t28 w =>
 xBin Try.prog .and 23 false t26 false t28 w fun t29 w =>
 K t29 w)
abbrev n_loamref1_Field : Nat := 26
def loamref1_Field_ann : Ann := { loop := fun i => [], wr := fun i => [], told := fun i => [] }
theorem loamref1_Field_eq (t0 t1 t2 : Value) (w : World) (K : K1) : reads Try.prog loamref1_Field_ann Try.f26 #[t0, t1, t2] w K = loamref1_Field K t0 t1 t2 w := by kernel_rfl
theorem loamref1_Field_of {t0 t1 t2 : Value} {w : World} {K : K1} (h : loamref1_Field K t0 t1 t2 w) : Yld Try.prog n_loamref1_Field #[t0, t1, t2] w K :=
  yld_of mixed loamref1_Field_ann Try.func26 (by kernel_rfl) (loamref1_Field_eq t0 t1 t2 w K) h

/-! loam/loamref1.With: function 27 -/
def loamref1_With (K : K1) (t0 t1 t2 t3 : Value) (w : World) : Prop :=
 xBin Try.prog .lss 3 false t1 true (.int .i64 0) w fun t11 w =>
 xGuard t11 false (fun w K => K t1 w) w fun t13 w =>
 xGuard t11 false (fun w K => xBin Try.prog .gtr 3 false t13 true (.int .i64 63) w K) w fun t14 w =>
 xPick t11 (.bool true) t14 w fun t15 w =>
 xGuard t15 false (fun w K => K t2 w) w fun t17 w =>
 xGuard t15 false (fun w K => xBin Try.prog .lss 3 false t17 true (.int .i64 1) w K) w fun t18 w =>
 xPick t15 (.bool true) t18 w fun t19 w =>
 xGuard t19 false (fun w K => K t2 w) w fun t21 w =>
 xGuard t19 false (fun w K => K t1 w) w fun t22 w =>
 xGuard t19 false (fun w K => xBin Try.prog .sub 3 true (.int .i64 64) false t22 w K) w fun t23 w =>
 xGuard t19 false (fun w K => xBin Try.prog .gtr 3 false t21 false t23 w K) w fun t24 w =>
 xPick t19 (.bool true) t24 w fun t25 w =>
 xIf t25
 (K t0 w)
 (xCall Try.prog (fnv 49) [t2] w fun t28 w =>
 xConv Try.prog 3 39 t1 w fun t30 w =>
 xBin Try.prog .shl 23 false t28 false t30 w fun t31 w =>
 xBin Try.prog .and 23 false t0 false t31 w fun t35 w =>
 xBin Try.prog .sub 23 false t0 false t35 w fun t36 w =>
 xConv Try.prog 3 39 t1 w fun t39 w =>
 xBin Try.prog .shl 23 false t3 false t39 w fun t40 w =>
 xBin Try.prog .and 23 false t40 false t31 w fun t42 w =>
 xBin Try.prog .add 23 false t36 false t42 w fun t43 w =>
 K t43 w)
abbrev n_loamref1_With : Nat := 27
def loamref1_With_ann : Ann := { loop := fun i => [], wr := fun i => [], told := fun i => [] }
theorem loamref1_With_eq (t0 t1 t2 t3 : Value) (w : World) (K : K1) : reads Try.prog loamref1_With_ann Try.f27 #[t0, t1, t2, t3] w K = loamref1_With K t0 t1 t2 t3 w := by kernel_rfl
theorem loamref1_With_of {t0 t1 t2 t3 : Value} {w : World} {K : K1} (h : loamref1_With K t0 t1 t2 t3 w) : Yld Try.prog n_loamref1_With #[t0, t1, t2, t3] w K :=
  yld_of mixed loamref1_With_ann Try.func27 (by kernel_rfl) (loamref1_With_eq t0 t1 t2 t3 w K) h

/-! loam/bits.Turn: function 28 -/
def bits_Turn (K : K1) (t0 t1 : Value) (w : World) : Prop :=
 xBin Try.prog .and 3 false t1 true (.int .i64 63) w fun t6 w =>
 xDraw w.drew fun le H =>
 xDet le (H) (fun w K => K t0 w) fun t7 =>
 xDet le (H) (fun w K => K t6 w) fun t8 =>
 xDet le (H) (fun w K => xBin Try.prog .shl 23 false t7 false t8 w K) fun t9 =>
 xDet le (H) (fun w K => K t0 w) fun t10 =>
 xDet le (H) (fun w K => K t6 w) fun t11 =>
 xDet le (H) (fun w K => xBin Try.prog .sub 3 true (.int .i64 64) false t11 w K) fun t12 =>
 xDet le (H) (fun w K => xBin Try.prog .shr 23 false t10 false t12 w K) fun t13 =>
 xDet le (H) (fun w K => xBin Try.prog .or 23 false t9 false t13 w K) fun t14 =>
 xDet le (H) (fun w K => K t14 w) fun t4 =>
 xEnd (H) fun w =>
 K t4 w
abbrev n_bits_Turn : Nat := 28
def bits_Turn_ann : Ann := { loop := fun i => [], wr := fun i => [], told := fun i => bif Nat.beq i 2 then [(0, false, ⟨0, 129, some 7⟩), (1, false, ⟨0, 258, some 8⟩), (2, false, ⟨3, 896, some 9⟩), (3, false, ⟨0, 1025, some 10⟩), (4, false, ⟨0, 2050, some 11⟩), (5, false, ⟨16, 6144, some 12⟩), (6, false, ⟨40, 13312, some 13⟩), (7, false, ⟨68, 25088, some 14⟩), (8, false, ⟨255, 16400, some 4⟩)] else [] }
theorem bits_Turn_eq (t0 t1 : Value) (w : World) (K : K1) : reads Try.prog bits_Turn_ann Try.f28 #[t0, t1] w K = bits_Turn K t0 t1 w := by kernel_rfl
theorem bits_Turn_of {t0 t1 : Value} {w : World} {K : K1} (h : bits_Turn K t0 t1 w) : Yld Try.prog n_bits_Turn #[t0, t1] w K :=
  yld_of mixed bits_Turn_ann Try.func28 (by kernel_rfl) (bits_Turn_eq t0 t1 w K) h

/-! loam/loamref1.Turn: function 29 -/
def loamref1_Turn (K : K1) (t0 t1 : Value) (w : World) : Prop :=
 xBin Try.prog .rem 3 false t1 true (.int .i64 64) w fun t7 w =>
 xBin Try.prog .add 3 false t7 true (.int .i64 64) w fun t8 w =>
 xBin Try.prog .rem 3 false t8 true (.int .i64 64) w fun t9 w =>
 xConv Try.prog 3 39 t9 w fun t10 w =>
 xBin Try.prog .eql 39 false t10 true (c64 0) w fun t12 w =>
 xIf t12
 (K t0 w)
 (xBin Try.prog .shl 23 false t0 false t10 w fun t16 w =>
 xBin Try.prog .sub 39 true (c64 64) false t10 w fun t19 w =>
 xBin Try.prog .shr 23 false t0 false t19 w fun t20 w =>
 xBin Try.prog .or 23 false t16 false t20 w fun t21 w =>
 K t21 w)
abbrev n_loamref1_Turn : Nat := 29
def loamref1_Turn_ann : Ann := { loop := fun i => [], wr := fun i => [], told := fun i => [] }
theorem loamref1_Turn_eq (t0 t1 : Value) (w : World) (K : K1) : reads Try.prog loamref1_Turn_ann Try.f29 #[t0, t1] w K = loamref1_Turn K t0 t1 w := by kernel_rfl
theorem loamref1_Turn_of {t0 t1 : Value} {w : World} {K : K1} (h : loamref1_Turn K t0 t1 w) : Yld Try.prog n_loamref1_Turn #[t0, t1] w K :=
  yld_of mixed loamref1_Turn_ann Try.func29 (by kernel_rfl) (loamref1_Turn_eq t0 t1 w K) h

/-! loam/loamlaw13.known: function 30 -/
def loamlaw13_known (K : K1) (w : World) : Prop :=
 xCall Try.prog (fnv 31) [(.int .i64 4)] w fun t14 w =>
 xExtract Try.prog t14 0 w fun t15 w =>
 xExtract Try.prog t14 1 w fun t16 w =>
 xBin Try.prog .neq 3 false t16 true (.int .i64 0) w fun t18 w =>
 xGuard t18 false (fun w K => K t15 w) w fun t20 w =>
 xGuard t18 false (fun w K => xBin Try.prog .eql 48 false t20 true (.pointer none) w K) w fun t21 w =>
 xPick t18 (.bool true) t21 w fun t22 w =>
 xIf t22
 (K (.bool false) w)
 (xCall Try.prog (fnv 42) [t15, (.int .i64 1), (c64 578437695752307201)] w fun t24 w =>
 xCall Try.prog (fnv 33) [t15, (.int .i64 7), (.int .i64 3)] w fun t27 w =>
 xExtract Try.prog t27 0 w fun t28 w =>
 xExtract Try.prog t27 1 w fun t29 w =>
 xBuildSlice Try.prog 22 1 [(0, (c8 9))] w fun t31 w =>
 xCall Try.prog (fnv 32) [t15, (.int .i64 8), t31] w fun t32 w =>
 xCall Try.prog (fnv 34) [t15, (.int .i64 1)] w fun t35 w =>
 xExtract Try.prog t35 0 w fun t36 w =>
 xExtract Try.prog t35 1 w fun t37 w =>
 xCall Try.prog (fnv 38) [t15, (.int .i64 0), (.int .i64 1), (.int .i64 3)] w fun t39 w =>
 xCall Try.prog (fnv 34) [t15, (.int .i64 4)] w fun t42 w =>
 xExtract Try.prog t42 0 w fun t43 w =>
 xExtract Try.prog t42 1 w fun t44 w =>
 xCall Try.prog (fnv 41) [t15] w fun t46 w =>
 xBin Try.prog .add 3 false t24 false t29 w fun t49 w =>
 xBin Try.prog .add 3 false t49 false t32 w fun t51 w =>
 xBin Try.prog .add 3 false t51 false t37 w fun t53 w =>
 xBin Try.prog .add 3 false t53 false t39 w fun t55 w =>
 xBin Try.prog .eql 3 false t55 true (.int .i64 0) w fun t56 w =>
 xGuard t56 true (fun w K => K t28 w) w fun t58 w =>
 xGuard t56 true (fun w K => xConv Try.prog 22 9 t58 w K) w fun t59 w =>
 xGuard t56 true (fun w K => xBin Try.prog .eql 9 false t59 true (.string { data := #[0, 1, 2] }) w K) w fun t60 w =>
 xPick t56 t60 (.bool false) w fun t61 w =>
 xGuard t61 true (fun w K => K t36 w) w fun t63 w =>
 xGuard t61 true (fun w K => xBin Try.prog .eql 23 false t63 true (c64 578437695752307209) w K) w fun t64 w =>
 xPick t61 t64 (.bool false) w fun t65 w =>
 xGuard t65 true (fun w K => K t44 w) w fun t67 w =>
 xGuard t65 true (fun w K => xBin Try.prog .eql 3 false t67 true (.int .i64 1) w K) w fun t68 w =>
 xPick t65 t68 (.bool false) w fun t69 w =>
 xGuard t69 true (fun w K => K t46 w) w fun t71 w =>
 xGuard t69 true (fun w K => xBuiltin Try.prog .len #[58] 3 [false] [t71] w K) w fun t72 w =>
 xGuard t69 true (fun w K => xBin Try.prog .eql 3 false t72 true (.int .i64 4) w K) w fun t73 w =>
 xPick t69 t73 (.bool false) w fun t74 w =>
 xGuard t74 true (fun w K => K t46 w) w fun t76 w =>
 xGuard t74 true (fun w K => xIndexAddr Try.prog 58 t76 (.int .i64 0) w K) w fun t77 w =>
 xGuard t74 true (fun w K => xLoad Try.prog 23 t77 w K) w fun t78 w =>
 xGuard t74 true (fun w K => K t36 w) w fun t79 w =>
 xGuard t74 true (fun w K => xBin Try.prog .eql 23 false t78 false t79 w K) w fun t80 w =>
 xPick t74 t80 (.bool false) w fun t81 w =>
 xGuard t81 true (fun w K => K t15 w) w fun t83 w =>
 xGuard t81 true (fun w K => xCall Try.prog (fnv 36) [t83] w K) w fun t84 w =>
 xGuard t81 true (fun w K => xBin Try.prog .eql 3 false t84 true (.int .i64 4) w K) w fun t85 w =>
 xPick t81 t85 (.bool false) w fun t86 w =>
 K t86 w)
abbrev n_loamlaw13_known : Nat := 30
def loamlaw13_known_ann : Ann := { loop := fun i => [], wr := fun i => [], told := fun i => [] }
theorem loamlaw13_known_eq (w : World) (K : K1) : reads Try.prog loamlaw13_known_ann Try.f30 #[] w K = loamlaw13_known K  w := by kernel_rfl
theorem loamlaw13_known_of {w : World} {K : K1} (h : loamlaw13_known K w) : Yld Try.prog n_loamlaw13_known #[] w K :=
  yld_of mixed loamlaw13_known_ann Try.func30 (by kernel_rfl) (loamlaw13_known_eq  w K) h

/-! loam/mem.New: function 31 -/
def mem_New (K : K1) (t0 : Value) (w : World) : Prop :=
 xBin Try.prog .lss 3 false t0 true (.int .i64 0) w fun t5 w =>
 xGuard t5 false (fun w K => K t0 w) w fun t7 w =>
 xGuard t5 false (fun w K => xBin Try.prog .gtr 3 false t7 true (.int .i64 8192) w K) w fun t8 w =>
 xPick t5 (.bool true) t8 w fun t9 w =>
 xIf t9
 (K (.tuple #[(.pointer none), (.int .i64 1)]) w)
 (xMakeSlice Try.prog 58 t0 t0 w fun t11 w =>
 xBuild Try.prog 78 [(0, t11)] w fun t12 w =>
 xBox Try.prog 78 t12 w fun t13 w =>
 K (.tuple #[t13, (.int .i64 0)]) w)
abbrev n_mem_New : Nat := 31
def mem_New_ann : Ann := { loop := fun i => [], wr := fun i => [], told := fun i => [] }
theorem mem_New_eq (t0 : Value) (w : World) (K : K1) : reads Try.prog mem_New_ann Try.f31 #[t0] w K = mem_New K t0 w := by kernel_rfl
theorem mem_New_of {t0 : Value} {w : World} {K : K1} (h : mem_New K t0 w) : Yld Try.prog n_mem_New #[t0] w K :=
  yld_of mixed mem_New_ann Try.func31 (by kernel_rfl) (mem_New_eq t0 w K) h

/-! (*loam/mem.Mem).SetBytes: function 32 -/
def mem_Mem_SetBytes_l1 (K : K1) (nxt0 : List Value → World → Prop) (t0 t1 t23 t24 t25 : Value) (w : World) : Prop :=
 xBin Try.prog .lss 3 false t25 false t24 w fun t26_1 w =>
 xIf t26_1
 (xIndexAddr Try.prog 22 t23 t25 w fun t28_1 w =>
 xLoad Try.prog 5 t28_1 w fun t29_1 w =>
 xBin Try.prog .add 3 false t1 false t25 w fun t32_1 w =>
 xBin Try.prog .rem 3 false t32_1 true (.int .i64 8) w fun t34_1 w =>
 xBin Try.prog .mul 3 true (.int .i64 8) false t34_1 w fun t35_1 w =>
 xNilCheck t0 w fun t37_1 w =>
 xFieldAddr Try.prog 78 t37_1 0 w fun t38_1 w =>
 xLoad Try.prog 58 t38_1 w fun t39_1 w =>
 xBin Try.prog .quo 3 false t32_1 true (.int .i64 8) w fun t41_1 w =>
 xIndexAddr Try.prog 58 t39_1 t41_1 w fun t42_1 w =>
 xDraw w.drew fun le H =>
 xDet le (H) (fun w K => K t42_1 w) fun t43_1 =>
 xDet le (H) (fun w K => K t42_1 w) fun t44_1 =>
 xDet le (H) (fun w K => xNilCheck t44_1 w K) fun t45_1 =>
 xDet le (H) (fun w K => xLoad Try.prog 23 t45_1 w K) fun t46_1 =>
 xDet le (H) (fun w K => K t35_1 w) fun t47_1 =>
 xDet le (H) (fun w K => xBin Try.prog .shl 23 true (c64 255) false t47_1 w K) fun t48_1 =>
 xDet le (H) (fun w K => xBin Try.prog .andNot 23 false t46_1 false t48_1 w K) fun t49_1 =>
 xDet le (H) (fun w K => K t29_1 w) fun t50_1 =>
 xDet le (H) (fun w K => xConv Try.prog 5 23 t50_1 w K) fun t51_1 =>
 xDet le (H) (fun w K => K t35_1 w) fun t52_1 =>
 xDet le (H) (fun w K => xBin Try.prog .shl 23 false t51_1 false t52_1 w K) fun t53_1 =>
 xDet le (H) (fun w K => xBin Try.prog .or 23 false t49_1 false t53_1 w K) fun t54_1 =>
 xDet le (H) (fun w K => xNilCheck t43_1 w K) fun t55_1 =>
 xEnd (H) fun w =>
 xStore Try.prog 23 t55_1 t54_1 w fun _x13 w =>
 xBin Try.prog .add 3 false t25 true (.int .i64 1) w fun t56_1 w =>
 nxt0 [t56_1] w)
 (K (.int .i64 0) w)
def mem_Mem_SetBytes (K : K1) (t0 t1 t2 : Value) (w : World) : Prop :=
 xBuiltin Try.prog .len #[22] 3 [false] [t2] w fun t14 w =>
 xNilCheck t0 w fun t16 w =>
 xFieldAddr Try.prog 78 t16 0 w fun t17 w =>
 xLoad Try.prog 58 t17 w fun t18 w =>
 xBuiltin Try.prog .len #[58] 3 [false] [t18] w fun t19 w =>
 xBin Try.prog .mul 3 false t19 true (.int .i64 8) w fun t20 w =>
 xCall Try.prog (fnv 50) [t1, t14, t20] w fun t21 w =>
 xUn Try.prog .not t21 w fun t22 w =>
 xIf t22
 (K (.int .i64 1) w)
 (xBuiltin Try.prog .len #[22] 3 [false] [t2] w fun t24 w =>
 xLoop [(.int .i64 0)] w [25] fun u w nxt0 =>
 mem_Mem_SetBytes_l1 K nxt0 t0 t1 t2 t24 (u 25) w)
abbrev n_mem_Mem_SetBytes : Nat := 32
def mem_Mem_SetBytes_ann : Ann := { loop := fun i => bif Nat.beq i 0 then [25] else [], wr := fun i => bif Nat.beq i 0 then [7, 8, 9, 10, 11, 25, 26, 27, 28, 29, 30, 31, 32, 33, 34, 35, 36, 37, 38, 39, 40, 41, 42, 43, 44, 45, 46, 47, 48, 49, 50, 51, 52, 53, 54, 55, 56] else [], told := fun i => bif Nat.beq i 9 then [(0, false, ⟨0, 8796093024256, some 43⟩), (1, false, ⟨0, 17592186046464, some 44⟩), (2, false, ⟨2, 52776558133248, some 45⟩), (3, false, ⟨4, 105553116266496, some 46⟩), (4, false, ⟨0, 140737488356352, some 47⟩), (5, false, ⟨16, 422212465065984, some 48⟩), (6, false, ⟨40, 914793674309632, some 49⟩), (7, false, ⟨0, 1125899906842880, some 50⟩), (8, false, ⟨128, 3377699720527872, some 51⟩), (9, false, ⟨0, 4503599627371520, some 52⟩), (10, false, ⟨768, 15762598695796736, some 53⟩), (11, false, ⟨1088, 27584547717644288, some 54⟩), (12, false, ⟨4095, 36037593111986176, some 55⟩), (13, true, ⟨8191, 54043195528445952, none⟩)] else [] }
theorem mem_Mem_SetBytes_eq (t0 t1 t2 : Value) (w : World) (K : K1) : reads Try.prog mem_Mem_SetBytes_ann Try.f32 #[t0, t1, t2] w K = mem_Mem_SetBytes K t0 t1 t2 w := by kernel_rfl
theorem mem_Mem_SetBytes_of {t0 t1 t2 : Value} {w : World} {K : K1} (h : mem_Mem_SetBytes K t0 t1 t2 w) : Yld Try.prog n_mem_Mem_SetBytes #[t0, t1, t2] w K :=
  yld_of mixed mem_Mem_SetBytes_ann Try.func32 (by kernel_rfl) (mem_Mem_SetBytes_eq t0 t1 t2 w K) h

/-! (*loam/mem.Mem).Bytes: function 33 -/
def mem_Mem_Bytes_l1 (K : K1) (nxt0 : List Value → World → Prop) (t0 t1 t2 t8 t9 : Value) (w : World) : Prop :=
 xBin Try.prog .add 3 false t1 false t2 w fun t24_1 w =>
 xBin Try.prog .lss 3 false t9 false t24_1 w fun t25_1 w =>
 xIf t25_1
 (xNilCheck t0 w fun t30_1 w =>
 xFieldAddr Try.prog 78 t30_1 0 w fun t31_1 w =>
 xLoad Try.prog 58 t31_1 w fun t32_1 w =>
 xBin Try.prog .quo 3 false t9 true (.int .i64 8) w fun t34_1 w =>
 xIndexAddr Try.prog 58 t32_1 t34_1 w fun t35_1 w =>
 xLoad Try.prog 23 t35_1 w fun t36_1 w =>
 xBin Try.prog .rem 3 false t9 true (.int .i64 8) w fun t38_1 w =>
 xBin Try.prog .mul 3 true (.int .i64 8) false t38_1 w fun t39_1 w =>
 xBin Try.prog .shr 23 false t36_1 false t39_1 w fun t40_1 w =>
 xConv Try.prog 23 5 t40_1 w fun t41_1 w =>
 xBuildSlice Try.prog 22 1 [(0, t41_1)] w fun t42_1 w =>
 xBuiltin Try.prog .append #[22, 22] 22 [false, false] [t8, t42_1] w fun t43_1 w =>
 xBin Try.prog .add 3 false t9 true (.int .i64 1) w fun t27_1 w =>
 nxt0 [t43_1, t27_1] w)
 (xCall Try.prog (fnv 51) [t8] w fun t45 w =>
 K (.tuple #[t45, (.int .i64 0)]) w)
def mem_Mem_Bytes (K : K1) (t0 t1 t2 : Value) (w : World) : Prop :=
 xNilCheck t0 w fun t13 w =>
 xFieldAddr Try.prog 78 t13 0 w fun t14 w =>
 xLoad Try.prog 58 t14 w fun t15 w =>
 xBuiltin Try.prog .len #[58] 3 [false] [t15] w fun t16 w =>
 xBin Try.prog .mul 3 false t16 true (.int .i64 8) w fun t17 w =>
 xCall Try.prog (fnv 50) [t1, t2, t17] w fun t18 w =>
 xUn Try.prog .not t18 w fun t19 w =>
 xIf t19
 (K (.tuple #[(.slice none 0 0), (.int .i64 1)]) w)
 (xLoop [(.slice none 0 0), t1] w [8, 9] fun u w nxt0 =>
 mem_Mem_Bytes_l1 K nxt0 t0 t1 t2 (u 8) (u 9) w)
abbrev n_mem_Mem_Bytes : Nat := 33
def mem_Mem_Bytes_ann : Ann := { loop := fun i => bif Nat.beq i 0 then [8, 9] else [], wr := fun i => bif Nat.beq i 0 then [8, 9, 21, 22, 23, 24, 25, 26, 27, 28, 29, 30, 31, 32, 33, 34, 35, 36, 37, 38, 39, 40, 41, 42, 43] else [], told := fun i => [] }
theorem mem_Mem_Bytes_eq (t0 t1 t2 : Value) (w : World) (K : K1) : reads Try.prog mem_Mem_Bytes_ann Try.f33 #[t0, t1, t2] w K = mem_Mem_Bytes K t0 t1 t2 w := by kernel_rfl
theorem mem_Mem_Bytes_of {t0 t1 t2 : Value} {w : World} {K : K1} (h : mem_Mem_Bytes K t0 t1 t2 w) : Yld Try.prog n_mem_Mem_Bytes #[t0, t1, t2] w K :=
  yld_of mixed mem_Mem_Bytes_ann Try.func33 (by kernel_rfl) (mem_Mem_Bytes_eq t0 t1 t2 w K) h

/-! (*loam/mem.Mem).Get: function 34 -/
def mem_Mem_Get (K : K1) (t0 t1 : Value) (w : World) : Prop :=
 xNilCheck t0 w fun t8 w =>
 xFieldAddr Try.prog 78 t8 0 w fun t9 w =>
 xLoad Try.prog 58 t9 w fun t10 w =>
 xBuiltin Try.prog .len #[58] 3 [false] [t10] w fun t11 w =>
 xCall Try.prog (fnv 50) [t1, (.int .i64 1), t11] w fun t12 w =>
 xUn Try.prog .not t12 w fun t13 w =>
 xIf t13
 (K (.tuple #[(c64 0), (.int .i64 1)]) w)
 (xNilCheck t0 w fun t15 w =>
 xFieldAddr Try.prog 78 t15 0 w fun t16 w =>
 xLoad Try.prog 58 t16 w fun t17 w =>
 xIndexAddr Try.prog 58 t17 t1 w fun t19 w =>
 xLoad Try.prog 23 t19 w fun t20 w =>
 K (.tuple #[t20, (.int .i64 0)]) w)
abbrev n_mem_Mem_Get : Nat := 34
def mem_Mem_Get_ann : Ann := { loop := fun i => [], wr := fun i => [], told := fun i => [] }
theorem mem_Mem_Get_eq (t0 t1 : Value) (w : World) (K : K1) : reads Try.prog mem_Mem_Get_ann Try.f34 #[t0, t1] w K = mem_Mem_Get K t0 t1 w := by kernel_rfl
theorem mem_Mem_Get_of {t0 t1 : Value} {w : World} {K : K1} (h : mem_Mem_Get K t0 t1 w) : Yld Try.prog n_mem_Mem_Get #[t0, t1] w K :=
  yld_of mixed mem_Mem_Get_ann Try.func34 (by kernel_rfl) (mem_Mem_Get_eq t0 t1 w K) h

/-! loam/loamref1.Low: function 35 -/
def loamref1_Low_l1 (K : K1) (nxt0 : List Value → World → Prop) (t0 t1 t5 t6 : Value) (w : World) : Prop :=
 xBin Try.prog .lss 3 false t6 false t1 w fun t9_1 w =>
 xIf t9_1
 (xBin Try.prog .mul 3 true (.int .i64 8) false t6 w fun t15_1 w =>
 xConv Try.prog 3 39 t15_1 w fun t16_1 w =>
 xBin Try.prog .shr 23 false t0 false t16_1 w fun t17_1 w =>
 xConv Try.prog 23 5 t17_1 w fun t18_1 w =>
 xBuildSlice Try.prog 22 1 [(0, t18_1)] w fun t19_1 w =>
 xBuiltin Try.prog .append #[22, 22] 22 [false, false] [t5, t19_1] w fun t20_1 w =>
 xBin Try.prog .add 3 false t6 true (.int .i64 1) w fun t11_1 w =>
 nxt0 [t20_1, t11_1] w)
 (K t5 w)
def loamref1_Low (K : K1) (t0 t1 : Value) (w : World) : Prop :=
 xLoop [(.slice none 0 0), (.int .i64 0)] w [5, 6] fun u w nxt0 =>
 loamref1_Low_l1 K nxt0 t0 t1 (u 5) (u 6) w
abbrev n_loamref1_Low : Nat := 35
def loamref1_Low_ann : Ann := { loop := fun i => bif Nat.beq i 0 then [5, 6] else [], wr := fun i => bif Nat.beq i 0 then [5, 6, 7, 8, 9, 10, 11, 12, 13, 14, 15, 16, 17, 18, 19, 20] else [], told := fun i => [] }
theorem loamref1_Low_eq (t0 t1 : Value) (w : World) (K : K1) : reads Try.prog loamref1_Low_ann Try.f35 #[t0, t1] w K = loamref1_Low K t0 t1 w := by kernel_rfl
theorem loamref1_Low_of {t0 t1 : Value} {w : World} {K : K1} (h : loamref1_Low K t0 t1 w) : Yld Try.prog n_loamref1_Low #[t0, t1] w K :=
  yld_of mixed loamref1_Low_ann Try.func35 (by kernel_rfl) (loamref1_Low_eq t0 t1 w K) h

/-! (*loam/mem.Mem).Len: function 36 -/
def mem_Mem_Len (K : K1) (t0 : Value) (w : World) : Prop :=
 xNilCheck t0 w fun t4 w =>
 xFieldAddr Try.prog 78 t4 0 w fun t5 w =>
 xLoad Try.prog 58 t5 w fun t6 w =>
 xBuiltin Try.prog .len #[58] 3 [false] [t6] w fun t7 w =>
 K t7 w
abbrev n_mem_Mem_Len : Nat := 36
def mem_Mem_Len_ann : Ann := { loop := fun i => [], wr := fun i => [], told := fun i => [] }
theorem mem_Mem_Len_eq (t0 : Value) (w : World) (K : K1) : reads Try.prog mem_Mem_Len_ann Try.f36 #[t0] w K = mem_Mem_Len K t0 w := by kernel_rfl
theorem mem_Mem_Len_of {t0 : Value} {w : World} {K : K1} (h : mem_Mem_Len K t0 w) : Yld Try.prog n_mem_Mem_Len #[t0] w K :=
  yld_of mixed mem_Mem_Len_ann Try.func36 (by kernel_rfl) (mem_Mem_Len_eq t0 w K) h

/-! loam/mem.Of: function 37 -/
def mem_Of (K : K1) (t0 : Value) (w : World) : Prop :=
 xBuiltin Try.prog .len #[58] 3 [false] [t0] w fun t5 w =>
 xBin Try.prog .gtr 3 false t5 true (.int .i64 8192) w fun t6 w =>
 xIf t6
 (K (.tuple #[(.pointer none), (.int .i64 1)]) w)
 (xCall Try.prog (fnv 52) [t0] w fun t8 w =>
 xBuild Try.prog 78 [(0, t8)] w fun t9 w =>
 xBox Try.prog 78 t9 w fun t10 w =>
 K (.tuple #[t10, (.int .i64 0)]) w)
abbrev n_mem_Of : Nat := 37
def mem_Of_ann : Ann := { loop := fun i => [], wr := fun i => [], told := fun i => [] }
theorem mem_Of_eq (t0 : Value) (w : World) (K : K1) : reads Try.prog mem_Of_ann Try.f37 #[t0] w K = mem_Of K t0 w := by kernel_rfl
theorem mem_Of_of {t0 : Value} {w : World} {K : K1} (h : mem_Of K t0 w) : Yld Try.prog n_mem_Of #[t0] w K :=
  yld_of mixed mem_Of_ann Try.func37 (by kernel_rfl) (mem_Of_eq t0 w K) h

/-! (*loam/mem.Mem).Move: function 38 -/
def mem_Mem_Move (K : K1) (t0 t1 t2 t3 : Value) (w : World) : Prop :=
 xNilCheck t0 w fun t12 w =>
 xFieldAddr Try.prog 78 t12 0 w fun t13 w =>
 xLoad Try.prog 58 t13 w fun t14 w =>
 xBuiltin Try.prog .len #[58] 3 [false] [t14] w fun t15 w =>
 xCall Try.prog (fnv 50) [t1, t3, t15] w fun t16 w =>
 xUn Try.prog .not t16 w fun t17 w =>
 xGuard t17 false (fun w K => K t2 w) w fun t19 w =>
 xGuard t17 false (fun w K => K t3 w) w fun t20 w =>
 xGuard t17 false (fun w K => K t0 w) w fun t21 w =>
 xGuard t17 false (fun w K => xNilCheck t21 w K) w fun t22 w =>
 xGuard t17 false (fun w K => xFieldAddr Try.prog 78 t22 0 w K) w fun t23 w =>
 xGuard t17 false (fun w K => xLoad Try.prog 58 t23 w K) w fun t24 w =>
 xGuard t17 false (fun w K => xBuiltin Try.prog .len #[58] 3 [false] [t24] w K) w fun t25 w =>
 xGuard t17 false (fun w K => xCall Try.prog (fnv 50) [t19, t20, t25] w K) w fun t26 w =>
 xGuard t17 false (fun w K => xUn Try.prog .not t26 w K) w fun t27 w =>
 xPick t17 (.bool true) t27 w fun t28 w =>
 xIf t28
 (K (.int .i64 1) w)
 (xDraw w.drew fun le H =>
 xDet le (H) (fun w K => K t0 w) fun t29 =>
 xDet le (H) (fun w K => xNilCheck t29 w K) fun t30 =>
 xDet le (H) (fun w K => xFieldAddr Try.prog 78 t30 0 w K) fun t31 =>
 xDet le (H) (fun w K => xLoad Try.prog 58 t31 w K) fun t32 =>
 xDet le (H) (fun w K => K t1 w) fun t33 =>
 xDet le (H) (fun w K => K t1 w) fun t34 =>
 xDet le (H) (fun w K => K t3 w) fun t35 =>
 xDet le (H) (fun w K => xBin Try.prog .add 3 false t34 false t35 w K) fun t36 =>
 xDet le (H) (fun w K => xSlice Try.prog 58 t32 (some t33) (some t36) none w K) fun t37 =>
 xDet le (H) (fun w K => K t0 w) fun t38 =>
 xDet le (H) (fun w K => xNilCheck t38 w K) fun t39 =>
 xDet le (H) (fun w K => xFieldAddr Try.prog 78 t39 0 w K) fun t40 =>
 xDet le (H) (fun w K => xLoad Try.prog 58 t40 w K) fun t41 =>
 xDet le (H) (fun w K => K t2 w) fun t42 =>
 xDet le (H) (fun w K => K t2 w) fun t43 =>
 xDet le (H) (fun w K => K t3 w) fun t44 =>
 xDet le (H) (fun w K => xBin Try.prog .add 3 false t43 false t44 w K) fun t45 =>
 xDet le (H) (fun w K => xSlice Try.prog 58 t41 (some t42) (some t45) none w K) fun t46 =>
 xEnd (H) fun w =>
 xBuiltin Try.prog .copy #[58, 58] 3 [false, false] [t37, t46] w fun t47 w =>
 K (.int .i64 0) w)
abbrev n_mem_Mem_Move : Nat := 38
def mem_Mem_Move_ann : Ann := { loop := fun i => [], wr := fun i => [], told := fun i => bif Nat.beq i 3 then [(0, false, ⟨0, 536870913, some 29⟩), (1, false, ⟨1, 1610612736, some 30⟩), (2, false, ⟨2, 3221225472, some 31⟩), (3, false, ⟨4, 6442450944, some 32⟩), (4, false, ⟨0, 8589934594, some 33⟩), (5, false, ⟨0, 17179869186, some 34⟩), (6, false, ⟨0, 34359738376, some 35⟩), (7, false, ⟨96, 120259084288, some 36⟩), (8, false, ⟨152, 219043332096, some 37⟩), (9, false, ⟨0, 274877906945, some 38⟩), (10, false, ⟨512, 824633720832, some 39⟩), (11, false, ⟨1024, 1649267441664, some 40⟩), (12, false, ⟨2048, 3298534883328, some 41⟩), (13, false, ⟨0, 4398046511108, some 42⟩), (14, false, ⟨0, 8796093022212, some 43⟩), (15, false, ⟨0, 17592186044424, some 44⟩), (16, false, ⟨49152, 61572651155456, some 45⟩), (17, false, ⟨77824, 112150186033152, some 46⟩), (18, true, ⟨131328, 211243671486464, some 47⟩)] else [] }
theorem mem_Mem_Move_eq (t0 t1 t2 t3 : Value) (w : World) (K : K1) : reads Try.prog mem_Mem_Move_ann Try.f38 #[t0, t1, t2, t3] w K = mem_Mem_Move K t0 t1 t2 t3 w := by kernel_rfl
theorem mem_Mem_Move_of {t0 t1 t2 t3 : Value} {w : World} {K : K1} (h : mem_Mem_Move K t0 t1 t2 t3 w) : Yld Try.prog n_mem_Mem_Move #[t0, t1, t2, t3] w K :=
  yld_of mixed mem_Mem_Move_ann Try.func38 (by kernel_rfl) (mem_Mem_Move_eq t0 t1 t2 t3 w K) h

/-! loam/loamlaw13.in: function 39 -/
def loamlaw13_in (K : K1) (t0 t1 t2 : Value) (w : World) : Prop :=
 xBin Try.prog .geq 3 false t0 true (.int .i64 0) w fun t8 w =>
 xGuard t8 true (fun w K => K t1 w) w fun t10 w =>
 xGuard t8 true (fun w K => xBin Try.prog .geq 3 false t10 true (.int .i64 0) w K) w fun t11 w =>
 xPick t8 t11 (.bool false) w fun t12 w =>
 xGuard t12 true (fun w K => K t0 w) w fun t14 w =>
 xGuard t12 true (fun w K => K t2 w) w fun t15 w =>
 xGuard t12 true (fun w K => xBin Try.prog .leq 3 false t14 false t15 w K) w fun t16 w =>
 xPick t12 t16 (.bool false) w fun t17 w =>
 xGuard t17 true (fun w K => K t1 w) w fun t19 w =>
 xGuard t17 true (fun w K => K t2 w) w fun t20 w =>
 xGuard t17 true (fun w K => K t0 w) w fun t21 w =>
 xGuard t17 true (fun w K => xBin Try.prog .sub 3 false t20 false t21 w K) w fun t22 w =>
 xGuard t17 true (fun w K => xBin Try.prog .leq 3 false t19 false t22 w K) w fun t23 w =>
 xPick t17 t23 (.bool false) w fun t24 w =>
 K t24 w
abbrev n_loamlaw13_in : Nat := 39
def loamlaw13_in_ann : Ann := { loop := fun i => [], wr := fun i => [], told := fun i => [] }
theorem loamlaw13_in_eq (t0 t1 t2 : Value) (w : World) (K : K1) : reads Try.prog loamlaw13_in_ann Try.f39 #[t0, t1, t2] w K = loamlaw13_in K t0 t1 t2 w := by kernel_rfl
theorem loamlaw13_in_of {t0 t1 t2 : Value} {w : World} {K : K1} (h : loamlaw13_in K t0 t1 t2 w) : Yld Try.prog n_loamlaw13_in #[t0, t1, t2] w K :=
  yld_of mixed loamlaw13_in_ann Try.func39 (by kernel_rfl) (loamlaw13_in_eq t0 t1 t2 w K) h

/-! loam/loamlaw13.same: function 40 -/
def loamlaw13_same_l1 (K : K1) (nxt0 : List Value → World → Prop) (t0 t1 t5 t6 : Value) (w : World) : Prop :=
 xBuiltin Try.prog .len #[58] 3 [false] [t5] w fun t25_1 w =>
 xBin Try.prog .lss 3 false t6 false t25_1 w fun t26_1 w =>
 xIf t26_1
 (xCall Try.prog (fnv 34) [t0, t6] w fun t32_1 w =>
 xExtract Try.prog t32_1 0 w fun t33_1 w =>
 xExtract Try.prog t32_1 1 w fun t34_1 w =>
 xDraw w.drew fun le H =>
 xDet le (H) (fun w K => K t5 w) fun t35_1 =>
 xDet le (H) (fun w K => K t6 w) fun t36_1 =>
 xDet le (H) (fun w K => xIndexAddr Try.prog 58 t35_1 t36_1 w K) fun t37_1 =>
 xDet le (H) (fun w K => xLoad Try.prog 23 t37_1 w K) fun t38_1 =>
 xDet le (H) (fun w K => K t1 w) fun t39_1 =>
 xDet le (H) (fun w K => K t6 w) fun t40_1 =>
 xDet le (H) (fun w K => xIndexAddr Try.prog 58 t39_1 t40_1 w K) fun t41_1 =>
 xDet le (H) (fun w K => xLoad Try.prog 23 t41_1 w K) fun t42_1 =>
 xDet le (H) (fun w K => xBin Try.prog .neq 23 false t38_1 false t42_1 w K) fun t43_1 =>
 xDet le (H) (fun w K => K t43_1 w) fun t44_1 =>
 xDet le (H) (fun w K => xGuard t44_1 false (fun w K => K t33_1 w) w K) fun t45_1 =>
 xDet le (H) (fun w K => xGuard t44_1 false (fun w K => K t1 w) w K) fun t46_1 =>
 xDet le (H) (fun w K => xGuard t44_1 false (fun w K => K t6 w) w K) fun t47_1 =>
 xDet le (H) (fun w K => xGuard t44_1 false (fun w K => xIndexAddr Try.prog 58 t46_1 t47_1 w K) w K) fun t48_1 =>
 xDet le (H) (fun w K => xGuard t44_1 false (fun w K => xLoad Try.prog 23 t48_1 w K) w K) fun t49_1 =>
 xDet le (H) (fun w K => xGuard t44_1 false (fun w K => xBin Try.prog .neq 23 false t45_1 false t49_1 w K) w K) fun t50_1 =>
 xDet le (H) (fun w K => xPick t44_1 (.bool true) t50_1 w K) fun t51_1 =>
 xDet le (H) (fun w K => K t51_1 w) fun t52_1 =>
 xDet le (H) (fun w K => xGuard t52_1 false (fun w K => K t34_1 w) w K) fun t53_1 =>
 xDet le (H) (fun w K => xGuard t52_1 false (fun w K => xBin Try.prog .neq 3 false t53_1 true (.int .i64 0) w K) w K) fun t54_1 =>
 xDet le (H) (fun w K => xPick t52_1 (.bool true) t54_1 w K) fun t55_1 =>
 xEnd (H) fun w =>
 xIf t55_1
 (K (.bool false) w)
 (xBin Try.prog .add 3 false t6 true (.int .i64 1) w fun t28_1 w =>
 nxt0 [t28_1] w))
 (K (.bool true) w)
def loamlaw13_same (K : K1) (t0 t1 : Value) (w : World) : Prop :=
 xCall Try.prog (fnv 41) [t0] w fun t10 w =>
 xBuiltin Try.prog .len #[58] 3 [false] [t10] w fun t12 w =>
 xBuiltin Try.prog .len #[58] 3 [false] [t1] w fun t14 w =>
 xBin Try.prog .neq 3 false t12 false t14 w fun t15 w =>
 xGuard t15 false (fun w K => K t0 w) w fun t17 w =>
 xGuard t15 false (fun w K => xCall Try.prog (fnv 36) [t17] w K) w fun t18 w =>
 xGuard t15 false (fun w K => K t1 w) w fun t19 w =>
 xGuard t15 false (fun w K => xBuiltin Try.prog .len #[58] 3 [false] [t19] w K) w fun t20 w =>
 xGuard t15 false (fun w K => xBin Try.prog .neq 3 false t18 false t20 w K) w fun t21 w =>
 xPick t15 (.bool true) t21 w fun t22 w =>
 xIf t22
 (K (.bool false) w)
 (xLoop [(.int .i64 0)] w [6] fun u w nxt0 =>
 loamlaw13_same_l1 K nxt0 t0 t1 t10 (u 6) w)
abbrev n_loamlaw13_same : Nat := 40
def loamlaw13_same_ann : Ann := { loop := fun i => bif Nat.beq i 0 then [6] else [], wr := fun i => bif Nat.beq i 0 then [4, 6, 7, 8, 23, 24, 25, 26, 27, 28, 29, 30, 31, 32, 33, 34, 35, 36, 37, 38, 39, 40, 41, 42, 43, 44, 45, 46, 47, 48, 49, 50, 51, 52, 53, 54, 55] else [], told := fun i => bif Nat.beq i 8 then [(0, false, ⟨0, 34359738400, some 35⟩), (1, false, ⟨0, 68719476800, some 36⟩), (2, false, ⟨3, 240518168576, some 37⟩), (3, false, ⟨4, 412316860416, some 38⟩), (4, false, ⟨0, 549755813890, some 39⟩), (5, false, ⟨0, 1099511627840, some 40⟩), (6, false, ⟨48, 3848290697216, some 41⟩), (7, false, ⟨64, 6597069766656, some 42⟩), (8, false, ⟨136, 13469017440256, some 43⟩), (9, false, ⟨256, 26388279066624, some 44⟩), (10, false, ⟨512, 52776558133376, some 45⟩), (11, false, ⟨512, 87960930222082, some 46⟩), (12, false, ⟨512, 158329674399808, some 47⟩), (13, false, ⟨6656, 510173395288064, some 48⟩), (14, false, ⟨8704, 862017116176384, some 49⟩), (15, false, ⟨17920, 1741626418397184, some 50⟩), (16, false, ⟨33280, 3395291906572288, some 51⟩), (17, false, ⟨66048, 6755399441055744, some 52⟩), (18, false, ⟨131072, 13510798882111744, some 53⟩), (19, false, ⟨393216, 31525197391593472, some 54⟩), (20, false, ⟨655360, 58546795155816448, some 55⟩)] else [] }
theorem loamlaw13_same_eq (t0 t1 : Value) (w : World) (K : K1) : reads Try.prog loamlaw13_same_ann Try.f40 #[t0, t1] w K = loamlaw13_same K t0 t1 w := by kernel_rfl
theorem loamlaw13_same_of {t0 t1 : Value} {w : World} {K : K1} (h : loamlaw13_same K t0 t1 w) : Yld Try.prog n_loamlaw13_same #[t0, t1] w K :=
  yld_of mixed loamlaw13_same_ann Try.func40 (by kernel_rfl) (loamlaw13_same_eq t0 t1 w K) h

/-! (*loam/mem.Mem).Words: function 41 -/
def mem_Mem_Words (K : K1) (t0 : Value) (w : World) : Prop :=
 xNilCheck t0 w fun t4 w =>
 xFieldAddr Try.prog 78 t4 0 w fun t5 w =>
 xLoad Try.prog 58 t5 w fun t6 w =>
 xCall Try.prog (fnv 52) [t6] w fun t7 w =>
 xCall Try.prog (fnv 53) [t7] w fun t8 w =>
 K t8 w
abbrev n_mem_Mem_Words : Nat := 41
def mem_Mem_Words_ann : Ann := { loop := fun i => [], wr := fun i => [], told := fun i => [] }
theorem mem_Mem_Words_eq (t0 : Value) (w : World) (K : K1) : reads Try.prog mem_Mem_Words_ann Try.f41 #[t0] w K = mem_Mem_Words K t0 w := by kernel_rfl
theorem mem_Mem_Words_of {t0 : Value} {w : World} {K : K1} (h : mem_Mem_Words K t0 w) : Yld Try.prog n_mem_Mem_Words #[t0] w K :=
  yld_of mixed mem_Mem_Words_ann Try.func41 (by kernel_rfl) (mem_Mem_Words_eq t0 w K) h

/-! (*loam/mem.Mem).Set: function 42 -/
def mem_Mem_Set (K : K1) (t0 t1 t2 : Value) (w : World) : Prop :=
 xNilCheck t0 w fun t9 w =>
 xFieldAddr Try.prog 78 t9 0 w fun t10 w =>
 xLoad Try.prog 58 t10 w fun t11 w =>
 xBuiltin Try.prog .len #[58] 3 [false] [t11] w fun t12 w =>
 xCall Try.prog (fnv 50) [t1, (.int .i64 1), t12] w fun t13 w =>
 xUn Try.prog .not t13 w fun t14 w =>
 xIf t14
 (K (.int .i64 1) w)
 (xNilCheck t0 w fun t16 w =>
 xFieldAddr Try.prog 78 t16 0 w fun t17 w =>
 xLoad Try.prog 58 t17 w fun t18 w =>
 xIndexAddr Try.prog 58 t18 t1 w fun t21 w =>
 xStore Try.prog 23 t21 t2 w fun _ w =>
 K (.int .i64 0) w)
abbrev n_mem_Mem_Set : Nat := 42
def mem_Mem_Set_ann : Ann := { loop := fun i => [], wr := fun i => [], told := fun i => [] }
theorem mem_Mem_Set_eq (t0 t1 t2 : Value) (w : World) (K : K1) : reads Try.prog mem_Mem_Set_ann Try.f42 #[t0, t1, t2] w K = mem_Mem_Set K t0 t1 t2 w := by kernel_rfl
theorem mem_Mem_Set_of {t0 t1 t2 : Value} {w : World} {K : K1} (h : mem_Mem_Set K t0 t1 t2 w) : Yld Try.prog n_mem_Mem_Set #[t0, t1, t2] w K :=
  yld_of mixed mem_Mem_Set_ann Try.func42 (by kernel_rfl) (mem_Mem_Set_eq t0 t1 t2 w K) h

/-! loam/loamref14.SetBytes: function 43 -/
def loamref14_SetBytes_l1 (K : K1) (nxt0 : List Value → World → Prop) (t1 t2 t7 t8 : Value) (w : World) : Prop :=
 xBuiltin Try.prog .len #[22] 3 [false] [t2] w fun t14_1 w =>
 xBin Try.prog .lss 3 false t8 false t14_1 w fun t15_1 w =>
 xIf t15_1
 (xSq w.drew fun w =>
 xPur w (fun w K => K t7 w) fun t18_1 =>
 xPur w (fun w K => K t1 w) fun t19_1 =>
 xPur w (fun w K => K t8 w) fun t20_1 =>
 xPur w (fun w K => xBin Try.prog .add 3 false t19_1 false t20_1 w K) fun t21_1 =>
 xPur w (fun w K => xBin Try.prog .quo 3 false t21_1 true (.int .i64 8) w K) fun t22_1 =>
 xPur w (fun w K => K t7 w) fun t23_1 =>
 xPur w (fun w K => K t1 w) fun t24_1 =>
 xPur w (fun w K => K t8 w) fun t25_1 =>
 xPur w (fun w K => xBin Try.prog .add 3 false t24_1 false t25_1 w K) fun t26_1 =>
 xPur w (fun w K => xBin Try.prog .quo 3 false t26_1 true (.int .i64 8) w K) fun t27_1 =>
 xPur w (fun w K => xIndexAddr Try.prog 58 t23_1 t27_1 w K) fun t28_1 =>
 xRd w (fun K => xLoad Try.prog 23 t28_1 w K) fun t29_1 =>
 xPur w (fun w K => K t1 w) fun t30_1 =>
 xPur w (fun w K => K t8 w) fun t31_1 =>
 xPur w (fun w K => xBin Try.prog .add 3 false t30_1 false t31_1 w K) fun t32_1 =>
 xPur w (fun w K => xBin Try.prog .rem 3 false t32_1 true (.int .i64 8) w K) fun t33_1 =>
 xPur w (fun w K => xBin Try.prog .mul 3 true (.int .i64 8) false t33_1 w K) fun t34_1 =>
 xPur w (fun w K => K t2 w) fun t35_1 =>
 xPur w (fun w K => K t8 w) fun t36_1 =>
 xPur w (fun w K => xIndexAddr Try.prog 22 t35_1 t36_1 w K) fun t37_1 =>
 xRd w (fun K => xLoad Try.prog 5 t37_1 w K) fun t38_1 =>
 xPur w (fun w K => xConv Try.prog 5 23 t38_1 w K) fun t39_1 =>
 xCall Try.prog (fnv 27) [t29_1, t34_1, (.int .i64 8), t39_1] w fun t40_1 w =>
 xPur w (fun w K => xIndexAddr Try.prog 58 t18_1 t22_1 w K) fun t41_1 =>
 xStore Try.prog 23 t41_1 t40_1 w fun _x24 w =>
 xBin Try.prog .add 3 false t8 true (.int .i64 1) w fun t17_1 w =>
 nxt0 [t17_1] w)
 (K t7 w)
def loamref14_SetBytes (K : K1) (t0 t1 t2 : Value) (w : World) : Prop :=
 xBuildSlice Try.prog 58 0 [] w fun t9 w =>
 xBuiltin Try.prog .append #[58, 58] 58 [false, false] [t9, t0] w fun t11 w =>
 xLoop [(.int .i64 0)] w [8] fun u w nxt0 =>
 loamref14_SetBytes_l1 K nxt0 t1 t2 t11 (u 8) w
abbrev n_loamref14_SetBytes : Nat := 43
def loamref14_SetBytes_ann : Ann := { loop := fun i => bif Nat.beq i 0 then [8] else [], wr := fun i => bif Nat.beq i 0 then [8, 12, 13, 14, 15, 16, 17, 18, 19, 20, 21, 22, 23, 24, 25, 26, 27, 28, 29, 30, 31, 32, 33, 34, 35, 36, 37, 38, 39, 40, 41] else [], told := fun i => bif Nat.beq i 5 then [(0, false, ⟨0, 262272, some 18⟩), (1, false, ⟨0, 524290, some 19⟩), (2, false, ⟨0, 1048832, some 20⟩), (3, false, ⟨6, 3670016, some 21⟩), (4, false, ⟨8, 6291456, some 22⟩), (5, false, ⟨0, 8388736, some 23⟩), (6, false, ⟨0, 16777218, some 24⟩), (7, false, ⟨0, 33554688, some 25⟩), (8, false, ⟨192, 117440512, some 26⟩), (9, false, ⟨256, 201326592, some 27⟩), (10, false, ⟨544, 411041792, some 28⟩), (11, false, ⟨1024, 805306368, some 29⟩), (12, false, ⟨0, 1073741826, some 30⟩), (13, false, ⟨0, 2147483904, some 31⟩), (14, false, ⟨12288, 7516192768, some 32⟩), (15, false, ⟨16384, 12884901888, some 33⟩), (16, false, ⟨32768, 25769803776, some 34⟩), (17, false, ⟨0, 34359738372, some 35⟩), (18, false, ⟨0, 68719476992, some 36⟩), (19, false, ⟨393216, 240518168576, some 37⟩), (20, false, ⟨524288, 412316860416, some 38⟩), (21, false, ⟨1048576, 824633720832, some 39⟩), (22, false, ⟨2164736, 1666984181760, some 40⟩), (23, false, ⟨8388607, 2199027712000, some 41⟩), (24, false, ⟨16777215, 3298534883328, none⟩)] else [], sq := fun i => bif Nat.beq i 5 then some (.rd true 0 (.rd true 1 (.rd true 2 (.rd true 3 (.rd true 4 (.rd true 5 (.rd true 6 (.rd true 7 (.rd true 8 (.rd true 9 (.rd true 10 (.rd false 11 (.rd true 12 (.rd true 13 (.rd true 14 (.rd true 15 (.rd true 16 (.rd true 17 (.rd true 18 (.rd true 19 (.rd false 20 (.rd true 21 (.ef 22 [] (.rd true 23 (.ef 24 [] .done))))))))))))))))))))))))) else none }
theorem loamref14_SetBytes_eq (t0 t1 t2 : Value) (w : World) (K : K1) : reads Try.prog loamref14_SetBytes_ann Try.f43 #[t0, t1, t2] w K = loamref14_SetBytes K t0 t1 t2 w := by kernel_rfl
theorem loamref14_SetBytes_of {t0 t1 t2 : Value} {w : World} {K : K1} (h : loamref14_SetBytes K t0 t1 t2 w) : Yld Try.prog n_loamref14_SetBytes #[t0, t1, t2] w K :=
  yld_of mixed loamref14_SetBytes_ann Try.func43 (by kernel_rfl) (loamref14_SetBytes_eq t0 t1 t2 w K) h

/-! loam/loamref14.Bytes: function 44 -/
def loamref14_Bytes_l1 (K : K1) (nxt0 : List Value → World → Prop) (t0 t1 t2 t7 t8 : Value) (w : World) : Prop :=
 xBin Try.prog .lss 3 false t8 false t2 w fun t11_1 w =>
 xIf t11_1
 (xBin Try.prog .add 3 false t1 false t8 w fun t18_1 w =>
 xCall Try.prog (fnv 54) [t0, t18_1] w fun t19_1 w =>
 xBuildSlice Try.prog 22 1 [(0, t19_1)] w fun t20_1 w =>
 xBuiltin Try.prog .append #[22, 22] 22 [false, false] [t7, t20_1] w fun t21_1 w =>
 xBin Try.prog .add 3 false t8 true (.int .i64 1) w fun t13_1 w =>
 nxt0 [t21_1, t13_1] w)
 (K t7 w)
def loamref14_Bytes (K : K1) (t0 t1 t2 : Value) (w : World) : Prop :=
 xLoop [(.slice none 0 0), (.int .i64 0)] w [7, 8] fun u w nxt0 =>
 loamref14_Bytes_l1 K nxt0 t0 t1 t2 (u 7) (u 8) w
abbrev n_loamref14_Bytes : Nat := 44
def loamref14_Bytes_ann : Ann := { loop := fun i => bif Nat.beq i 0 then [7, 8] else [], wr := fun i => bif Nat.beq i 0 then [7, 8, 9, 10, 11, 12, 13, 14, 15, 16, 17, 18, 19, 20, 21] else [], told := fun i => [] }
theorem loamref14_Bytes_eq (t0 t1 t2 : Value) (w : World) (K : K1) : reads Try.prog loamref14_Bytes_ann Try.f44 #[t0, t1, t2] w K = loamref14_Bytes K t0 t1 t2 w := by kernel_rfl
theorem loamref14_Bytes_of {t0 t1 t2 : Value} {w : World} {K : K1} (h : loamref14_Bytes K t0 t1 t2 w) : Yld Try.prog n_loamref14_Bytes #[t0, t1, t2] w K :=
  yld_of mixed loamref14_Bytes_ann Try.func44 (by kernel_rfl) (loamref14_Bytes_eq t0 t1 t2 w K) h

/-! (*loam/mem.Mem).Twin: function 45 -/
def mem_Mem_Twin (K : K1) (t0 : Value) (w : World) : Prop :=
 xNilCheck t0 w fun t4 w =>
 xFieldAddr Try.prog 78 t4 0 w fun t5 w =>
 xLoad Try.prog 58 t5 w fun t6 w =>
 xCall Try.prog (fnv 52) [t6] w fun t7 w =>
 xBuild Try.prog 78 [(0, t7)] w fun t8 w =>
 xBox Try.prog 78 t8 w fun t9 w =>
 K t9 w
abbrev n_mem_Mem_Twin : Nat := 45
def mem_Mem_Twin_ann : Ann := { loop := fun i => [], wr := fun i => [], told := fun i => [] }
theorem mem_Mem_Twin_eq (t0 : Value) (w : World) (K : K1) : reads Try.prog mem_Mem_Twin_ann Try.f45 #[t0] w K = mem_Mem_Twin K t0 w := by kernel_rfl
theorem mem_Mem_Twin_of {t0 : Value} {w : World} {K : K1} (h : mem_Mem_Twin K t0 w) : Yld Try.prog n_mem_Mem_Twin #[t0] w K :=
  yld_of mixed mem_Mem_Twin_ann Try.func45 (by kernel_rfl) (mem_Mem_Twin_eq t0 w K) h

/-! loam/bits.within: function 46 -/
def bits_within (K : K1) (t0 t1 t2 : Value) (w : World) : Prop :=
 xBin Try.prog .geq 3 false t1 true (.int .i64 1) w fun t8 w =>
 xGuard t8 true (fun w K => K t1 w) w fun t10 w =>
 xGuard t8 true (fun w K => xBin Try.prog .leq 3 false t10 true (.int .i64 8) w K) w fun t11 w =>
 xPick t8 t11 (.bool false) w fun t12 w =>
 xGuard t12 true (fun w K => K t0 w) w fun t14 w =>
 xGuard t12 true (fun w K => xBin Try.prog .geq 3 false t14 true (.int .i64 0) w K) w fun t15 w =>
 xPick t12 t15 (.bool false) w fun t16 w =>
 xGuard t16 true (fun w K => K t1 w) w fun t18 w =>
 xGuard t16 true (fun w K => K t2 w) w fun t19 w =>
 xGuard t16 true (fun w K => xBin Try.prog .leq 3 false t18 false t19 w K) w fun t20 w =>
 xPick t16 t20 (.bool false) w fun t21 w =>
 xGuard t21 true (fun w K => K t0 w) w fun t23 w =>
 xGuard t21 true (fun w K => K t2 w) w fun t24 w =>
 xGuard t21 true (fun w K => K t1 w) w fun t25 w =>
 xGuard t21 true (fun w K => xBin Try.prog .sub 3 false t24 false t25 w K) w fun t26 w =>
 xGuard t21 true (fun w K => xBin Try.prog .leq 3 false t23 false t26 w K) w fun t27 w =>
 xPick t21 t27 (.bool false) w fun t28 w =>
 K t28 w
abbrev n_bits_within : Nat := 46
def bits_within_ann : Ann := { loop := fun i => [], wr := fun i => [], told := fun i => [] }
theorem bits_within_eq (t0 t1 t2 : Value) (w : World) (K : K1) : reads Try.prog bits_within_ann Try.f46 #[t0, t1, t2] w K = bits_within K t0 t1 t2 w := by kernel_rfl
theorem bits_within_of {t0 t1 t2 : Value} {w : World} {K : K1} (h : bits_within K t0 t1 t2 w) : Yld Try.prog n_bits_within #[t0, t1, t2] w K :=
  yld_of mixed bits_within_ann Try.func46 (by kernel_rfl) (bits_within_eq t0 t1 t2 w K) h

/-! loam/loamref1.in: function 47 -/
def loamref1_in (K : K1) (t0 t1 t2 : Value) (w : World) : Prop :=
 xBin Try.prog .geq 3 false t0 true (.int .i64 0) w fun t8 w =>
 xGuard t8 true (fun w K => K t0 w) w fun t10 w =>
 xGuard t8 true (fun w K => K t2 w) w fun t11 w =>
 xGuard t8 true (fun w K => xBin Try.prog .leq 3 false t10 false t11 w K) w fun t12 w =>
 xPick t8 t12 (.bool false) w fun t13 w =>
 xGuard t13 true (fun w K => K t1 w) w fun t15 w =>
 xGuard t13 true (fun w K => K t2 w) w fun t16 w =>
 xGuard t13 true (fun w K => K t0 w) w fun t17 w =>
 xGuard t13 true (fun w K => xBin Try.prog .sub 3 false t16 false t17 w K) w fun t18 w =>
 xGuard t13 true (fun w K => xBin Try.prog .leq 3 false t15 false t18 w K) w fun t19 w =>
 xPick t13 t19 (.bool false) w fun t20 w =>
 K t20 w
abbrev n_loamref1_in : Nat := 47
def loamref1_in_ann : Ann := { loop := fun i => [], wr := fun i => [], told := fun i => [] }
theorem loamref1_in_eq (t0 t1 t2 : Value) (w : World) (K : K1) : reads Try.prog loamref1_in_ann Try.f47 #[t0, t1, t2] w K = loamref1_in K t0 t1 t2 w := by kernel_rfl
theorem loamref1_in_of {t0 t1 t2 : Value} {w : World} {K : K1} (h : loamref1_in K t0 t1 t2 w) : Yld Try.prog n_loamref1_in #[t0, t1, t2] w K :=
  yld_of mixed loamref1_in_ann Try.func47 (by kernel_rfl) (loamref1_in_eq t0 t1 t2 w K) h

/-! loam/bits.mask: function 48 -/
def bits_mask (K : K1) (t0 t1 : Value) (w : World) : Prop :=
 xBin Try.prog .lss 3 false t0 true (.int .i64 0) w fun t7 w =>
 xGuard t7 false (fun w K => K t0 w) w fun t9 w =>
 xGuard t7 false (fun w K => xBin Try.prog .geq 3 false t9 true (.int .i64 64) w K) w fun t10 w =>
 xPick t7 (.bool true) t10 w fun t11 w =>
 xGuard t11 false (fun w K => K t1 w) w fun t13 w =>
 xGuard t11 false (fun w K => xBin Try.prog .lss 3 false t13 true (.int .i64 1) w K) w fun t14 w =>
 xPick t11 (.bool true) t14 w fun t15 w =>
 xGuard t15 false (fun w K => K t1 w) w fun t17 w =>
 xGuard t15 false (fun w K => K t0 w) w fun t18 w =>
 xGuard t15 false (fun w K => xBin Try.prog .sub 3 true (.int .i64 64) false t18 w K) w fun t19 w =>
 xGuard t15 false (fun w K => xBin Try.prog .gtr 3 false t17 false t19 w K) w fun t20 w =>
 xPick t15 (.bool true) t20 w fun t21 w =>
 xIf t21
 (K (.tuple #[(c64 0), (.bool false)]) w)
 (xBin Try.prog .sub 3 true (.int .i64 64) false t1 w fun t23 w =>
 xBin Try.prog .shr 23 true (c64 18446744073709551615) false t23 w fun t24 w =>
 xBin Try.prog .shl 23 false t24 false t0 w fun t26 w =>
 K (.tuple #[t26, (.bool true)]) w)
abbrev n_bits_mask : Nat := 48
def bits_mask_ann : Ann := { loop := fun i => [], wr := fun i => [], told := fun i => [] }
theorem bits_mask_eq (t0 t1 : Value) (w : World) (K : K1) : reads Try.prog bits_mask_ann Try.f48 #[t0, t1] w K = bits_mask K t0 t1 w := by kernel_rfl
theorem bits_mask_of {t0 t1 : Value} {w : World} {K : K1} (h : bits_mask K t0 t1 w) : Yld Try.prog n_bits_mask #[t0, t1] w K :=
  yld_of mixed bits_mask_ann Try.func48 (by kernel_rfl) (bits_mask_eq t0 t1 w K) h

/-! loam/loamref1.mask: function 49 -/
def loamref1_mask (K : K1) (t0 : Value) (w : World) : Prop :=
 xBin Try.prog .geq 3 false t0 true (.int .i64 64) w fun t4 w =>
 xIf t4
 (K (c64 18446744073709551615) w)
 (xConv Try.prog 3 39 t0 w fun t6 w =>
 xBin Try.prog .shl 23 true (c64 1) false t6 w fun t7 w =>
 xBin Try.prog .sub 23 false t7 true (c64 1) w fun t8 w =>
 K t8 w)
abbrev n_loamref1_mask : Nat := 49
def loamref1_mask_ann : Ann := { loop := fun i => [], wr := fun i => [], told := fun i => [] }
theorem loamref1_mask_eq (t0 : Value) (w : World) (K : K1) : reads Try.prog loamref1_mask_ann Try.f49 #[t0] w K = loamref1_mask K t0 w := by kernel_rfl
theorem loamref1_mask_of {t0 : Value} {w : World} {K : K1} (h : loamref1_mask K t0 w) : Yld Try.prog n_loamref1_mask #[t0] w K :=
  yld_of mixed loamref1_mask_ann Try.func49 (by kernel_rfl) (loamref1_mask_eq t0 w K) h

/-! loam/mem.in: function 50 -/
def mem_in (K : K1) (t0 t1 t2 : Value) (w : World) : Prop :=
 xBin Try.prog .geq 3 false t0 true (.int .i64 0) w fun t8 w =>
 xGuard t8 true (fun w K => K t1 w) w fun t10 w =>
 xGuard t8 true (fun w K => xBin Try.prog .geq 3 false t10 true (.int .i64 0) w K) w fun t11 w =>
 xPick t8 t11 (.bool false) w fun t12 w =>
 xGuard t12 true (fun w K => K t1 w) w fun t14 w =>
 xGuard t12 true (fun w K => K t2 w) w fun t15 w =>
 xGuard t12 true (fun w K => xBin Try.prog .leq 3 false t14 false t15 w K) w fun t16 w =>
 xPick t12 t16 (.bool false) w fun t17 w =>
 xGuard t17 true (fun w K => K t0 w) w fun t19 w =>
 xGuard t17 true (fun w K => K t2 w) w fun t20 w =>
 xGuard t17 true (fun w K => K t1 w) w fun t21 w =>
 xGuard t17 true (fun w K => xBin Try.prog .sub 3 false t20 false t21 w K) w fun t22 w =>
 xGuard t17 true (fun w K => xBin Try.prog .leq 3 false t19 false t22 w K) w fun t23 w =>
 xPick t17 t23 (.bool false) w fun t24 w =>
 K t24 w
abbrev n_mem_in : Nat := 50
def mem_in_ann : Ann := { loop := fun i => [], wr := fun i => [], told := fun i => [] }
theorem mem_in_eq (t0 t1 t2 : Value) (w : World) (K : K1) : reads Try.prog mem_in_ann Try.f50 #[t0, t1, t2] w K = mem_in K t0 t1 t2 w := by kernel_rfl
theorem mem_in_of {t0 t1 t2 : Value} {w : World} {K : K1} (h : mem_in K t0 t1 t2 w) : Yld Try.prog n_mem_in #[t0, t1, t2] w K :=
  yld_of mixed mem_in_ann Try.func50 (by kernel_rfl) (mem_in_eq t0 t1 t2 w K) h

/-! slices.Clip[[]byte,byte]: function 51 -/
def slices_Clip_byte_byte (K : K1) (t0 : Value) (w : World) : Prop :=
 xBuiltin Try.prog .len #[22] 3 [false] [t0] w fun t5 w =>
 xBuiltin Try.prog .len #[22] 3 [false] [t0] w fun t7 w =>
 xSlice Try.prog 22 t0 none (some t5) (some t7) w fun t8 w =>
 K t8 w
abbrev n_slices_Clip_byte_byte : Nat := 51
def slices_Clip_byte_byte_ann : Ann := { loop := fun i => [], wr := fun i => [], told := fun i => [] }
theorem slices_Clip_byte_byte_eq (t0 : Value) (w : World) (K : K1) : reads Try.prog slices_Clip_byte_byte_ann Try.f51 #[t0] w K = slices_Clip_byte_byte K t0 w := by kernel_rfl
theorem slices_Clip_byte_byte_of {t0 : Value} {w : World} {K : K1} (h : slices_Clip_byte_byte K t0 w) : Yld Try.prog n_slices_Clip_byte_byte #[t0] w K :=
  yld_of mixed slices_Clip_byte_byte_ann Try.func51 (by kernel_rfl) (slices_Clip_byte_byte_eq t0 w K) h

/-! slices.Clone[[]uint64,uint64]: function 52 -/
def slices_Clone_uint64_uint64 (K : K1) (t0 : Value) (w : World) : Prop :=
 xBin Try.prog .eql 58 false t0 true (.slice none 0 0) w fun t4 w =>
 xIf t4
 (K (.slice none 0 0) w)
 (xBuildSlice Try.prog 58 0 [] w fun t5 w =>
 xBuiltin Try.prog .append #[58, 58] 58 [false, false] [t5, t0] w fun t7 w =>
 K t7 w)
abbrev n_slices_Clone_uint64_uint64 : Nat := 52
def slices_Clone_uint64_uint64_ann : Ann := { loop := fun i => [], wr := fun i => [], told := fun i => [] }
theorem slices_Clone_uint64_uint64_eq (t0 : Value) (w : World) (K : K1) : reads Try.prog slices_Clone_uint64_uint64_ann Try.f52 #[t0] w K = slices_Clone_uint64_uint64 K t0 w := by kernel_rfl
theorem slices_Clone_uint64_uint64_of {t0 : Value} {w : World} {K : K1} (h : slices_Clone_uint64_uint64 K t0 w) : Yld Try.prog n_slices_Clone_uint64_uint64 #[t0] w K :=
  yld_of mixed slices_Clone_uint64_uint64_ann Try.func52 (by kernel_rfl) (slices_Clone_uint64_uint64_eq t0 w K) h

/-! slices.Clip[[]uint64,uint64]: function 53 -/
def slices_Clip_uint64_uint64 (K : K1) (t0 : Value) (w : World) : Prop :=
 xBuiltin Try.prog .len #[58] 3 [false] [t0] w fun t5 w =>
 xBuiltin Try.prog .len #[58] 3 [false] [t0] w fun t7 w =>
 xSlice Try.prog 58 t0 none (some t5) (some t7) w fun t8 w =>
 K t8 w
abbrev n_slices_Clip_uint64_uint64 : Nat := 53
def slices_Clip_uint64_uint64_ann : Ann := { loop := fun i => [], wr := fun i => [], told := fun i => [] }
theorem slices_Clip_uint64_uint64_eq (t0 : Value) (w : World) (K : K1) : reads Try.prog slices_Clip_uint64_uint64_ann Try.f53 #[t0] w K = slices_Clip_uint64_uint64 K t0 w := by kernel_rfl
theorem slices_Clip_uint64_uint64_of {t0 : Value} {w : World} {K : K1} (h : slices_Clip_uint64_uint64 K t0 w) : Yld Try.prog n_slices_Clip_uint64_uint64 #[t0] w K :=
  yld_of mixed slices_Clip_uint64_uint64_ann Try.func53 (by kernel_rfl) (slices_Clip_uint64_uint64_eq t0 w K) h

/-! loam/loamref14.byteAt: function 54 -/
def loamref14_byteAt (K : K1) (t0 t1 : Value) (w : World) : Prop :=
 xBin Try.prog .quo 3 false t1 true (.int .i64 8) w fun t7 w =>
 xIndexAddr Try.prog 58 t0 t7 w fun t8 w =>
 xLoad Try.prog 23 t8 w fun t9 w =>
 xBin Try.prog .rem 3 false t1 true (.int .i64 8) w fun t11 w =>
 xBin Try.prog .mul 3 true (.int .i64 8) false t11 w fun t12 w =>
 xConv Try.prog 3 39 t12 w fun t13 w =>
 xBin Try.prog .shr 23 false t9 false t13 w fun t14 w =>
 xConv Try.prog 23 5 t14 w fun t15 w =>
 K t15 w
abbrev n_loamref14_byteAt : Nat := 54
def loamref14_byteAt_ann : Ann := { loop := fun i => [], wr := fun i => [], told := fun i => [] }
theorem loamref14_byteAt_eq (t0 t1 : Value) (w : World) (K : K1) : reads Try.prog loamref14_byteAt_ann Try.f54 #[t0, t1] w K = loamref14_byteAt K t0 t1 w := by kernel_rfl
theorem loamref14_byteAt_of {t0 t1 : Value} {w : World} {K : K1} (h : loamref14_byteAt K t0 t1 w) : Yld Try.prog n_loamref14_byteAt #[t0, t1] w K :=
  yld_of mixed loamref14_byteAt_ann Try.func54 (by kernel_rfl) (loamref14_byteAt_eq t0 t1 w K) h

end Go.Proofs.Ytlijgnekpggejaa
