/- Each function of the set, as it is loaded, read as a statement on values; and that a call gives what the reading asks. -/
import Derived.Test.YthhcmoknppljpaaDoorBase
set_option linter.unusedVariables false
namespace Go.Proofs.YthhcmoknppljpaaDoor
open Go.Sh Go.RowKit
/-! loam/loamlaw18.CanonAny: function 3 -/
/-! loam/loamlaw18.CanonTwo: function 4 -/
/-! loam/loamlaw18.CanonTurned: function 5 -/
/-! loam/loamlaw18.CanonUnlike: function 6 -/
def loamlaw18_CanonUnlike_j1 (K : K1) (t2 t5 t9 : Value) (w : World) : Prop :=
 xSq w.drew fun w =>
 xRd w (fun K => xLoad Tryd.prog 25 t5 w K) fun t91_1 =>
 xRd w (fun K => xLoad Tryd.prog 25 t9 w K) fun t92_1 =>
 xCall Tryd.prog (fnv 21) [t91_1, t92_1] w fun t93_1 w =>
 xPur w (fun w K => xUn Tryd.prog .not t93_1 w K) fun t94_1 =>
 xPur w (fun w K => K t94_1 w) fun t95_1 =>
 xRd w (fun K => xGuard t95_1 true (fun w K => xLoad Tryd.prog 25 t2 w K) w K) fun t96_1 =>
 xRd w (fun K => xGuard t95_1 true (fun w K => xLoad Tryd.prog 25 t9 w K) w K) fun t97_1 =>
 xGuard t95_1 true (fun w K => xCall Tryd.prog (fnv 21) [t96_1, t97_1] w K) w fun t98_1 w =>
 xPur w (fun w K => xGuard t95_1 true (fun w K => xUn Tryd.prog .not t98_1 w K) w K) fun t99_1 =>
 xPur w (fun w K => xPick t95_1 t99_1 (.bool false) w K) fun t100_1 =>
 xPur w (fun w K => K t100_1 w) fun t101_1 =>
 xRd w (fun K => xGuard t101_1 true (fun w K => xLoad Tryd.prog 25 t5 w K) w K) fun t102_1 =>
 xRd w (fun K => xGuard t101_1 true (fun w K => xLoad Tryd.prog 25 t9 w K) w K) fun t104_1 =>
 xGuard t101_1 true (fun w K => xCall Tryd.prog (fnv 14) [t102_1] w K) w fun t103_1 w =>
 xRe w (fun K => xGuard t101_1 true (fun w K => xLoad Tryd.prog 25 t9 w K) w K) t104_1 (
 xGuard t101_1 true (fun w K => xCall Tryd.prog (fnv 14) [t104_1] w K) w fun t105_1 w =>
 xPur w (fun w K => xGuard t101_1 true (fun w K => xBin Tryd.prog .neq 9 false t103_1 false t105_1 w K) w K) fun t106_1 =>
 xPur w (fun w K => xPick t101_1 t106_1 (.bool false) w K) fun t107_1 =>
 xPur w (fun w K => K t107_1 w) fun t108_1 =>
 xRd w (fun K => xGuard t108_1 true (fun w K => xLoad Tryd.prog 25 t5 w K) w K) fun t109_1 =>
 xRd w (fun K => xGuard t108_1 true (fun w K => xLoad Tryd.prog 25 t2 w K) w K) fun t110_1 =>
 xGuard t108_1 true (fun w K => xCall Tryd.prog (fnv 21) [t109_1, t110_1] w K) w fun t111_1 w =>
 xPur w (fun w K => xPick t108_1 t111_1 (.bool false) w K) fun t112_1 =>
 xPur w (fun w K => K t112_1 w) fun t4_1 =>
 K t4_1 w)
def loamlaw18_CanonUnlike_l2 (K : K1) (nxt2 : List Value → World → Prop) (t2 t5 t8 t9 t10 : Value) (w : World) : Prop :=
 xFieldAddr Tryd.prog 25 t9 0 w fun t49_1 w =>
 xLoad Tryd.prog 22 t49_1 w fun t50_1 w =>
 xBuiltin Tryd.prog .len #[22] 3 [false] [t50_1] w fun t51_1 w =>
 xBin Tryd.prog .lss 3 false t10 false t51_1 w fun t52_1 w =>
 xIf t52_1
 (xFieldAddr Tryd.prog 25 t9 0 w fun t56_1 w =>
 xLoad Tryd.prog 22 t56_1 w fun t57_1 w =>
 xIndexAddr Tryd.prog 22 t57_1 t10 w fun t59_1 w =>
 xFieldAddr Tryd.prog 52 t59_1 1 w fun t60_1 w =>
 xLoad Tryd.prog 45 t60_1 w fun t61_1 w =>
 xBuiltin Tryd.prog .len #[45] 3 [false] [t61_1] w fun t62_1 w =>
 xBin Tryd.prog .lss 3 false t8 false t62_1 w fun t63_1 w =>
 xIf t63_1
 (xSq w.drew fun w =>
 xPur w (fun w K => xFieldAddr Tryd.prog 25 t9 0 w K) fun t64_1 =>
 xRd w (fun K => xLoad Tryd.prog 22 t64_1 w K) fun t65_1 =>
 xPur w (fun w K => K t10 w) fun t66_1 =>
 xPur w (fun w K => xIndexAddr Tryd.prog 22 t65_1 t66_1 w K) fun t67_1 =>
 xPur w (fun w K => xFieldAddr Tryd.prog 52 t67_1 1 w K) fun t68_1 =>
 xRd w (fun K => xLoad Tryd.prog 45 t68_1 w K) fun t69_1 =>
 xPur w (fun w K => K t8 w) fun t70_1 =>
 xPur w (fun w K => xFieldAddr Tryd.prog 25 t9 0 w K) fun t71_1 =>
 xRd w (fun K => xLoad Tryd.prog 22 t71_1 w K) fun t72_1 =>
 xPur w (fun w K => K t10 w) fun t73_1 =>
 xPur w (fun w K => xIndexAddr Tryd.prog 22 t72_1 t73_1 w K) fun t74_1 =>
 xPur w (fun w K => xFieldAddr Tryd.prog 52 t74_1 1 w K) fun t75_1 =>
 xRd w (fun K => xLoad Tryd.prog 45 t75_1 w K) fun t76_1 =>
 xPur w (fun w K => K t8 w) fun t77_1 =>
 xPur w (fun w K => xIndexAddr Tryd.prog 45 t76_1 t77_1 w K) fun t78_1 =>
 xRd w (fun K => xLoad Tryd.prog 5 t78_1 w K) fun t79_1 =>
 xPur w (fun w K => xBin Tryd.prog .add 5 false t79_1 true (c8 1) w K) fun t80_1 =>
 xPur w (fun w K => xIndexAddr Tryd.prog 45 t69_1 t70_1 w K) fun t81_1 =>
 xStore Tryd.prog 5 t81_1 t80_1 w fun _x18 w =>
 loamlaw18_CanonUnlike_j1 K t2 t5 t9 w)
 (xFieldAddr Tryd.prog 25 t9 0 w fun t83_1 w =>
 xLoad Tryd.prog 22 t83_1 w fun t84_1 w =>
 xIndexAddr Tryd.prog 22 t84_1 t10 w fun t86_1 w =>
 xFieldAddr Tryd.prog 52 t86_1 1 w fun t87_1 w =>
 xLoad Tryd.prog 45 t87_1 w fun t88_1 w =>
 xBuiltin Tryd.prog .len #[45] 3 [false] [t88_1] w fun t89_1 w =>
 xBin Tryd.prog .sub 3 false t8 false t89_1 w fun t90_1 w =>
 xBin Tryd.prog .add 3 false t10 true (.int .i64 1) w fun t54_1 w =>
 nxt2 [t90_1, t54_1] w))
 (loamlaw18_CanonUnlike_j1 K t2 t5 t9 w)
def loamlaw18_CanonUnlike_l1 (K : K1) (nxt0 : List Value → World → Prop) (t1 t2 t5 t6 t7 : Value) (w : World) : Prop :=
 xFieldAddr Tryd.prog 25 t5 0 w fun t25_1 w =>
 xLoad Tryd.prog 22 t25_1 w fun t26_1 w =>
 xBuiltin Tryd.prog .len #[22] 3 [false] [t26_1] w fun t27_1 w =>
 xBin Tryd.prog .lss 3 false t7 false t27_1 w fun t28_1 w =>
 xIf t28_1
 (xFieldAddr Tryd.prog 25 t5 0 w fun t32_1 w =>
 xLoad Tryd.prog 22 t32_1 w fun t33_1 w =>
 xIndexAddr Tryd.prog 22 t33_1 t7 w fun t35_1 w =>
 xFieldAddr Tryd.prog 52 t35_1 1 w fun t36_1 w =>
 xLoad Tryd.prog 45 t36_1 w fun t37_1 w =>
 xBuiltin Tryd.prog .len #[45] 3 [false] [t37_1] w fun t38_1 w =>
 xBin Tryd.prog .add 3 false t6 false t38_1 w fun t39_1 w =>
 xBin Tryd.prog .add 3 false t7 true (.int .i64 1) w fun t30_1 w =>
 nxt0 [t39_1, t30_1] w)
 (xBin Tryd.prog .eql 3 false t6 true (.int .i64 0) w fun t41 w =>
 xIf t41
 (K (.bool true) w)
 (xConv Tryd.prog 5 3 t1 w fun t43 w =>
 xBin Tryd.prog .rem 3 false t43 false t6 w fun t45 w =>
 xLoad Tryd.prog 25 t5 w fun t46 w =>
 xCall Tryd.prog (fnv 24) [t46] w fun t47 w =>
 xAlloc Tryd.prog 25 w fun t9 w =>
 xStore Tryd.prog 25 t9 t47 w fun _ w =>
 xLoop [t45, (.int .i64 0)] w [8, 10] fun u w nxt2 =>
 loamlaw18_CanonUnlike_l2 K nxt2 t2 t5 (u 8) t9 (u 10) w))
def loamlaw18_CanonUnlike (K : K1) (t0 t1 : Value) (w : World) : Prop :=
 xBox Tryd.prog 25 t0 w fun t2 w =>
 xCall Tryd.prog (fnv 7) [] w fun t11 w =>
 xUn Tryd.prog .not t11 w fun t12 w =>
 xIf t12
 (K (.bool false) w)
 (xLoad Tryd.prog 25 t2 w fun t13 w =>
 xCall Tryd.prog (fnv 8) [t13] w fun t14 w =>
 xUn Tryd.prog .not t14 w fun t15 w =>
 xGuard t15 false (fun w K => xLoad Tryd.prog 25 t2 w K) w fun t17 w =>
 xGuard t15 false (fun w K => xCall Tryd.prog (fnv 10) [t17] w K) w fun t18 w =>
 xGuard t15 false (fun w K => xCall Tryd.prog (fnv 9) [t18] w K) w fun t19 w =>
 xGuard t15 false (fun w K => xBin Tryd.prog .neq 3 false t19 true (.int .i64 0) w K) w fun t20 w =>
 xPick t15 (.bool true) t20 w fun t21 w =>
 xIf t21
 (K (.bool true) w)
 (xLoad Tryd.prog 25 t2 w fun t22 w =>
 xCall Tryd.prog (fnv 11) [t22] w fun t23 w =>
 xAlloc Tryd.prog 25 w fun t5 w =>
 xStore Tryd.prog 25 t5 t23 w fun _ w =>
 xLoop [(.int .i64 0), (.int .i64 0)] w [6, 7] fun u w nxt0 =>
 loamlaw18_CanonUnlike_l1 K nxt0 t1 t2 t5 (u 6) (u 7) w))
abbrev n_loamlaw18_CanonUnlike : Nat := 6
def loamlaw18_CanonUnlike_ann : Ann := { loop := fun i => bif Nat.beq i 2 then [8, 10] else bif Nat.beq i 0 then [6, 7] else [], wr := fun i => bif Nat.beq i 2 then [8, 10, 48, 49, 50, 51, 52, 53, 54, 55, 56, 57, 58, 59, 60, 61, 62, 63, 64, 65, 66, 67, 68, 69, 70, 71, 72, 73, 74, 75, 76, 77, 78, 79, 80, 81, 82, 83, 84, 85, 86, 87, 88, 89, 90] else bif Nat.beq i 0 then [6, 7, 24, 25, 26, 27, 28, 29, 30, 31, 32, 33, 34, 35, 36, 37, 38, 39] else [], told := fun i => bif Nat.beq i 21 then [(0, false, ⟨0, 2475880078570760549798248480, some 91⟩), (1, false, ⟨0, 4951760157141521099596497408, some 92⟩), (2, false, ⟨3, 17331160549995323848587739136, some 93⟩), (3, false, ⟨4, 29710560942849126597578981376, some 94⟩), (4, false, ⟨12, 59421121885698253195157962752, some 95⟩), (5, false, ⟨16, 118842243771396506390315925508, some 96⟩), (6, false, ⟨16, 198070406285660843983859876352, some 97⟩), (7, false, ⟨112, 594211218856982531951579627520, some 98⟩), (8, false, ⟨144, 990352031428304219919299379200, some 99⟩), (9, false, ⟨272, 1941089981599476271041826783232, some 100⟩), (10, false, ⟨640, 3802951800684688204490109616128, some 101⟩), (11, false, ⟨1024, 7605903601369376408980219232288, some 102⟩), (13, false, ⟨1024, 22817710804108129226940657697280, some 104⟩), (12, false, ⟨3072, 17747108403195211620953844875264, some 103⟩), (14, false, ⟨13312, 63382530011411470074835160268800, some 105⟩), (15, false, ⟨21504, 134370963624192316558650539769856, some 106⟩), (16, false, ⟨33792, 245924216444276503890360421842944, some 107⟩), (17, false, ⟨81920, 486777830487640090174734030864384, some 108⟩), (18, false, ⟨131072, 973555660975280180349468061728800, some 109⟩), (19, false, ⟨131072, 1622592768292133633915780102881284, some 110⟩), (20, false, ⟨917504, 4867778304876400901747340308643840, some 111⟩), (21, false, ⟨1179648, 8112963841460668169578900514406400, some 112⟩), (22, false, ⟨4194303, 5192296858534827628530496329220112, some 4⟩)] else bif Nat.beq i 19 then [(0, false, ⟨0, 18446744073709552128, some 64⟩), (1, false, ⟨1, 55340232221128654848, some 65⟩), (2, false, ⟨0, 73786976294838207488, some 66⟩), (3, false, ⟨6, 258254417031933722624, some 67⟩), (4, false, ⟨8, 442721857769029238784, some 68⟩), (5, false, ⟨16, 885443715538058477568, some 69⟩), (6, false, ⟨0, 1180591620717411303680, some 70⟩), (7, false, ⟨0, 2361183241434822607360, some 71⟩), (8, false, ⟨128, 7083549724304467820544, some 72⟩), (9, false, ⟨0, 9444732965739290428416, some 73⟩), (10, false, ⟨768, 33056565380087516495872, some 74⟩), (11, false, ⟨1024, 56668397794435742564352, some 75⟩), (12, false, ⟨2048, 113336795588871485128704, some 76⟩), (13, false, ⟨0, 151115727451828646838528, some 77⟩), (14, false, ⟨12288, 528905046081400263933952, some 78⟩), (15, false, ⟨16384, 906694364710971881029632, some 79⟩), (16, false, ⟨32768, 1813388729421943762059264, some 80⟩), (17, false, ⟨131071, 2419622526660334466367488, some 81⟩), (18, false, ⟨262143, 3626777458843887524118528, none⟩)] else [], sq := fun i => bif Nat.beq i 21 then some (.rd false 0 (.rd false 1 (.ef 2 [] (.rd true 3 (.rd true 4 (.rd false 5 (.rd false 6 (.ef 7 [] (.rd true 8 (.rd true 9 (.rd true 10 (.rd false 11 (.rd false 13 (.ef 12 [13] (.ef 14 [] (.rd true 15 (.rd true 16 (.rd true 17 (.rd false 18 (.rd false 19 (.ef 20 [] (.rd true 21 (.rd true 22 .done))))))))))))))))))))))) else bif Nat.beq i 19 then some (.rd true 0 (.rd false 1 (.rd true 2 (.rd true 3 (.rd true 4 (.rd false 5 (.rd true 6 (.rd true 7 (.rd false 8 (.rd true 9 (.rd true 10 (.rd true 11 (.rd false 12 (.rd true 13 (.rd true 14 (.rd false 15 (.rd true 16 (.rd true 17 (.ef 18 [] .done))))))))))))))))))) else none }
theorem loamlaw18_CanonUnlike_eq (t0 t1 : Value) (w : World) (K : K1) : reads Tryd.prog loamlaw18_CanonUnlike_ann Tryd.f6 #[t0, t1] w K = loamlaw18_CanonUnlike K t0 t1 w := by kernel_rfl
theorem loamlaw18_CanonUnlike_of {t0 t1 : Value} {w : World} {K : K1} (h : loamlaw18_CanonUnlike K t0 t1 w) : Yld Tryd.prog n_loamlaw18_CanonUnlike #[t0, t1] w K :=
  yld_of mixed loamlaw18_CanonUnlike_ann Tryd.func6 (by kernel_rfl) (loamlaw18_CanonUnlike_eq t0 t1 w K) h

/-! loam/loamlaw18.known: function 7 -/
def loamlaw18_known (K : K1) (w : World) : Prop :=
 xBuildSlice Tryd.prog 45 1 [(0, (c8 120))] w fun t3 w =>
 xConv Tryd.prog 45 45 t3 w fun t4 w =>
 xBuild Tryd.prog 52 [(1, t4)] w fun t5 w =>
 xBuildSlice Tryd.prog 40 1 [(0, (.int .i64 1))] w fun t6 w =>
 xBuild Tryd.prog 52 [(0, t6)] w fun t7 w =>
 xBuildSlice Tryd.prog 22 2 [(0, t5), (1, t7)] w fun t8 w =>
 xBuild Tryd.prog 55 [(0, (.string { data := #[114] })), (1, (.int .i64 2))] w fun t9 w =>
 xBuildSlice Tryd.prog 23 1 [(0, t9)] w fun t10 w =>
 xBuild Tryd.prog 25 [(0, t8), (1, t10)] w fun t11 w =>
 xAlloc Tryd.prog 25 w fun t1 w =>
 xStore Tryd.prog 25 t1 t11 w fun _ w =>
 xBuildSlice Tryd.prog 40 1 [(0, (.int .i64 3))] w fun t12 w =>
 xBuild Tryd.prog 52 [(0, t12)] w fun t13 w =>
 xBuild Tryd.prog 52 [] w fun t14 w =>
 xBuildSlice Tryd.prog 45 1 [(0, (c8 120))] w fun t15 w =>
 xConv Tryd.prog 45 45 t15 w fun t16 w =>
 xBuild Tryd.prog 52 [(1, t16)] w fun t17 w =>
 xBuildSlice Tryd.prog 22 3 [(0, t13), (1, t14), (2, t17)] w fun t18 w =>
 xBuild Tryd.prog 55 [(0, (.string { data := #[114] })), (1, (.int .i64 1))] w fun t19 w =>
 xBuildSlice Tryd.prog 23 1 [(0, t19)] w fun t20 w =>
 xBuild Tryd.prog 25 [(0, t18), (1, t20)] w fun t21 w =>
 xAlloc Tryd.prog 25 w fun t2 w =>
 xStore Tryd.prog 25 t2 t21 w fun _ w =>
 xLoad Tryd.prog 25 t1 w fun t22 w =>
 xLoad Tryd.prog 25 t2 w fun t23 w =>
 xCall Tryd.prog (fnv 21) [t22, t23] w fun t24 w =>
 xGuard t24 true (fun w K => xLoad Tryd.prog 25 t1 w K) w fun t26 w =>
 xGuard t24 true (fun w K => xLoad Tryd.prog 25 t2 w K) w fun t27 w =>
 xGuard t24 true (fun w K => xCall Tryd.prog (fnv 20) [t26, t27] w K) w fun t28 w =>
 xGuard t24 true (fun w K => xUn Tryd.prog .not t28 w K) w fun t29 w =>
 xPick t24 t29 (.bool false) w fun t30 w =>
 xGuard t30 true (fun w K => xLoad Tryd.prog 25 t1 w K) w fun t32 w =>
 xGuard t30 true (fun w K => xCall Tryd.prog (fnv 14) [t32] w K) w fun t33 w =>
 xGuard t30 true (fun w K => xBin Tryd.prog .eql 9 false t33 true (.string { data := #[114, 32, 45, 62, 32, 49, 10, 49, 58, 32, 50, 10, 50, 58, 32, 120, 55, 56, 10] }) w K) w fun t34 w =>
 xPick t30 t34 (.bool false) w fun t35 w =>
 xGuard t35 true (fun w K => xLoad Tryd.prog 25 t2 w K) w fun t37 w =>
 xGuard t35 true (fun w K => xCall Tryd.prog (fnv 11) [t37] w K) w fun t38 w =>
 xGuard t35 true (fun w K => xField Tryd.prog 25 t38 0 w K) w fun t39 w =>
 xGuard t35 true (fun w K => xBuiltin Tryd.prog .len #[22] 3 [false] [t39] w K) w fun t40 w =>
 xGuard t35 true (fun w K => xBin Tryd.prog .eql 3 false t40 true (.int .i64 2) w K) w fun t41 w =>
 xPick t35 t41 (.bool false) w fun t42 w =>
 xGuard t42 true (fun w K => xLoad Tryd.prog 25 t1 w K) w fun t44 w =>
 xGuard t42 true (fun w K => xCall Tryd.prog (fnv 17) [t44] w K) w fun t45 w =>
 xGuard t42 true (fun w K => xBuiltin Tryd.prog .len #[40] 3 [false] [t45] w K) w fun t46 w =>
 xGuard t42 true (fun w K => xBin Tryd.prog .eql 3 false t46 true (.int .i64 2) w K) w fun t47 w =>
 xPick t42 t47 (.bool false) w fun t48 w =>
 xGuard t48 true (fun w K => xLoad Tryd.prog 25 t1 w K) w fun t50 w =>
 xGuard t48 true (fun w K => xCall Tryd.prog (fnv 17) [t50] w K) w fun t51 w =>
 xGuard t48 true (fun w K => xIndexAddr Tryd.prog 40 t51 (.int .i64 0) w K) w fun t52 w =>
 xGuard t48 true (fun w K => xLoad Tryd.prog 3 t52 w K) w fun t53 w =>
 xGuard t48 true (fun w K => xBin Tryd.prog .eql 3 false t53 true (.int .i64 2) w K) w fun t54 w =>
 xPick t48 t54 (.bool false) w fun t55 w =>
 K t55 w
abbrev n_loamlaw18_known : Nat := 7
def loamlaw18_known_ann : Ann := { loop := fun i => [], wr := fun i => [], told := fun i => [] }
theorem loamlaw18_known_eq (w : World) (K : K1) : reads Tryd.prog loamlaw18_known_ann Tryd.f7 #[] w K = loamlaw18_known K  w := by kernel_rfl
theorem loamlaw18_known_of {w : World} {K : K1} (h : loamlaw18_known K w) : Yld Tryd.prog n_loamlaw18_known #[] w K :=
  yld_of mixed loamlaw18_known_ann Tryd.func7 (by kernel_rfl) (loamlaw18_known_eq  w K) h

/-! loam/loamlaw17.Few: function 8 -/
def loamlaw17_Few_l2 (K : K1) (nxt2 : List Value → World → Prop) (t1 t4 : Value) (w : World) : Prop :=
 xFieldAddr Tryd.prog 25 t1 1 w fun t41_1 w =>
 xLoad Tryd.prog 23 t41_1 w fun t42_1 w =>
 xBuiltin Tryd.prog .len #[23] 3 [false] [t42_1] w fun t43_1 w =>
 xBin Tryd.prog .lss 3 false t4 false t43_1 w fun t44_1 w =>
 xIf t44_1
 (xFieldAddr Tryd.prog 25 t1 1 w fun t47_1 w =>
 xLoad Tryd.prog 23 t47_1 w fun t48_1 w =>
 xIndexAddr Tryd.prog 23 t48_1 t4 w fun t50_1 w =>
 xFieldAddr Tryd.prog 55 t50_1 0 w fun t51_1 w =>
 xLoad Tryd.prog 9 t51_1 w fun t52_1 w =>
 xBuiltin Tryd.prog .len #[9] 3 [false] [t52_1] w fun t53_1 w =>
 xBin Tryd.prog .gtr 3 false t53_1 true (.int .i64 40) w fun t54_1 w =>
 xIf t54_1
 (K (.bool false) w)
 (xBin Tryd.prog .add 3 false t4 true (.int .i64 1) w fun t46_1 w =>
 nxt2 [t46_1] w))
 (K (.bool true) w)
def loamlaw17_Few_l1 (K : K1) (nxt0 : List Value → World → Prop) (t1 t3 : Value) (w : World) : Prop :=
 xFieldAddr Tryd.prog 25 t1 0 w fun t16_1 w =>
 xLoad Tryd.prog 22 t16_1 w fun t17_1 w =>
 xBuiltin Tryd.prog .len #[22] 3 [false] [t17_1] w fun t18_1 w =>
 xBin Tryd.prog .lss 3 false t3 false t18_1 w fun t19_1 w =>
 xIf t19_1
 (xFieldAddr Tryd.prog 25 t1 0 w fun t22_1 w =>
 xLoad Tryd.prog 22 t22_1 w fun t23_1 w =>
 xIndexAddr Tryd.prog 22 t23_1 t3 w fun t25_1 w =>
 xFieldAddr Tryd.prog 52 t25_1 0 w fun t26_1 w =>
 xLoad Tryd.prog 40 t26_1 w fun t27_1 w =>
 xBuiltin Tryd.prog .len #[40] 3 [false] [t27_1] w fun t28_1 w =>
 xBin Tryd.prog .gtr 3 false t28_1 true (.int .i64 70) w fun t29_1 w =>
 xGuard t29_1 false (fun w K => xFieldAddr Tryd.prog 25 t1 0 w K) w fun t31_1 w =>
 xGuard t29_1 false (fun w K => xLoad Tryd.prog 22 t31_1 w K) w fun t32_1 w =>
 xGuard t29_1 false (fun w K => K t3 w) w fun t33_1 w =>
 xGuard t29_1 false (fun w K => xIndexAddr Tryd.prog 22 t32_1 t33_1 w K) w fun t34_1 w =>
 xGuard t29_1 false (fun w K => xFieldAddr Tryd.prog 52 t34_1 1 w K) w fun t35_1 w =>
 xGuard t29_1 false (fun w K => xLoad Tryd.prog 45 t35_1 w K) w fun t36_1 w =>
 xGuard t29_1 false (fun w K => xBuiltin Tryd.prog .len #[45] 3 [false] [t36_1] w K) w fun t37_1 w =>
 xGuard t29_1 false (fun w K => xBin Tryd.prog .gtr 3 false t37_1 true (.int .i64 1100) w K) w fun t38_1 w =>
 xPick t29_1 (.bool true) t38_1 w fun t39_1 w =>
 xIf t39_1
 (K (.bool false) w)
 (xBin Tryd.prog .add 3 false t3 true (.int .i64 1) w fun t21_1 w =>
 nxt0 [t21_1] w))
 (xLoop [(.int .i64 0)] w [4] fun u w nxt2 =>
 loamlaw17_Few_l2 K nxt2 t1 (u 4) w)
def loamlaw17_Few (K : K1) (t0 : Value) (w : World) : Prop :=
 xBox Tryd.prog 25 t0 w fun t1 w =>
 xFieldAddr Tryd.prog 25 t1 0 w fun t5 w =>
 xLoad Tryd.prog 22 t5 w fun t6 w =>
 xBuiltin Tryd.prog .len #[22] 3 [false] [t6] w fun t7 w =>
 xBin Tryd.prog .gtr 3 false t7 true (.int .i64 60) w fun t8 w =>
 xGuard t8 false (fun w K => xFieldAddr Tryd.prog 25 t1 1 w K) w fun t10 w =>
 xGuard t8 false (fun w K => xLoad Tryd.prog 23 t10 w K) w fun t11 w =>
 xGuard t8 false (fun w K => xBuiltin Tryd.prog .len #[23] 3 [false] [t11] w K) w fun t12 w =>
 xGuard t8 false (fun w K => xBin Tryd.prog .gtr 3 false t12 true (.int .i64 80) w K) w fun t13 w =>
 xPick t8 (.bool true) t13 w fun t14 w =>
 xIf t14
 (K (.bool false) w)
 (xLoop [(.int .i64 0)] w [3] fun u w nxt0 =>
 loamlaw17_Few_l1 K nxt0 t1 (u 3) w)
abbrev n_loamlaw17_Few : Nat := 8
def loamlaw17_Few_ann : Ann := { loop := fun i => bif Nat.beq i 2 then [4] else bif Nat.beq i 0 then [3] else [], wr := fun i => bif Nat.beq i 2 then [2, 4, 40, 41, 42, 43, 44, 45, 46, 47, 48, 49, 50, 51, 52, 53, 54] else bif Nat.beq i 0 then [2, 3, 15, 16, 17, 18, 19, 20, 21, 22, 23, 24, 25, 26, 27, 28, 29, 30, 31, 32, 33, 34, 35, 36, 37, 38, 39] else [], told := fun i => [] }
theorem loamlaw17_Few_eq (t0 : Value) (w : World) (K : K1) : reads Tryd.prog loamlaw17_Few_ann Tryd.f8 #[t0] w K = loamlaw17_Few K t0 w := by kernel_rfl
theorem loamlaw17_Few_of {t0 : Value} {w : World} {K : K1} (h : loamlaw17_Few K t0 w) : Yld Tryd.prog n_loamlaw17_Few #[t0] w K :=
  yld_of mixed loamlaw17_Few_ann Tryd.func8 (by kernel_rfl) (loamlaw17_Few_eq t0 w K) h

/-! loam/loamref17.Check: function 9 -/
def loamref17_Check_l2 (K : K1) (nxt0 : List Value → World → Prop) (nxt2 : List Value → World → Prop) (t3 t4 t5 t6 : Value) (w : World) : Prop :=
 xFieldAddr Tryd.prog 49 t5 0 w fun t23_1 w =>
 xLoad Tryd.prog 40 t23_1 w fun t24_1 w =>
 xBuiltin Tryd.prog .len #[40] 3 [false] [t24_1] w fun t25_1 w =>
 xBin Tryd.prog .lss 3 false t6 false t25_1 w fun t26_1 w =>
 xIf t26_1
 (xFieldAddr Tryd.prog 49 t5 0 w fun t29_1 w =>
 xLoad Tryd.prog 40 t29_1 w fun t30_1 w =>
 xIndexAddr Tryd.prog 40 t30_1 t6 w fun t32_1 w =>
 xLoad Tryd.prog 3 t32_1 w fun t33_1 w =>
 xBin Tryd.prog .lss 3 false t33_1 true (.int .i64 0) w fun t34_1 w =>
 xGuard t34_1 false (fun w K => xFieldAddr Tryd.prog 49 t5 0 w K) w fun t36_1 w =>
 xGuard t34_1 false (fun w K => xLoad Tryd.prog 40 t36_1 w K) w fun t37_1 w =>
 xGuard t34_1 false (fun w K => K t6 w) w fun t38_1 w =>
 xGuard t34_1 false (fun w K => xIndexAddr Tryd.prog 40 t37_1 t38_1 w K) w fun t39_1 w =>
 xGuard t34_1 false (fun w K => xLoad Tryd.prog 3 t39_1 w K) w fun t40_1 w =>
 xGuard t34_1 false (fun w K => K t3 w) w fun t41_1 w =>
 xGuard t34_1 false (fun w K => xBin Tryd.prog .gtr 3 false t40_1 false t41_1 w K) w fun t42_1 w =>
 xPick t34_1 (.bool true) t42_1 w fun t43_1 w =>
 xIf t43_1
 (K (.int .i64 1) w)
 (xBin Tryd.prog .add 3 false t6 true (.int .i64 1) w fun t28_1 w =>
 nxt2 [t28_1] w))
 (xFieldAddr Tryd.prog 49 t5 0 w fun t44_1 w =>
 xLoad Tryd.prog 40 t44_1 w fun t45_1 w =>
 xBuiltin Tryd.prog .len #[40] 3 [false] [t45_1] w fun t46_1 w =>
 xBin Tryd.prog .gtr 3 false t46_1 true (.int .i64 64) w fun t47_1 w =>
 xGuard t47_1 false (fun w K => xFieldAddr Tryd.prog 49 t5 1 w K) w fun t49_1 w =>
 xGuard t47_1 false (fun w K => xLoad Tryd.prog 45 t49_1 w K) w fun t50_1 w =>
 xGuard t47_1 false (fun w K => xBuiltin Tryd.prog .len #[45] 3 [false] [t50_1] w K) w fun t51_1 w =>
 xGuard t47_1 false (fun w K => xBin Tryd.prog .gtr 3 false t51_1 true (.int .i64 1024) w K) w fun t52_1 w =>
 xPick t47_1 (.bool true) t52_1 w fun t53_1 w =>
 xIf t53_1
 (K (.int .i64 3) w)
 (xBin Tryd.prog .add 3 false t4 true (.int .i64 1) w fun t16_1 w =>
 nxt0 [t16_1] w))
def loamref17_Check_l3 (K : K1) (nxt4 : List Value → World → Prop) (t1 t3 t7 : Value) (w : World) : Prop :=
 xFieldAddr Tryd.prog 32 t1 1 w fun t59_1 w =>
 xLoad Tryd.prog 30 t59_1 w fun t60_1 w =>
 xBuiltin Tryd.prog .len #[30] 3 [false] [t60_1] w fun t61_1 w =>
 xBin Tryd.prog .lss 3 false t7 false t61_1 w fun t62_1 w =>
 xIf t62_1
 (xFieldAddr Tryd.prog 32 t1 1 w fun t65_1 w =>
 xLoad Tryd.prog 30 t65_1 w fun t66_1 w =>
 xIndexAddr Tryd.prog 30 t66_1 t7 w fun t68_1 w =>
 xLoad Tryd.prog 56 t68_1 w fun t69_1 w =>
 xAlloc Tryd.prog 56 w fun t8_1 w =>
 xStore Tryd.prog 56 t8_1 t69_1 w fun _ w =>
 xSq w.drew fun w =>
 xPur w (fun w K => xFieldAddr Tryd.prog 56 t8_1 0 w K) fun t70_1 =>
 xRd w (fun K => xLoad Tryd.prog 9 t70_1 w K) fun t71_1 =>
 xCall Tryd.prog (fnv 25) [t71_1] w fun t72_1 w =>
 xPur w (fun w K => xUn Tryd.prog .not t72_1 w K) fun t73_1 =>
 xPur w (fun w K => K t73_1 w) fun t74_1 =>
 xPur w (fun w K => xGuard t74_1 false (fun w K => K t7 w) w K) fun t75_1 =>
 xPur w (fun w K => xGuard t74_1 false (fun w K => xBin Tryd.prog .gtr 3 false t75_1 true (.int .i64 0) w K) w K) fun t76_1 =>
 xPur w (fun w K => xGuard t74_1 false (fun w K => K t76_1 w) w K) fun t77_1 =>
 xPur w (fun w K => xGuard t77_1 true (fun w K => xFieldAddr Tryd.prog 32 t1 1 w K) w K) fun t78_1 =>
 xRd w (fun K => xGuard t77_1 true (fun w K => xLoad Tryd.prog 30 t78_1 w K) w K) fun t79_1 =>
 xPur w (fun w K => xGuard t77_1 true (fun w K => K t7 w) w K) fun t80_1 =>
 xPur w (fun w K => xGuard t77_1 true (fun w K => xBin Tryd.prog .sub 3 false t80_1 true (.int .i64 1) w K) w K) fun t81_1 =>
 xPur w (fun w K => xGuard t77_1 true (fun w K => xIndexAddr Tryd.prog 30 t79_1 t81_1 w K) w K) fun t82_1 =>
 xPur w (fun w K => xGuard t77_1 true (fun w K => xFieldAddr Tryd.prog 56 t82_1 0 w K) w K) fun t83_1 =>
 xRd w (fun K => xGuard t77_1 true (fun w K => xLoad Tryd.prog 9 t83_1 w K) w K) fun t84_1 =>
 xPur w (fun w K => xGuard t77_1 true (fun w K => xFieldAddr Tryd.prog 56 t8_1 0 w K) w K) fun t85_1 =>
 xRd w (fun K => xGuard t77_1 true (fun w K => xLoad Tryd.prog 9 t85_1 w K) w K) fun t86_1 =>
 xPur w (fun w K => xGuard t77_1 true (fun w K => xBin Tryd.prog .geq 9 false t84_1 false t86_1 w K) w K) fun t87_1 =>
 xPur w (fun w K => xGuard t74_1 false (fun w K => xPick t77_1 t87_1 (.bool false) w K) w K) fun t88_1 =>
 xPur w (fun w K => xPick t74_1 (.bool true) t88_1 w K) fun t89_1 =>
 xIf t89_1
 (K (.int .i64 4) w)
 (xFieldAddr Tryd.prog 56 t8_1 1 w fun t90_1 w =>
 xLoad Tryd.prog 3 t90_1 w fun t91_1 w =>
 xBin Tryd.prog .lss 3 false t91_1 true (.int .i64 0) w fun t92_1 w =>
 xGuard t92_1 false (fun w K => xFieldAddr Tryd.prog 56 t8_1 1 w K) w fun t94_1 w =>
 xGuard t92_1 false (fun w K => xLoad Tryd.prog 3 t94_1 w K) w fun t95_1 w =>
 xGuard t92_1 false (fun w K => K t3 w) w fun t96_1 w =>
 xGuard t92_1 false (fun w K => xBin Tryd.prog .gtr 3 false t95_1 false t96_1 w K) w fun t97_1 w =>
 xPick t92_1 (.bool true) t97_1 w fun t98_1 w =>
 xIf t98_1
 (K (.int .i64 1) w)
 (xBin Tryd.prog .add 3 false t7 true (.int .i64 1) w fun t64_1 w =>
 nxt4 [t64_1] w)))
 (K (.int .i64 0) w)
def loamref17_Check_l1 (K : K1) (nxt0 : List Value → World → Prop) (t1 t3 t4 : Value) (w : World) : Prop :=
 xBin Tryd.prog .lss 3 false t4 false t3 w fun t14_1 w =>
 xIf t14_1
 (xFieldAddr Tryd.prog 32 t1 0 w fun t17_1 w =>
 xLoad Tryd.prog 29 t17_1 w fun t18_1 w =>
 xIndexAddr Tryd.prog 29 t18_1 t4 w fun t20_1 w =>
 xLoad Tryd.prog 49 t20_1 w fun t21_1 w =>
 xAlloc Tryd.prog 49 w fun t5_1 w =>
 xStore Tryd.prog 49 t5_1 t21_1 w fun _ w =>
 xLoop [(.int .i64 0)] w [6] fun u w nxt2 =>
 loamref17_Check_l2 K nxt0 nxt2 t3 t4 t5_1 (u 6) w)
 (xFieldAddr Tryd.prog 32 t1 1 w fun t54 w =>
 xLoad Tryd.prog 30 t54 w fun t55 w =>
 xBuiltin Tryd.prog .len #[30] 3 [false] [t55] w fun t56 w =>
 xBin Tryd.prog .gtr 3 false t56 true (.int .i64 64) w fun t57 w =>
 xIf t57
 (K (.int .i64 3) w)
 (xLoop [(.int .i64 0)] w [7] fun u w nxt4 =>
 loamref17_Check_l3 K nxt4 t1 t3 (u 7) w))
def loamref17_Check (K : K1) (t0 : Value) (w : World) : Prop :=
 xBox Tryd.prog 32 t0 w fun t1 w =>
 xFieldAddr Tryd.prog 32 t1 0 w fun t9 w =>
 xLoad Tryd.prog 29 t9 w fun t10 w =>
 xBuiltin Tryd.prog .len #[29] 3 [false] [t10] w fun t11 w =>
 xLoop [(.int .i64 0)] w [4] fun u w nxt0 =>
 loamref17_Check_l1 K nxt0 t1 t11 (u 4) w
abbrev n_loamref17_Check : Nat := 9
def loamref17_Check_ann : Ann := { loop := fun i => bif Nat.beq i 2 then [6] else bif Nat.beq i 4 then [7] else bif Nat.beq i 0 then [4] else [], wr := fun i => bif Nat.beq i 2 then [2, 6, 22, 23, 24, 25, 26, 27, 28, 29, 30, 31, 32, 33, 34, 35, 36, 37, 38, 39, 40, 41, 42, 43] else bif Nat.beq i 4 then [2, 7, 8, 58, 59, 60, 61, 62, 63, 64, 65, 66, 67, 68, 69, 70, 71, 72, 73, 74, 75, 76, 77, 78, 79, 80, 81, 82, 83, 84, 85, 86, 87, 88, 89, 90, 91, 92, 93, 94, 95, 96, 97, 98] else bif Nat.beq i 0 then [2, 4, 5, 6, 12, 13, 14, 15, 16, 17, 18, 19, 20, 21, 22, 23, 24, 25, 26, 27, 28, 29, 30, 31, 32, 33, 34, 35, 36, 37, 38, 39, 40, 41, 42, 43, 44, 45, 46, 47, 48, 49, 50, 51, 52, 53] else [], told := fun i => bif Nat.beq i 19 then [(0, false, ⟨0, 1180591620717411303680, some 70⟩), (1, false, ⟨1, 3541774862152233910272, some 71⟩), (2, false, ⟨2, 7083549724304467820544, some 72⟩), (3, false, ⟨4, 14167099448608935641088, some 73⟩), (4, false, ⟨12, 28334198897217871282176, some 74⟩), (5, false, ⟨16, 56668397794435742564480, some 75⟩), (6, false, ⟨48, 132226261520350065983488, some 76⟩), (7, false, ⟨80, 245563057109221551112192, some 77⟩), (8, false, ⟨128, 453347182355485940514818, some 78⟩), (9, false, ⟨384, 1057810092162800527867904, some 79⟩), (10, false, ⟨128, 1360041547066457821544576, some 80⟩), (11, false, ⟨1152, 3777893186295716170956800, some 81⟩), (12, false, ⟨2688, 8009133554946918282428416, some 82⟩), (13, false, ⟨4224, 14658225562827378743312384, some 83⟩), (14, false, ⟨8320, 29165335398202928839786496, some 84⟩), (15, false, ⟨128, 38836741955119962237436160, some 85⟩), (16, false, ⟨32896, 116207994410456229418631168, some 86⟩), (17, false, ⟨82048, 251607686207294696985722880, some 87⟩), (18, false, ⟨131216, 464397519925400910314864640, some 88⟩), (19, false, ⟨262160, 928473918929966684755197952, some 89⟩)] else [], sq := fun i => bif Nat.beq i 19 then some (.rd true 0 (.rd false 1 (.ef 2 [] (.rd true 3 (.rd true 4 (.rd true 5 (.rd true 6 (.rd true 7 (.rd true 8 (.rd false 9 (.rd true 10 (.rd true 11 (.rd true 12 (.rd true 13 (.rd false 14 (.rd true 15 (.rd false 16 (.rd true 17 (.rd true 18 (.rd true 19 .done)))))))))))))))))))) else none }
theorem loamref17_Check_eq (t0 : Value) (w : World) (K : K1) : reads Tryd.prog loamref17_Check_ann Tryd.f9 #[t0] w K = loamref17_Check K t0 w := by kernel_rfl
theorem loamref17_Check_of {t0 : Value} {w : World} {K : K1} (h : loamref17_Check K t0 w) : Yld Tryd.prog n_loamref17_Check #[t0] w K :=
  yld_of mixed loamref17_Check_ann Tryd.func9 (by kernel_rfl) (loamref17_Check_eq t0 w K) h

/-! loam/loamlaw17.Of: function 10 -/
def loamlaw17_Of_l2 (K : K1) (nxt2 : List Value → World → Prop) (t1 t2 t3 t5 : Value) (w : World) : Prop :=
 xFieldAddr Tryd.prog 25 t1 1 w fun t33_1 w =>
 xLoad Tryd.prog 23 t33_1 w fun t34_1 w =>
 xBuiltin Tryd.prog .len #[23] 3 [false] [t34_1] w fun t35_1 w =>
 xBin Tryd.prog .lss 3 false t5 false t35_1 w fun t36_1 w =>
 xIf t36_1
 (xSq w.drew fun w =>
 xPur w (fun w K => xFieldAddr Tryd.prog 32 t3 1 w K) fun t39_1 =>
 xRd w (fun K => xLoad Tryd.prog 30 t39_1 w K) fun t40_1 =>
 xPur w (fun w K => xFieldAddr Tryd.prog 25 t1 1 w K) fun t41_1 =>
 xRd w (fun K => xLoad Tryd.prog 23 t41_1 w K) fun t42_1 =>
 xPur w (fun w K => K t5 w) fun t43_1 =>
 xPur w (fun w K => xIndexAddr Tryd.prog 23 t42_1 t43_1 w K) fun t44_1 =>
 xPur w (fun w K => xFieldAddr Tryd.prog 55 t44_1 0 w K) fun t45_1 =>
 xRd w (fun K => xLoad Tryd.prog 9 t45_1 w K) fun t46_1 =>
 xPur w (fun w K => xFieldAddr Tryd.prog 25 t1 1 w K) fun t47_1 =>
 xRd w (fun K => xLoad Tryd.prog 23 t47_1 w K) fun t48_1 =>
 xPur w (fun w K => K t5 w) fun t49_1 =>
 xPur w (fun w K => xIndexAddr Tryd.prog 23 t48_1 t49_1 w K) fun t50_1 =>
 xPur w (fun w K => xFieldAddr Tryd.prog 55 t50_1 1 w K) fun t51_1 =>
 xRd w (fun K => xLoad Tryd.prog 3 t51_1 w K) fun t52_1 =>
 xPur w (fun w K => xBuild Tryd.prog 56 [(0, t46_1), (1, t52_1)] w K) fun t53_1 =>
 xBuildSlice Tryd.prog 30 1 [(0, t53_1)] w fun t54_1 w =>
 xRe w (fun K => xLoad Tryd.prog 30 t39_1 w K) t40_1 (
 xBuiltin Tryd.prog .append #[30, 30] 30 [false, false] [t40_1, t54_1] w fun t55_1 w =>
 xPur w (fun w K => xFieldAddr Tryd.prog 32 t3 1 w K) fun t56_1 =>
 xStore Tryd.prog 30 t56_1 t55_1 w fun _x18 w =>
 xBin Tryd.prog .add 3 false t5 true (.int .i64 1) w fun t38_1 w =>
 nxt2 [t38_1] w))
 (xLoad Tryd.prog 32 t3 w fun t57 w =>
 xStore Tryd.prog 32 t2 t57 w fun _ w =>
 xLoadR Tryd.prog 32 t2 w fun r0 =>
 K r0 w)
def loamlaw17_Of_l1 (K : K1) (nxt0 : List Value → World → Prop) (t1 t2 t3 t4 : Value) (w : World) : Prop :=
 xFieldAddr Tryd.prog 25 t1 0 w fun t8_1 w =>
 xLoad Tryd.prog 22 t8_1 w fun t9_1 w =>
 xBuiltin Tryd.prog .len #[22] 3 [false] [t9_1] w fun t10_1 w =>
 xBin Tryd.prog .lss 3 false t4 false t10_1 w fun t11_1 w =>
 xIf t11_1
 (xSq w.drew fun w =>
 xPur w (fun w K => xFieldAddr Tryd.prog 32 t3 0 w K) fun t14_1 =>
 xRd w (fun K => xLoad Tryd.prog 29 t14_1 w K) fun t15_1 =>
 xPur w (fun w K => xFieldAddr Tryd.prog 25 t1 0 w K) fun t16_1 =>
 xRd w (fun K => xLoad Tryd.prog 22 t16_1 w K) fun t17_1 =>
 xPur w (fun w K => K t4 w) fun t18_1 =>
 xPur w (fun w K => xIndexAddr Tryd.prog 22 t17_1 t18_1 w K) fun t19_1 =>
 xPur w (fun w K => xFieldAddr Tryd.prog 52 t19_1 0 w K) fun t20_1 =>
 xRd w (fun K => xLoad Tryd.prog 40 t20_1 w K) fun t21_1 =>
 xPur w (fun w K => xFieldAddr Tryd.prog 25 t1 0 w K) fun t22_1 =>
 xRd w (fun K => xLoad Tryd.prog 22 t22_1 w K) fun t23_1 =>
 xPur w (fun w K => K t4 w) fun t24_1 =>
 xPur w (fun w K => xIndexAddr Tryd.prog 22 t23_1 t24_1 w K) fun t25_1 =>
 xPur w (fun w K => xFieldAddr Tryd.prog 52 t25_1 1 w K) fun t26_1 =>
 xRd w (fun K => xLoad Tryd.prog 45 t26_1 w K) fun t27_1 =>
 xPur w (fun w K => xBuild Tryd.prog 49 [(0, t21_1), (1, t27_1)] w K) fun t28_1 =>
 xBuildSlice Tryd.prog 29 1 [(0, t28_1)] w fun t29_1 w =>
 xRe w (fun K => xLoad Tryd.prog 29 t14_1 w K) t15_1 (
 xBuiltin Tryd.prog .append #[29, 29] 29 [false, false] [t15_1, t29_1] w fun t30_1 w =>
 xPur w (fun w K => xFieldAddr Tryd.prog 32 t3 0 w K) fun t31_1 =>
 xStore Tryd.prog 29 t31_1 t30_1 w fun _x18 w =>
 xBin Tryd.prog .add 3 false t4 true (.int .i64 1) w fun t13_1 w =>
 nxt0 [t13_1] w))
 (xLoop [(.int .i64 0)] w [5] fun u w nxt2 =>
 loamlaw17_Of_l2 K nxt2 t1 t2 t3 (u 5) w)
def loamlaw17_Of (K : K1) (t0 : Value) (w : World) : Prop :=
 xBox Tryd.prog 25 t0 w fun t1 w =>
 xAlloc Tryd.prog 32 w fun t2 w =>
 xBuild Tryd.prog 32 [] w fun t6 w =>
 xAlloc Tryd.prog 32 w fun t3 w =>
 xStore Tryd.prog 32 t3 t6 w fun _ w =>
 xLoop [(.int .i64 0)] w [4] fun u w nxt0 =>
 loamlaw17_Of_l1 K nxt0 t1 t2 t3 (u 4) w
abbrev n_loamlaw17_Of : Nat := 10
def loamlaw17_Of_ann : Ann := { loop := fun i => bif Nat.beq i 2 then [5] else bif Nat.beq i 0 then [4] else [], wr := fun i => bif Nat.beq i 2 then [5, 32, 33, 34, 35, 36, 37, 38, 39, 40, 41, 42, 43, 44, 45, 46, 47, 48, 49, 50, 51, 52, 53, 54, 55, 56] else bif Nat.beq i 0 then [4, 7, 8, 9, 10, 11, 12, 13, 14, 15, 16, 17, 18, 19, 20, 21, 22, 23, 24, 25, 26, 27, 28, 29, 30, 31] else [], told := fun i => bif Nat.beq i 5 then [(0, false, ⟨0, 16392, some 14⟩), (1, false, ⟨1, 49152, some 15⟩), (2, false, ⟨0, 65538, some 16⟩), (3, false, ⟨4, 196608, some 17⟩), (4, false, ⟨0, 262160, some 18⟩), (5, false, ⟨24, 917504, some 19⟩), (6, false, ⟨32, 1572864, some 20⟩), (7, false, ⟨64, 3145728, some 21⟩), (8, false, ⟨0, 4194306, some 22⟩), (9, false, ⟨256, 12582912, some 23⟩), (10, false, ⟨0, 16777232, some 24⟩), (11, false, ⟨1536, 58720256, some 25⟩), (12, false, ⟨2048, 100663296, some 26⟩), (13, false, ⟨4096, 201326592, some 27⟩), (14, false, ⟨8320, 404750336, some 28⟩), (15, false, ⟨16384, 805306368, some 29⟩), (16, false, ⟨32770, 1610645504, some 30⟩), (17, false, ⟨131071, 2147483656, some 31⟩), (18, false, ⟨262143, 3221225472, none⟩)] else bif Nat.beq i 9 then [(0, false, ⟨0, 549755813896, some 39⟩), (1, false, ⟨1, 1649267441664, some 40⟩), (2, false, ⟨0, 2199023255554, some 41⟩), (3, false, ⟨4, 6597069766656, some 42⟩), (4, false, ⟨0, 8796093022240, some 43⟩), (5, false, ⟨24, 30786325577728, some 44⟩), (6, false, ⟨32, 52776558133248, some 45⟩), (7, false, ⟨64, 105553116266496, some 46⟩), (8, false, ⟨0, 140737488355330, some 47⟩), (9, false, ⟨256, 422212465065984, some 48⟩), (10, false, ⟨0, 562949953421344, some 49⟩), (11, false, ⟨1536, 1970324836974592, some 50⟩), (12, false, ⟨2048, 3377699720527872, some 51⟩), (13, false, ⟨4096, 6755399441055744, some 52⟩), (14, false, ⟨8320, 13581167626289152, some 53⟩), (15, false, ⟨16384, 27021597764222976, some 54⟩), (16, false, ⟨32770, 54044295040073728, some 55⟩), (17, false, ⟨131071, 72057594037927944, some 56⟩), (18, false, ⟨262143, 108086391056891904, none⟩)] else [], sq := fun i => bif Nat.beq i 5 then some (.rd true 0 (.rd false 1 (.rd true 2 (.rd false 3 (.rd true 4 (.rd true 5 (.rd true 6 (.rd false 7 (.rd true 8 (.rd false 9 (.rd true 10 (.rd true 11 (.rd true 12 (.rd false 13 (.rd true 14 (.ef 15 [1] (.ef 16 [] (.rd true 17 (.ef 18 [] .done))))))))))))))))))) else bif Nat.beq i 9 then some (.rd true 0 (.rd false 1 (.rd true 2 (.rd false 3 (.rd true 4 (.rd true 5 (.rd true 6 (.rd false 7 (.rd true 8 (.rd false 9 (.rd true 10 (.rd true 11 (.rd true 12 (.rd false 13 (.rd true 14 (.ef 15 [1] (.ef 16 [] (.rd true 17 (.ef 18 [] .done))))))))))))))))))) else none }
theorem loamlaw17_Of_eq (t0 : Value) (w : World) (K : K1) : reads Tryd.prog loamlaw17_Of_ann Tryd.f10 #[t0] w K = loamlaw17_Of K t0 w := by kernel_rfl
theorem loamlaw17_Of_of {t0 : Value} {w : World} {K : K1} (h : loamlaw17_Of K t0 w) : Yld Tryd.prog n_loamlaw17_Of #[t0] w K :=
  yld_of mixed loamlaw17_Of_ann Tryd.func10 (by kernel_rfl) (loamlaw17_Of_eq t0 w K) h

/-! loam/canon.Canon: function 11 -/
def canon_Canon_l3 (K : K1) (nxt2 : List Value → World → Prop) (nxt4 : List Value → World → Prop) (t3 t7 t10 t32 t52 t53 t54 : Value) (w : World) : Prop :=
 xBin Tryd.prog .lss 3 false t54 false t53 w fun t55_1 w =>
 xIf t55_1
 (xIndexAddr Tryd.prog 40 t52 t54 w fun t56_1 w =>
 xLoad Tryd.prog 3 t56_1 w fun t57_1 w =>
 xFieldAddr Tryd.prog 52 t10 0 w fun t58_1 w =>
 xLoad Tryd.prog 40 t58_1 w fun t59_1 w =>
 xLookup Tryd.prog 58 t3 t57_1 false w fun t62_1 w =>
 xBuildSlice Tryd.prog 40 1 [(0, t62_1)] w fun t63_1 w =>
 xBuiltin Tryd.prog .append #[40, 40] 40 [false, false] [t59_1, t63_1] w fun t64_1 w =>
 xFieldAddr Tryd.prog 52 t10 0 w fun t65_1 w =>
 xStore Tryd.prog 40 t65_1 t64_1 w fun _ w =>
 xBin Tryd.prog .add 3 false t54 true (.int .i64 1) w fun t66_1 w =>
 nxt4 [t66_1] w)
 (xFieldAddr Tryd.prog 52 t10 0 w fun t67_1 w =>
 xLoad Tryd.prog 40 t67_1 w fun t68_1 w =>
 xCall Tryd.prog (fnv 28) [t68_1] w fun t69_1 w =>
 xFieldAddr Tryd.prog 52 t10 0 w fun t70_1 w =>
 xStore Tryd.prog 40 t70_1 t69_1 w fun _ w =>
 xFieldAddr Tryd.prog 25 t7 0 w fun t71_1 w =>
 xLoad Tryd.prog 22 t71_1 w fun t72_1 w =>
 xLoad Tryd.prog 52 t10 w fun t73_1 w =>
 xBuildSlice Tryd.prog 22 1 [(0, t73_1)] w fun t74_1 w =>
 xBuiltin Tryd.prog .append #[22, 22] 22 [false, false] [t72_1, t74_1] w fun t75_1 w =>
 xFieldAddr Tryd.prog 25 t7 0 w fun t76_1 w =>
 xStore Tryd.prog 22 t76_1 t75_1 w fun _ w =>
 xBin Tryd.prog .add 3 false t32 true (.int .i64 1) w fun t77_1 w =>
 nxt2 [t77_1] w)
def canon_Canon_l4 (K : K1) (nxt6 : List Value → World → Prop) (t2 t3 t7 t79 t80 t81 : Value) (w : World) : Prop :=
 xBin Tryd.prog .lss 3 false t81 false t80 w fun t82_1 w =>
 xIf t82_1
 (xIndexAddr Tryd.prog 23 t79 t81 w fun t83_1 w =>
 xLoad Tryd.prog 55 t83_1 w fun t84_1 w =>
 xAlloc Tryd.prog 55 w fun t14_1 w =>
 xStore Tryd.prog 55 t14_1 t84_1 w fun _ w =>
 xFieldAddr Tryd.prog 25 t7 1 w fun t85_1 w =>
 xLoad Tryd.prog 23 t85_1 w fun t86_1 w =>
 xFieldAddr Tryd.prog 55 t14_1 0 w fun t87_1 w =>
 xLoad Tryd.prog 9 t87_1 w fun t88_1 w =>
 xFieldAddr Tryd.prog 55 t14_1 1 w fun t90_1 w =>
 xLoad Tryd.prog 3 t90_1 w fun t91_1 w =>
 xLookup Tryd.prog 58 t3 t91_1 false w fun t92_1 w =>
 xBuild Tryd.prog 55 [(0, t88_1), (1, t92_1)] w fun t93_1 w =>
 xBuildSlice Tryd.prog 23 1 [(0, t93_1)] w fun t94_1 w =>
 xBuiltin Tryd.prog .append #[23, 23] 23 [false, false] [t86_1, t94_1] w fun t95_1 w =>
 xFieldAddr Tryd.prog 25 t7 1 w fun t96_1 w =>
 xStore Tryd.prog 23 t96_1 t95_1 w fun _ w =>
 xBin Tryd.prog .add 3 false t81 true (.int .i64 1) w fun t97_1 w =>
 nxt6 [t97_1] w)
 (xSq w.drew fun w =>
 xPur w (fun w K => xFieldAddr Tryd.prog 25 t7 0 w K) fun t98 =>
 xRd w (fun K => xLoad Tryd.prog 22 t98 w K) fun t99 =>
 xPur w (fun w K => xFieldAddr Tryd.prog 25 t7 1 w K) fun t101 =>
 xRd w (fun K => xLoad Tryd.prog 23 t101 w K) fun t102 =>
 xCall Tryd.prog (fnv 29) [t99] w fun t100 w =>
 xRe w (fun K => xLoad Tryd.prog 23 t101 w K) t102 (
 xPur w (fun w K => xFieldAddr Tryd.prog 25 t7 0 w K) fun t104 =>
 xCall Tryd.prog (fnv 30) [t102] w fun t103 w =>
 xStore Tryd.prog 22 t104 t100 w fun _x7 w =>
 xPur w (fun w K => xFieldAddr Tryd.prog 25 t7 1 w K) fun t105 =>
 xStore Tryd.prog 23 t105 t103 w fun _x9 w =>
 xLoad Tryd.prog 25 t7 w fun t106 w =>
 xStore Tryd.prog 25 t2 t106 w fun _ w =>
 xLoadR Tryd.prog 25 t2 w fun r0 =>
 K r0 w))
def canon_Canon_l2 (K : K1) (nxt2 : List Value → World → Prop) (t1 t2 t3 t4 t7 t31 t32 : Value) (w : World) : Prop :=
 xBin Tryd.prog .lss 3 false t32 false t31 w fun t33_1 w =>
 xIf t33_1
 (xIndexAddr Tryd.prog 40 t4 t32 w fun t34_1 w =>
 xLoad Tryd.prog 3 t34_1 w fun t35_1 w =>
 xFieldAddr Tryd.prog 25 t1 0 w fun t36_1 w =>
 xLoad Tryd.prog 22 t36_1 w fun t37_1 w =>
 xBin Tryd.prog .sub 3 false t35_1 true (.int .i64 1) w fun t39_1 w =>
 xIndexAddr Tryd.prog 22 t37_1 t39_1 w fun t40_1 w =>
 xFieldAddr Tryd.prog 52 t40_1 1 w fun t41_1 w =>
 xLoad Tryd.prog 45 t41_1 w fun t42_1 w =>
 xCall Tryd.prog (fnv 27) [t42_1] w fun t43_1 w =>
 xCall Tryd.prog (fnv 26) [t43_1] w fun t44_1 w =>
 xBuild Tryd.prog 52 [(1, t44_1)] w fun t45_1 w =>
 xAlloc Tryd.prog 52 w fun t10_1 w =>
 xStore Tryd.prog 52 t10_1 t45_1 w fun _ w =>
 xFieldAddr Tryd.prog 25 t1 0 w fun t46_1 w =>
 xLoad Tryd.prog 22 t46_1 w fun t47_1 w =>
 xBin Tryd.prog .sub 3 false t35_1 true (.int .i64 1) w fun t49_1 w =>
 xIndexAddr Tryd.prog 22 t47_1 t49_1 w fun t50_1 w =>
 xFieldAddr Tryd.prog 52 t50_1 0 w fun t51_1 w =>
 xLoad Tryd.prog 40 t51_1 w fun t52_1 w =>
 xBuiltin Tryd.prog .len #[40] 3 [false] [t52_1] w fun t53_1 w =>
 xLoop [(.int .i64 0)] w [54] fun u w nxt4 =>
 canon_Canon_l3 K nxt2 nxt4 t3 t7 t10_1 t32 t52_1 t53_1 (u 54) w)
 (xFieldAddr Tryd.prog 25 t1 1 w fun t78 w =>
 xLoad Tryd.prog 23 t78 w fun t79 w =>
 xBuiltin Tryd.prog .len #[23] 3 [false] [t79] w fun t80 w =>
 xLoop [(.int .i64 0)] w [81] fun u w nxt6 =>
 canon_Canon_l4 K nxt6 t2 t3 t7 t79 t80 (u 81) w)
def canon_Canon_l1 (K : K1) (nxt0 : List Value → World → Prop) (t1 t2 t3 t4 t18 t19 t20 : Value) (w : World) : Prop :=
 xBin Tryd.prog .lss 3 false t20 false t19 w fun t21_1 w =>
 xIf t21_1
 (xIndexAddr Tryd.prog 40 t18 t20 w fun t23_1 w =>
 xLoad Tryd.prog 3 t23_1 w fun t24_1 w =>
 xBin Tryd.prog .add 3 false t20 true (.int .i64 1) w fun t28_1 w =>
 xMapUpdate Tryd.prog 58 t3 t24_1 t28_1 w fun _ w =>
 xBin Tryd.prog .add 3 false t20 true (.int .i64 1) w fun t29_1 w =>
 nxt0 [t29_1] w)
 (xAlloc Tryd.prog 25 w fun t7 w =>
 xBuiltin Tryd.prog .len #[40] 3 [false] [t4] w fun t31 w =>
 xLoop [(.int .i64 0)] w [32] fun u w nxt2 =>
 canon_Canon_l2 K nxt2 t1 t2 t3 t4 t7 t31 (u 32) w)
def canon_Canon (K : K1) (t0 : Value) (w : World) : Prop :=
 xBox Tryd.prog 25 t0 w fun t1 w =>
 xAlloc Tryd.prog 25 w fun t2 w =>
 xMakeMap Tryd.prog 58 none w fun t15 w =>
 xLoad Tryd.prog 25 t1 w fun t16 w =>
 xCall Tryd.prog (fnv 17) [t16] w fun t17 w =>
 xBuiltin Tryd.prog .len #[40] 3 [false] [t17] w fun t19 w =>
 xLoop [(.int .i64 0)] w [20] fun u w nxt0 =>
 canon_Canon_l1 K nxt0 t1 t2 t15 t17 t17 t19 (u 20) w
abbrev n_canon_Canon : Nat := 11
def canon_Canon_ann : Ann := { loop := fun i => bif Nat.beq i 4 then [54] else bif Nat.beq i 6 then [81] else bif Nat.beq i 2 then [32] else bif Nat.beq i 0 then [20] else [], wr := fun i => bif Nat.beq i 4 then [12, 54, 55, 56, 57, 58, 59, 60, 61, 62, 63, 64, 65, 66] else bif Nat.beq i 6 then [14, 81, 82, 83, 84, 85, 86, 87, 88, 89, 90, 91, 92, 93, 94, 95, 96, 97] else bif Nat.beq i 2 then [9, 10, 12, 32, 33, 34, 35, 36, 37, 38, 39, 40, 41, 42, 43, 44, 45, 46, 47, 48, 49, 50, 51, 52, 53, 54, 55, 56, 57, 58, 59, 60, 61, 62, 63, 64, 65, 66, 67, 68, 69, 70, 71, 72, 73, 74, 75, 76, 77] else bif Nat.beq i 0 then [5, 6, 20, 21, 22, 23, 24, 25, 26, 27, 28, 29] else [], told := fun i => bif Nat.beq i 26 then [(0, false, ⟨0, 316912650057057350374175801472, some 98⟩), (1, false, ⟨1, 950737950171172051122527404032, some 99⟩), (3, false, ⟨0, 2535301200456458802993406410880, some 101⟩), (4, false, ⟨8, 7605903601369376408980219232256, some 102⟩), (2, false, ⟨2, 1901475900342344102245054808064, some 100⟩), (6, false, ⟨31, 20282409603651670423947251286144, some 104⟩), (5, false, ⟨20, 15211807202738752817960438464512, some 103⟩), (7, false, ⟨127, 21550060203879899825443954491392, none⟩), (8, false, ⟨255, 40564819207303340847894502572160, some 105⟩), (9, false, ⟨511, 50706024009129176059868128215040, none⟩)] else [], sq := fun i => bif Nat.beq i 26 then some (.rd true 0 (.rd false 1 (.rd true 3 (.rd false 4 (.ef 2 [4] (.rd true 6 (.ef 5 [] (.ef 7 [] (.rd true 8 (.ef 9 [] .done)))))))))) else none }
theorem canon_Canon_eq (t0 : Value) (w : World) (K : K1) : reads Tryd.prog canon_Canon_ann Tryd.f11 #[t0] w K = canon_Canon K t0 w := by kernel_rfl
theorem canon_Canon_of {t0 : Value} {w : World} {K : K1} (h : canon_Canon K t0 w) : Yld Tryd.prog n_canon_Canon #[t0] w K :=
  yld_of mixed canon_Canon_ann Tryd.func11 (by kernel_rfl) (canon_Canon_eq t0 w K) h

/-! loam/loamref17.Equal: function 12 -/
/-! loam/loamref17.Canon: function 13 -/
/-! loam/canon.Text: function 14 -/
def canon_Text_j1 (K : K1) (nxt6 : List Value → World → Prop) (t3 t11 t59 : Value) (w : World) : Prop :=
 xBin Tryd.prog .shr 5 false t11 true (c64 4) w fun t68_1 w =>
 xIndex Tryd.prog 9 (.string { data := #[48, 49, 50, 51, 52, 53, 54, 55, 56, 57, 97, 98, 99, 100, 101, 102] }) t68_1 w fun t69_1 w =>
 xCall Tryd.prog (fnv 33) [t3, t69_1] w fun t70_1 w =>
 xBin Tryd.prog .and 5 false t11 true (c8 15) w fun t72_1 w =>
 xIndex Tryd.prog 9 (.string { data := #[48, 49, 50, 51, 52, 53, 54, 55, 56, 57, 97, 98, 99, 100, 101, 102] }) t72_1 w fun t73_1 w =>
 xCall Tryd.prog (fnv 33) [t3, t73_1] w fun t74_1 w =>
 xBin Tryd.prog .add 3 false t59 true (.int .i64 1) w fun t75_1 w =>
 nxt6 [t75_1] w
def canon_Text_l4 (K : K1) (nxt2 : List Value → World → Prop) (nxt6 : List Value → World → Prop) (t3 t34 t57 t58 t59 : Value) (w : World) : Prop :=
 xBin Tryd.prog .lss 3 false t59 false t58 w fun t60_1 w =>
 xIf t60_1
 (xIndexAddr Tryd.prog 45 t57 t59 w fun t62_1 w =>
 xLoad Tryd.prog 5 t62_1 w fun t63_1 w =>
 xBin Tryd.prog .eql 3 false t59 true (.int .i64 0) w fun t65_1 w =>
 xIf t65_1
 (xCall Tryd.prog (fnv 31) [t3, (.string { data := #[32, 120] })] w fun t66_1 w =>
 canon_Text_j1 K nxt6 t3 t63_1 t59 w)
 (canon_Text_j1 K nxt6 t3 t63_1 t59 w))
 (xCall Tryd.prog (fnv 33) [t3, (c8 10)] w fun t76_1 w =>
 xBin Tryd.prog .add 3 false t34 true (.int .i64 1) w fun t77_1 w =>
 nxt2 [t77_1] w)
def canon_Text_l3 (K : K1) (nxt2 : List Value → World → Prop) (nxt4 : List Value → World → Prop) (t3 t7 t34 t45 t46 t47 : Value) (w : World) : Prop :=
 xBin Tryd.prog .lss 3 false t47 false t46 w fun t48_1 w =>
 xIf t48_1
 (xIndexAddr Tryd.prog 40 t45 t47 w fun t49_1 w =>
 xLoad Tryd.prog 3 t49_1 w fun t50_1 w =>
 xCall Tryd.prog (fnv 32) [t50_1] w fun t52_1 w =>
 xBin Tryd.prog .add 9 true (.string { data := #[32] }) false t52_1 w fun t53_1 w =>
 xCall Tryd.prog (fnv 31) [t3, t53_1] w fun t54_1 w =>
 xBin Tryd.prog .add 3 false t47 true (.int .i64 1) w fun t55_1 w =>
 nxt4 [t55_1] w)
 (xFieldAddr Tryd.prog 52 t7 1 w fun t56_1 w =>
 xLoad Tryd.prog 45 t56_1 w fun t57_1 w =>
 xBuiltin Tryd.prog .len #[45] 3 [false] [t57_1] w fun t58_1 w =>
 xLoop [(.int .i64 0)] w [59] fun u w nxt6 =>
 canon_Text_l4 K nxt2 nxt6 t3 t34 t57_1 t58_1 (u 59) w)
def canon_Text_l2 (K : K1) (nxt2 : List Value → World → Prop) (t3 t32 t33 t34 : Value) (w : World) : Prop :=
 xBin Tryd.prog .lss 3 false t34 false t33 w fun t35_1 w =>
 xIf t35_1
 (xIndexAddr Tryd.prog 22 t32 t34 w fun t37_1 w =>
 xLoad Tryd.prog 52 t37_1 w fun t38_1 w =>
 xAlloc Tryd.prog 52 w fun t7_1 w =>
 xStore Tryd.prog 52 t7_1 t38_1 w fun _ w =>
 xBin Tryd.prog .add 3 false t34 true (.int .i64 1) w fun t40_1 w =>
 xCall Tryd.prog (fnv 32) [t40_1] w fun t41_1 w =>
 xBin Tryd.prog .add 9 false t41_1 true (.string { data := #[58] }) w fun t42_1 w =>
 xCall Tryd.prog (fnv 31) [t3, t42_1] w fun t43_1 w =>
 xFieldAddr Tryd.prog 52 t7_1 0 w fun t44_1 w =>
 xLoad Tryd.prog 40 t44_1 w fun t45_1 w =>
 xBuiltin Tryd.prog .len #[40] 3 [false] [t45_1] w fun t46_1 w =>
 xLoop [(.int .i64 0)] w [47] fun u w nxt4 =>
 canon_Text_l3 K nxt2 nxt4 t3 t7_1 t34 t45_1 t46_1 (u 47) w)
 (xCall Tryd.prog (fnv 34) [t3] w fun t78 w =>
 K t78 w)
def canon_Text_l1 (K : K1) (nxt0 : List Value → World → Prop) (t1 t3 t15 t16 t17 : Value) (w : World) : Prop :=
 xBin Tryd.prog .lss 3 false t17 false t16 w fun t18_1 w =>
 xIf t18_1
 (xIndexAddr Tryd.prog 23 t15 t17 w fun t19_1 w =>
 xLoad Tryd.prog 55 t19_1 w fun t20_1 w =>
 xAlloc Tryd.prog 55 w fun t5_1 w =>
 xStore Tryd.prog 55 t5_1 t20_1 w fun _ w =>
 xSq w.drew fun w =>
 xPur w (fun w K => xFieldAddr Tryd.prog 55 t5_1 0 w K) fun t21_1 =>
 xRd w (fun K => xLoad Tryd.prog 9 t21_1 w K) fun t22_1 =>
 xPur w (fun w K => xBin Tryd.prog .add 9 false t22_1 true (.string { data := #[32, 45, 62, 32] }) w K) fun t23_1 =>
 xPur w (fun w K => xFieldAddr Tryd.prog 55 t5_1 1 w K) fun t24_1 =>
 xRd w (fun K => xLoad Tryd.prog 3 t24_1 w K) fun t25_1 =>
 xCall Tryd.prog (fnv 32) [t25_1] w fun t26_1 w =>
 xRe w (fun K => xLoad Tryd.prog 9 t21_1 w K) t22_1 (
 xPur w (fun w K => xBin Tryd.prog .add 9 false t23_1 false t26_1 w K) fun t27_1 =>
 xPur w (fun w K => xBin Tryd.prog .add 9 false t27_1 true (.string { data := #[10] }) w K) fun t28_1 =>
 xCall Tryd.prog (fnv 31) [t3, t28_1] w fun t29_1 w =>
 xBin Tryd.prog .add 3 false t17 true (.int .i64 1) w fun t30_1 w =>
 nxt0 [t30_1] w))
 (xFieldAddr Tryd.prog 25 t1 0 w fun t31 w =>
 xLoad Tryd.prog 22 t31 w fun t32 w =>
 xBuiltin Tryd.prog .len #[22] 3 [false] [t32] w fun t33 w =>
 xLoop [(.int .i64 0)] w [34] fun u w nxt2 =>
 canon_Text_l2 K nxt2 t3 t32 t33 (u 34) w)
def canon_Text (K : K1) (t0 : Value) (w : World) : Prop :=
 xBox Tryd.prog 25 t0 w fun t1 w =>
 xLoad Tryd.prog 25 t1 w fun t12 w =>
 xCall Tryd.prog (fnv 11) [t12] w fun t13 w =>
 xStore Tryd.prog 25 t1 t13 w fun _ w =>
 xAlloc Tryd.prog 65 w fun t3 w =>
 xFieldAddr Tryd.prog 25 t1 1 w fun t14 w =>
 xLoad Tryd.prog 23 t14 w fun t15 w =>
 xBuiltin Tryd.prog .len #[23] 3 [false] [t15] w fun t16 w =>
 xLoop [(.int .i64 0)] w [17] fun u w nxt0 =>
 canon_Text_l1 K nxt0 t1 t3 t15 t16 (u 17) w
abbrev n_canon_Text : Nat := 14
def canon_Text_ann : Ann := { loop := fun i => bif Nat.beq i 6 then [59] else bif Nat.beq i 4 then [47] else bif Nat.beq i 2 then [34] else bif Nat.beq i 0 then [17] else [], wr := fun i => bif Nat.beq i 6 then [10, 11, 59, 60, 61, 62, 63, 64, 65, 66, 67, 68, 69, 70, 71, 72, 73, 74, 75] else bif Nat.beq i 4 then [9, 47, 48, 49, 50, 51, 52, 53, 54, 55] else bif Nat.beq i 2 then [6, 7, 9, 10, 11, 34, 35, 36, 37, 38, 39, 40, 41, 42, 43, 44, 45, 46, 47, 48, 49, 50, 51, 52, 53, 54, 55, 56, 57, 58, 59, 60, 61, 62, 63, 64, 65, 66, 67, 68, 69, 70, 71, 72, 73, 74, 75, 76, 77] else bif Nat.beq i 0 then [5, 17, 18, 19, 20, 21, 22, 23, 24, 25, 26, 27, 28, 29, 30] else [], told := fun i => bif Nat.beq i 6 then [(0, false, ⟨0, 2097184, some 21⟩), (1, false, ⟨1, 6291456, some 22⟩), (2, false, ⟨2, 12582912, some 23⟩), (3, false, ⟨0, 16777248, some 24⟩), (4, false, ⟨8, 50331648, some 25⟩), (5, false, ⟨16, 100663296, some 26⟩), (6, false, ⟨36, 209715200, some 27⟩), (7, false, ⟨64, 402653184, some 28⟩), (8, false, ⟨160, 805306376, some 29⟩)] else [], sq := fun i => bif Nat.beq i 6 then some (.rd true 0 (.rd false 1 (.rd true 2 (.rd true 3 (.rd false 4 (.ef 5 [1] (.rd true 6 (.rd true 7 (.ef 8 [] .done))))))))) else none }
theorem canon_Text_eq (t0 : Value) (w : World) (K : K1) : reads Tryd.prog canon_Text_ann Tryd.f14 #[t0] w K = canon_Text K t0 w := by kernel_rfl
theorem canon_Text_of {t0 : Value} {w : World} {K : K1} (h : canon_Text K t0 w) : Yld Tryd.prog n_canon_Text #[t0] w K :=
  yld_of mixed canon_Text_ann Tryd.func14 (by kernel_rfl) (canon_Text_eq t0 w K) h

/-! loam/loamref17.Text: function 15 -/
/-! loam/loamlaw15.Ints: function 16 -/
/-! loam/canon.Order: function 17 -/
def canon_Order_l3 (K : K1) (nxt2 : List Value → World → Prop) (nxt4 : List Value → World → Prop) (t5 t8 t40 t41 t42 : Value) (w : World) : Prop :=
 xBin Tryd.prog .lss 3 false t42 false t41 w fun t43_1 w =>
 xIf t43_1
 (xIndexAddr Tryd.prog 40 t40 t42 w fun t44_1 w =>
 xLoad Tryd.prog 3 t44_1 w fun t45_1 w =>
 xCall Tryd.prog t5 [t45_1] w fun t48_1 w =>
 xBin Tryd.prog .add 3 false t42 true (.int .i64 1) w fun t49_1 w =>
 nxt4 [t49_1] w)
 (xBin Tryd.prog .add 3 false t8 true (.int .i64 1) w fun t30_1 w =>
 nxt2 [t30_1] w)
def canon_Order_l2 (K : K1) (nxt2 : List Value → World → Prop) (t1 t4 t5 t8 : Value) (w : World) : Prop :=
 xLoad Tryd.prog 40 t4 w fun t26_1 w =>
 xBuiltin Tryd.prog .len #[40] 3 [false] [t26_1] w fun t27_1 w =>
 xBin Tryd.prog .lss 3 false t8 false t27_1 w fun t28_1 w =>
 xIf t28_1
 (xSq w.drew fun w =>
 xPur w (fun w K => xFieldAddr Tryd.prog 25 t1 0 w K) fun t31_1 =>
 xRd w (fun K => xLoad Tryd.prog 22 t31_1 w K) fun t32_1 =>
 xRd w (fun K => xLoad Tryd.prog 40 t4 w K) fun t33_1 =>
 xPur w (fun w K => K t8 w) fun t34_1 =>
 xPur w (fun w K => xIndexAddr Tryd.prog 40 t33_1 t34_1 w K) fun t35_1 =>
 xRd w (fun K => xLoad Tryd.prog 3 t35_1 w K) fun t36_1 =>
 xPur w (fun w K => xBin Tryd.prog .sub 3 false t36_1 true (.int .i64 1) w K) fun t37_1 =>
 xPur w (fun w K => xIndexAddr Tryd.prog 22 t32_1 t37_1 w K) fun t38_1 =>
 xPur w (fun w K => xFieldAddr Tryd.prog 52 t38_1 0 w K) fun t39_1 =>
 xRd w (fun K => xLoad Tryd.prog 40 t39_1 w K) fun t40_1 =>
 xPur w (fun w K => xBuiltin Tryd.prog .len #[40] 3 [false] [t40_1] w K) fun t41_1 =>
 xPur w (fun w K => K (.int .i64 0) w) fun t42_1 =>
 xLoop [t42_1] w [42] fun u w nxt4 =>
 canon_Order_l3 K nxt2 nxt4 t5 t8 t40_1 t41_1 (u 42) w)
 (xLoad Tryd.prog 40 t4 w fun t50 w =>
 xCall Tryd.prog (fnv 28) [t50] w fun t51 w =>
 K t51 w)
def canon_Order_l1 (K : K1) (nxt0 : List Value → World → Prop) (t1 t4 t5 t14 t15 t16 : Value) (w : World) : Prop :=
 xBin Tryd.prog .lss 3 false t16 false t15 w fun t17_1 w =>
 xIf t17_1
 (xIndexAddr Tryd.prog 23 t14 t16 w fun t18_1 w =>
 xLoad Tryd.prog 55 t18_1 w fun t19_1 w =>
 xAlloc Tryd.prog 55 w fun t7_1 w =>
 xStore Tryd.prog 55 t7_1 t19_1 w fun _ w =>
 xFieldAddr Tryd.prog 55 t7_1 1 w fun t21_1 w =>
 xLoad Tryd.prog 3 t21_1 w fun t22_1 w =>
 xCall Tryd.prog t5 [t22_1] w fun t23_1 w =>
 xBin Tryd.prog .add 3 false t16 true (.int .i64 1) w fun t24_1 w =>
 nxt0 [t24_1] w)
 (xLoop [(.int .i64 0)] w [8] fun u w nxt2 =>
 canon_Order_l2 K nxt2 t1 t4 t5 (u 8) w)
def canon_Order (K : K1) (t0 : Value) (w : World) : Prop :=
 xBox Tryd.prog 25 t0 w fun t1 w =>
 xMakeMap Tryd.prog 75 none w fun t11 w =>
 xAlloc Tryd.prog 75 w fun t3 w =>
 xStore Tryd.prog 75 t3 t11 w fun _ w =>
 xAlloc Tryd.prog 40 w fun t4 w =>
 xMakeFunc Tryd.prog (.func 38) [] [t1, t3, t4] w fun t12 w =>
 xFieldAddr Tryd.prog 25 t1 1 w fun t13 w =>
 xLoad Tryd.prog 23 t13 w fun t14 w =>
 xBuiltin Tryd.prog .len #[23] 3 [false] [t14] w fun t15 w =>
 xLoop [(.int .i64 0)] w [16] fun u w nxt0 =>
 canon_Order_l1 K nxt0 t1 t4 t12 t14 t15 (u 16) w
abbrev n_canon_Order : Nat := 17
def canon_Order_ann : Ann := { loop := fun i => bif Nat.beq i 4 then [42] else bif Nat.beq i 2 then [8] else bif Nat.beq i 0 then [16] else [], wr := fun i => bif Nat.beq i 4 then [10, 42, 43, 44, 45, 46, 47, 48, 49] else bif Nat.beq i 2 then [8, 10, 25, 26, 27, 28, 29, 30, 31, 32, 33, 34, 35, 36, 37, 38, 39, 40, 41, 42, 43, 44, 45, 46, 47, 48, 49] else bif Nat.beq i 0 then [7, 16, 17, 18, 19, 20, 21, 22, 23, 24] else [], told := fun i => bif Nat.beq i 12 then [(0, false, ⟨0, 2147483650, some 31⟩), (1, false, ⟨1, 6442450944, some 32⟩), (2, false, ⟨0, 8589934608, some 33⟩), (3, false, ⟨0, 17179869440, some 34⟩), (4, false, ⟨12, 60129542144, some 35⟩), (5, false, ⟨16, 103079215104, some 36⟩), (6, false, ⟨32, 206158430208, some 37⟩), (7, false, ⟨66, 416611827712, some 38⟩), (8, false, ⟨128, 824633720832, some 39⟩), (9, false, ⟨256, 1649267441664, some 40⟩), (10, false, ⟨512, 3298534883328, some 41⟩), (11, false, ⟨0, 4398046511104, some 42⟩)] else [], sq := fun i => bif Nat.beq i 12 then some (.rd true 0 (.rd false 1 (.rd false 2 (.rd true 3 (.rd true 4 (.rd false 5 (.rd true 6 (.rd true 7 (.rd true 8 (.rd false 9 (.rd true 10 (.rd true 11 .done)))))))))))) else none }
theorem canon_Order_eq (t0 : Value) (w : World) (K : K1) : reads Tryd.prog canon_Order_ann Tryd.f17 #[t0] w K = canon_Order K t0 w := by kernel_rfl
theorem canon_Order_of {t0 : Value} {w : World} {K : K1} (h : canon_Order K t0 w) : Yld Tryd.prog n_canon_Order #[t0] w K :=
  yld_of mixed canon_Order_ann Tryd.func17 (by kernel_rfl) (canon_Order_eq t0 w K) h

/-! loam/loamref17.Walk: function 18 -/
/-! loam/loamref17.Named: function 19 -/
/-! loam/graph.Equal: function 20 -/
def graph_Equal (K : K1) (t0 t1 : Value) (w : World) : Prop :=
 xBox Tryd.prog 25 t0 w fun t2 w =>
 xBox Tryd.prog 25 t1 w fun t3 w =>
 xFieldAddr Tryd.prog 25 t2 0 w fun t6 w =>
 xLoad Tryd.prog 22 t6 w fun t7 w =>
 xFieldAddr Tryd.prog 25 t3 0 w fun t8 w =>
 xLoad Tryd.prog 22 t8 w fun t9 w =>
 xCall Tryd.prog (fnv 39) [t7, t9, (fnv 40)] w fun t10 w =>
 xGuard t10 true (fun w K => xFieldAddr Tryd.prog 25 t2 1 w K) w fun t13 w =>
 xGuard t10 true (fun w K => xLoad Tryd.prog 23 t13 w K) w fun t14 w =>
 xGuard t10 true (fun w K => xFieldAddr Tryd.prog 25 t3 1 w K) w fun t15 w =>
 xGuard t10 true (fun w K => xLoad Tryd.prog 23 t15 w K) w fun t16 w =>
 xGuard t10 true (fun w K => xCall Tryd.prog (fnv 43) [t14, t16] w K) w fun t17 w =>
 xPick t10 t17 (.bool false) w fun t18 w =>
 K t18 w
abbrev n_graph_Equal : Nat := 20
def graph_Equal_ann : Ann := { loop := fun i => [], wr := fun i => [], told := fun i => [] }
theorem graph_Equal_eq (t0 t1 : Value) (w : World) (K : K1) : reads Tryd.prog graph_Equal_ann Tryd.f20 #[t0, t1] w K = graph_Equal K t0 t1 w := by kernel_rfl
theorem graph_Equal_of {t0 t1 : Value} {w : World} {K : K1} (h : graph_Equal K t0 t1 w) : Yld Tryd.prog n_graph_Equal #[t0, t1] w K :=
  yld_of mixed graph_Equal_ann Tryd.func20 (by kernel_rfl) (graph_Equal_eq t0 t1 w K) h

/-! loam/canon.Same: function 21 -/
def canon_Same (K : K1) (t0 t1 : Value) (w : World) : Prop :=
 xBox Tryd.prog 25 t0 w fun t2 w =>
 xBox Tryd.prog 25 t1 w fun t3 w =>
 xSq w.drew fun w =>
 xRd w (fun K => xLoad Tryd.prog 25 t2 w K) fun t5 =>
 xRd w (fun K => xLoad Tryd.prog 25 t3 w K) fun t7 =>
 xCall Tryd.prog (fnv 11) [t5] w fun t6 w =>
 xRe w (fun K => xLoad Tryd.prog 25 t3 w K) t7 (
 xCall Tryd.prog (fnv 11) [t7] w fun t8 w =>
 xCall Tryd.prog (fnv 20) [t6, t8] w fun t9 w =>
 xPur w (fun w K => K t9 w) fun t4 =>
 K t4 w)
abbrev n_canon_Same : Nat := 21
def canon_Same_ann : Ann := { loop := fun i => [], wr := fun i => [], told := fun i => bif Nat.beq i 1 then [(0, false, ⟨0, 36, some 5⟩), (2, false, ⟨0, 136, some 7⟩), (1, false, ⟨1, 96, some 6⟩), (3, false, ⟨6, 384, some 8⟩), (4, false, ⟨10, 832, some 9⟩), (5, false, ⟨31, 528, some 4⟩)] else [], sq := fun i => bif Nat.beq i 1 then some (.rd false 0 (.rd false 2 (.ef 1 [2] (.ef 3 [] (.ef 4 [] (.rd true 5 .done)))))) else none }
theorem canon_Same_eq (t0 t1 : Value) (w : World) (K : K1) : reads Tryd.prog canon_Same_ann Tryd.f21 #[t0, t1] w K = canon_Same K t0 t1 w := by kernel_rfl
theorem canon_Same_of {t0 t1 : Value} {w : World} {K : K1} (h : canon_Same K t0 t1 w) : Yld Tryd.prog n_canon_Same #[t0, t1] w K :=
  yld_of mixed canon_Same_ann Tryd.func21 (by kernel_rfl) (canon_Same_eq t0 t1 w K) h

/-! loam/loamref17.Pick: function 22 -/
/-! loam/loamlaw17.To: function 23 -/
/-! loam/graph.Twin: function 24 -/
def graph_Twin_l1 (K : K1) (nxt0 : List Value → World → Prop) (t1 t2 t3 t7 t8 t9 : Value) (w : World) : Prop :=
 xBin Tryd.prog .lss 3 false t9 false t8 w fun t10_1 w =>
 xIf t10_1
 (xIndexAddr Tryd.prog 22 t7 t9 w fun t11_1 w =>
 xLoad Tryd.prog 52 t11_1 w fun t12_1 w =>
 xAlloc Tryd.prog 52 w fun t5_1 w =>
 xStore Tryd.prog 52 t5_1 t12_1 w fun _ w =>
 xSq w.drew fun w =>
 xPur w (fun w K => xFieldAddr Tryd.prog 25 t3 0 w K) fun t13_1 =>
 xRd w (fun K => xLoad Tryd.prog 22 t13_1 w K) fun t14_1 =>
 xRd w (fun K => xLoad Tryd.prog 52 t5_1 w K) fun t15_1 =>
 xCall Tryd.prog (fnv 44) [t15_1, (fnv 45)] w fun t16_1 w =>
 xRe w (fun K => xLoad Tryd.prog 22 t13_1 w K) t14_1 (
 xBuildSlice Tryd.prog 22 1 [(0, t16_1)] w fun t17_1 w =>
 xRe w (fun K => xLoad Tryd.prog 22 t13_1 w K) t14_1 (
 xBuiltin Tryd.prog .append #[22, 22] 22 [false, false] [t14_1, t17_1] w fun t18_1 w =>
 xPur w (fun w K => xFieldAddr Tryd.prog 25 t3 0 w K) fun t19_1 =>
 xStore Tryd.prog 22 t19_1 t18_1 w fun _x7 w =>
 xBin Tryd.prog .add 3 false t9 true (.int .i64 1) w fun t20_1 w =>
 nxt0 [t20_1] w)))
 (xFieldAddr Tryd.prog 25 t1 1 w fun t21 w =>
 xLoad Tryd.prog 23 t21 w fun t22 w =>
 xCall Tryd.prog (fnv 46) [t22] w fun t23 w =>
 xCall Tryd.prog (fnv 30) [t23] w fun t24 w =>
 xFieldAddr Tryd.prog 25 t3 1 w fun t25 w =>
 xStore Tryd.prog 23 t25 t24 w fun _ w =>
 xFieldAddr Tryd.prog 25 t3 0 w fun t26 w =>
 xLoad Tryd.prog 22 t26 w fun t27 w =>
 xCall Tryd.prog (fnv 29) [t27] w fun t28 w =>
 xFieldAddr Tryd.prog 25 t3 0 w fun t29 w =>
 xStore Tryd.prog 22 t29 t28 w fun _ w =>
 xLoad Tryd.prog 25 t3 w fun t30 w =>
 xStore Tryd.prog 25 t2 t30 w fun _ w =>
 xLoadR Tryd.prog 25 t2 w fun r0 =>
 K r0 w)
def graph_Twin (K : K1) (t0 : Value) (w : World) : Prop :=
 xBox Tryd.prog 25 t0 w fun t1 w =>
 xAlloc Tryd.prog 25 w fun t2 w =>
 xAlloc Tryd.prog 25 w fun t3 w =>
 xFieldAddr Tryd.prog 25 t1 0 w fun t6 w =>
 xLoad Tryd.prog 22 t6 w fun t7 w =>
 xBuiltin Tryd.prog .len #[22] 3 [false] [t7] w fun t8 w =>
 xLoop [(.int .i64 0)] w [9] fun u w nxt0 =>
 graph_Twin_l1 K nxt0 t1 t2 t3 t7 t8 (u 9) w
abbrev n_graph_Twin : Nat := 24
def graph_Twin_ann : Ann := { loop := fun i => bif Nat.beq i 0 then [9] else [], wr := fun i => bif Nat.beq i 0 then [5, 9, 10, 11, 12, 13, 14, 15, 16, 17, 18, 19, 20] else [], told := fun i => bif Nat.beq i 5 then [(0, false, ⟨0, 8200, some 13⟩), (1, false, ⟨1, 24576, some 14⟩), (2, false, ⟨0, 32800, some 15⟩), (3, false, ⟨4, 98304, some 16⟩), (4, false, ⟨8, 196608, some 17⟩), (5, false, ⟨26, 409600, some 18⟩), (6, false, ⟨63, 524296, some 19⟩), (7, false, ⟨127, 786432, none⟩)] else [], sq := fun i => bif Nat.beq i 5 then some (.rd true 0 (.rd false 1 (.rd false 2 (.ef 3 [1] (.ef 4 [1] (.ef 5 [] (.rd true 6 (.ef 7 [] .done)))))))) else none }
theorem graph_Twin_eq (t0 : Value) (w : World) (K : K1) : reads Tryd.prog graph_Twin_ann Tryd.f24 #[t0] w K = graph_Twin K t0 w := by kernel_rfl
theorem graph_Twin_of {t0 : Value} {w : World} {K : K1} (h : graph_Twin K t0 w) : Yld Tryd.prog n_graph_Twin #[t0] w K :=
  yld_of mixed graph_Twin_ann Tryd.func24 (by kernel_rfl) (graph_Twin_eq t0 w K) h

/-! loam/loamref17.Good: function 25 -/
def loamref17_Good_l1 (K : K1) (nxt0 : List Value → World → Prop) (t0 t3 : Value) (w : World) : Prop :=
 xBuiltin Tryd.prog .len #[9] 3 [false] [t0] w fun t14_1 w =>
 xBin Tryd.prog .lss 3 false t3 false t14_1 w fun t15_1 w =>
 xIf t15_1
 (xIndex Tryd.prog 9 t0 t3 w fun t20_1 w =>
 xBin Tryd.prog .eql 5 false t20_1 true (c8 0) w fun t21_1 w =>
 xIf t21_1
 (K (.bool false) w)
 (xBin Tryd.prog .add 3 false t3 true (.int .i64 1) w fun t17_1 w =>
 nxt0 [t17_1] w))
 (K (.bool true) w)
def loamref17_Good (K : K1) (t0 : Value) (w : World) : Prop :=
 xBuiltin Tryd.prog .len #[9] 3 [false] [t0] w fun t5 w =>
 xBin Tryd.prog .lss 3 false t5 true (.int .i64 1) w fun t6 w =>
 xGuard t6 false (fun w K => K t0 w) w fun t8 w =>
 xGuard t6 false (fun w K => xBuiltin Tryd.prog .len #[9] 3 [false] [t8] w K) w fun t9 w =>
 xGuard t6 false (fun w K => xBin Tryd.prog .gtr 3 false t9 true (.int .i64 32) w K) w fun t10 w =>
 xPick t6 (.bool true) t10 w fun t11 w =>
 xIf t11
 (K (.bool false) w)
 (xLoop [(.int .i64 0)] w [3] fun u w nxt0 =>
 loamref17_Good_l1 K nxt0 t0 (u 3) w)
abbrev n_loamref17_Good : Nat := 25
def loamref17_Good_ann : Ann := { loop := fun i => bif Nat.beq i 0 then [3] else [], wr := fun i => bif Nat.beq i 0 then [2, 3, 12, 13, 14, 15, 16, 17, 18, 19, 20, 21] else [], told := fun i => [] }
theorem loamref17_Good_eq (t0 : Value) (w : World) (K : K1) : reads Tryd.prog loamref17_Good_ann Tryd.f25 #[t0] w K = loamref17_Good K t0 w := by kernel_rfl
theorem loamref17_Good_of {t0 : Value} {w : World} {K : K1} (h : loamref17_Good K t0 w) : Yld Tryd.prog n_loamref17_Good #[t0] w K :=
  yld_of mixed loamref17_Good_ann Tryd.func25 (by kernel_rfl) (loamref17_Good_eq t0 w K) h

/-! slices.Clip[[]byte,byte]: function 26 -/
def slices_Clip_byte_byte (K : K1) (t0 : Value) (w : World) : Prop :=
 xBuiltin Tryd.prog .len #[45] 3 [false] [t0] w fun t5 w =>
 xBuiltin Tryd.prog .len #[45] 3 [false] [t0] w fun t7 w =>
 xSlice Tryd.prog 45 t0 none (some t5) (some t7) w fun t8 w =>
 K t8 w
abbrev n_slices_Clip_byte_byte : Nat := 26
def slices_Clip_byte_byte_ann : Ann := { loop := fun i => [], wr := fun i => [], told := fun i => [] }
theorem slices_Clip_byte_byte_eq (t0 : Value) (w : World) (K : K1) : reads Tryd.prog slices_Clip_byte_byte_ann Tryd.f26 #[t0] w K = slices_Clip_byte_byte K t0 w := by kernel_rfl
theorem slices_Clip_byte_byte_of {t0 : Value} {w : World} {K : K1} (h : slices_Clip_byte_byte K t0 w) : Yld Tryd.prog n_slices_Clip_byte_byte #[t0] w K :=
  yld_of mixed slices_Clip_byte_byte_ann Tryd.func26 (by kernel_rfl) (slices_Clip_byte_byte_eq t0 w K) h

/-! slices.Clone[[]byte,byte]: function 27 -/
def slices_Clone_byte_byte (K : K1) (t0 : Value) (w : World) : Prop :=
 xBin Tryd.prog .eql 45 false t0 true (.slice none 0 0) w fun t4 w =>
 xIf t4
 (K (.slice none 0 0) w)
 (xBuildSlice Tryd.prog 45 0 [] w fun t5 w =>
 xBuiltin Tryd.prog .append #[45, 45] 45 [false, false] [t5, t0] w fun t7 w =>
 K t7 w)
abbrev n_slices_Clone_byte_byte : Nat := 27
def slices_Clone_byte_byte_ann : Ann := { loop := fun i => [], wr := fun i => [], told := fun i => [] }
theorem slices_Clone_byte_byte_eq (t0 : Value) (w : World) (K : K1) : reads Tryd.prog slices_Clone_byte_byte_ann Tryd.f27 #[t0] w K = slices_Clone_byte_byte K t0 w := by kernel_rfl
theorem slices_Clone_byte_byte_of {t0 : Value} {w : World} {K : K1} (h : slices_Clone_byte_byte K t0 w) : Yld Tryd.prog n_slices_Clone_byte_byte #[t0] w K :=
  yld_of mixed slices_Clone_byte_byte_ann Tryd.func27 (by kernel_rfl) (slices_Clone_byte_byte_eq t0 w K) h

/-! slices.Clip[[]int,int]: function 28 -/
def slices_Clip_int_int (K : K1) (t0 : Value) (w : World) : Prop :=
 xBuiltin Tryd.prog .len #[40] 3 [false] [t0] w fun t5 w =>
 xBuiltin Tryd.prog .len #[40] 3 [false] [t0] w fun t7 w =>
 xSlice Tryd.prog 40 t0 none (some t5) (some t7) w fun t8 w =>
 K t8 w
abbrev n_slices_Clip_int_int : Nat := 28
def slices_Clip_int_int_ann : Ann := { loop := fun i => [], wr := fun i => [], told := fun i => [] }
theorem slices_Clip_int_int_eq (t0 : Value) (w : World) (K : K1) : reads Tryd.prog slices_Clip_int_int_ann Tryd.f28 #[t0] w K = slices_Clip_int_int K t0 w := by kernel_rfl
theorem slices_Clip_int_int_of {t0 : Value} {w : World} {K : K1} (h : slices_Clip_int_int K t0 w) : Yld Tryd.prog n_slices_Clip_int_int #[t0] w K :=
  yld_of mixed slices_Clip_int_int_ann Tryd.func28 (by kernel_rfl) (slices_Clip_int_int_eq t0 w K) h

/-! slices.Clip[[]loam/graph.Node,loam/graph.Node]: function 29 -/
def slices_Clip_graph_Node_graph_Node (K : K1) (t0 : Value) (w : World) : Prop :=
 xBuiltin Tryd.prog .len #[22] 3 [false] [t0] w fun t5 w =>
 xBuiltin Tryd.prog .len #[22] 3 [false] [t0] w fun t7 w =>
 xSlice Tryd.prog 22 t0 none (some t5) (some t7) w fun t8 w =>
 K t8 w
abbrev n_slices_Clip_graph_Node_graph_Node : Nat := 29
def slices_Clip_graph_Node_graph_Node_ann : Ann := { loop := fun i => [], wr := fun i => [], told := fun i => [] }
theorem slices_Clip_graph_Node_graph_Node_eq (t0 : Value) (w : World) (K : K1) : reads Tryd.prog slices_Clip_graph_Node_graph_Node_ann Tryd.f29 #[t0] w K = slices_Clip_graph_Node_graph_Node K t0 w := by kernel_rfl
theorem slices_Clip_graph_Node_graph_Node_of {t0 : Value} {w : World} {K : K1} (h : slices_Clip_graph_Node_graph_Node K t0 w) : Yld Tryd.prog n_slices_Clip_graph_Node_graph_Node #[t0] w K :=
  yld_of mixed slices_Clip_graph_Node_graph_Node_ann Tryd.func29 (by kernel_rfl) (slices_Clip_graph_Node_graph_Node_eq t0 w K) h

/-! slices.Clip[[]loam/graph.Root,loam/graph.Root]: function 30 -/
def slices_Clip_graph_Root_graph_Root (K : K1) (t0 : Value) (w : World) : Prop :=
 xBuiltin Tryd.prog .len #[23] 3 [false] [t0] w fun t5 w =>
 xBuiltin Tryd.prog .len #[23] 3 [false] [t0] w fun t7 w =>
 xSlice Tryd.prog 23 t0 none (some t5) (some t7) w fun t8 w =>
 K t8 w
abbrev n_slices_Clip_graph_Root_graph_Root : Nat := 30
def slices_Clip_graph_Root_graph_Root_ann : Ann := { loop := fun i => [], wr := fun i => [], told := fun i => [] }
theorem slices_Clip_graph_Root_graph_Root_eq (t0 : Value) (w : World) (K : K1) : reads Tryd.prog slices_Clip_graph_Root_graph_Root_ann Tryd.f30 #[t0] w K = slices_Clip_graph_Root_graph_Root K t0 w := by kernel_rfl
theorem slices_Clip_graph_Root_graph_Root_of {t0 : Value} {w : World} {K : K1} (h : slices_Clip_graph_Root_graph_Root K t0 w) : Yld Tryd.prog n_slices_Clip_graph_Root_graph_Root #[t0] w K :=
  yld_of mixed slices_Clip_graph_Root_graph_Root_ann Tryd.func30 (by kernel_rfl) (slices_Clip_graph_Root_graph_Root_eq t0 w K) h

/-! (*strings.Builder).WriteString: function 31 -/
abbrev n_strings_Builder_WriteString : Nat := 31
/-! (*strings.Builder).WriteByte: function 33 -/
def strings_Builder_WriteByte (K : K1) (t0 t1 : Value) (w : World) : Prop :=
 xCall Tryd.prog (fnv 47) [t0] w fun t6 w =>
 xNilCheck t0 w fun t9 w =>
 xFieldAddr Tryd.prog 65 t9 1 w fun t10 w =>
 xLoad Tryd.prog 45 t10 w fun t11 w =>
 xBuildSlice Tryd.prog 45 1 [(0, t1)] w fun t13 w =>
 xBuiltin Tryd.prog .append #[45, 45] 45 [false, false] [t11, t13] w fun t14 w =>
 xNilCheck t0 w fun t15 w =>
 xFieldAddr Tryd.prog 65 t15 1 w fun t16 w =>
 xStore Tryd.prog 45 t16 t14 w fun _ w =>
 K (.nilIface) w
abbrev n_strings_Builder_WriteByte : Nat := 33
def strings_Builder_WriteByte_ann : Ann := { loop := fun i => [], wr := fun i => [], told := fun i => [] }
theorem strings_Builder_WriteByte_eq (t0 t1 : Value) (w : World) (K : K1) : reads Tryd.prog strings_Builder_WriteByte_ann Tryd.f33 #[t0, t1] w K = strings_Builder_WriteByte K t0 t1 w := by kernel_rfl
theorem strings_Builder_WriteByte_of {t0 t1 : Value} {w : World} {K : K1} (h : strings_Builder_WriteByte K t0 t1 w) : Yld Tryd.prog n_strings_Builder_WriteByte #[t0, t1] w K :=
  yld_of mixed strings_Builder_WriteByte_ann Tryd.func33 (by kernel_rfl) (strings_Builder_WriteByte_eq t0 t1 w K) h

/-! loam/loamref17.Decimal: function 35 -/
/-! loam/loamref17.Hex: function 36 -/
/-! loam/loamlaw15.ints: function 37 -/
/-! loam/canon.Order$1: function 38 -/
def canon_Order_1 (K : K1) (t0 t1 t2 t3 : Value) (w : World) : Prop :=
 xBin Tryd.prog .geq 3 false t0 true (.int .i64 1) w fun t6 w =>
 xGuard t6 true (fun w K => K t0 w) w fun t8 w =>
 xGuard t6 true (fun w K => xFieldAddr Tryd.prog 25 t1 0 w K) w fun t9 w =>
 xGuard t6 true (fun w K => xLoad Tryd.prog 22 t9 w K) w fun t10 w =>
 xGuard t6 true (fun w K => xBuiltin Tryd.prog .len #[22] 3 [false] [t10] w K) w fun t11 w =>
 xGuard t6 true (fun w K => xBin Tryd.prog .leq 3 false t8 false t11 w K) w fun t12 w =>
 xPick t6 t12 (.bool false) w fun t13 w =>
 xGuard t13 true (fun w K => xLoad Tryd.prog 75 t2 w K) w fun t15 w =>
 xGuard t13 true (fun w K => K t0 w) w fun t16 w =>
 xGuard t13 true (fun w K => xLookup Tryd.prog 75 t15 t16 false w K) w fun t17 w =>
 xGuard t13 true (fun w K => xUn Tryd.prog .not t17 w K) w fun t18 w =>
 xPick t13 t18 (.bool false) w fun t19 w =>
 xIf t19
 (xLoad Tryd.prog 75 t2 w fun t20 w =>
 xMapUpdate Tryd.prog 75 t20 t0 (.bool true) w fun _ w =>
 xLoad Tryd.prog 40 t3 w fun t22 w =>
 xBuildSlice Tryd.prog 40 1 [(0, t0)] w fun t24 w =>
 xBuiltin Tryd.prog .append #[40, 40] 40 [false, false] [t22, t24] w fun t25 w =>
 xStore Tryd.prog 40 t3 t25 w fun _ w =>
 K (.tuple #[]) w)
 (K (.tuple #[]) w)
abbrev n_canon_Order_1 : Nat := 38
def canon_Order_1_ann : Ann := { loop := fun i => [], wr := fun i => [], told := fun i => [] }
theorem canon_Order_1_eq (t0 t1 t2 t3 : Value) (w : World) (K : K1) : reads Tryd.prog canon_Order_1_ann Tryd.f38 #[t0, t1, t2, t3] w K = canon_Order_1 K t0 t1 t2 t3 w := by kernel_rfl
theorem canon_Order_1_of {t0 t1 t2 t3 : Value} {w : World} {K : K1} (h : canon_Order_1 K t0 t1 t2 t3 w) : Yld Tryd.prog n_canon_Order_1 #[t0, t1, t2, t3] w K :=
  yld_of mixed canon_Order_1_ann Tryd.func38 (by kernel_rfl) (canon_Order_1_eq t0 t1 t2 t3 w K) h

/-! slices.EqualFunc[[]loam/graph.Node,[]loam/graph.Node,loam/graph.Node,loam/graph.Node]: function 39 -/
def slices_EqualFunc_graph_Node_graph_Node_graph_Node_graph_Node_l1 (K : K1) (nxt0 : List Value → World → Prop) (t1 t2 t15 t16 t17 : Value) (w : World) : Prop :=
 xBin Tryd.prog .lss 3 false t17 false t16 w fun t18_1 w =>
 xIf t18_1
 (xIndexAddr Tryd.prog 22 t15 t17 w fun t20_1 w =>
 xLoad Tryd.prog 52 t20_1 w fun t21_1 w =>
 xAlloc Tryd.prog 52 w fun t8_1 w =>
 xStore Tryd.prog 52 t8_1 t21_1 w fun _ w =>
 xIndexAddr Tryd.prog 22 t1 t17 w fun t24_1 w =>
 xLoad Tryd.prog 52 t24_1 w fun t25_1 w =>
 xAlloc Tryd.prog 52 w fun t9_1 w =>
 xStore Tryd.prog 52 t9_1 t25_1 w fun _ w =>
 xLoad Tryd.prog 52 t8_1 w fun t27_1 w =>
 xLoad Tryd.prog 52 t9_1 w fun t28_1 w =>
 xCall Tryd.prog t2 [t27_1, t28_1] w fun t29_1 w =>
 xUn Tryd.prog .not t29_1 w fun t30_1 w =>
 xIf t30_1
 (K (.bool false) w)
 (xBin Tryd.prog .add 3 false t17 true (.int .i64 1) w fun t31_1 w =>
 nxt0 [t31_1] w))
 (K (.bool true) w)
def slices_EqualFunc_graph_Node_graph_Node_graph_Node_graph_Node (K : K1) (t0 t1 t2 : Value) (w : World) : Prop :=
 xBuiltin Tryd.prog .len #[22] 3 [false] [t0] w fun t11 w =>
 xBuiltin Tryd.prog .len #[22] 3 [false] [t1] w fun t13 w =>
 xBin Tryd.prog .neq 3 false t11 false t13 w fun t14 w =>
 xIf t14
 (K (.bool false) w)
 (xBuiltin Tryd.prog .len #[22] 3 [false] [t0] w fun t16 w =>
 xLoop [(.int .i64 0)] w [17] fun u w nxt0 =>
 slices_EqualFunc_graph_Node_graph_Node_graph_Node_graph_Node_l1 K nxt0 t1 t2 t0 t16 (u 17) w)
abbrev n_slices_EqualFunc_graph_Node_graph_Node_graph_Node_graph_Node : Nat := 39
def slices_EqualFunc_graph_Node_graph_Node_graph_Node_graph_Node_ann : Ann := { loop := fun i => bif Nat.beq i 0 then [17] else [], wr := fun i => bif Nat.beq i 0 then [6, 7, 8, 9, 17, 18, 19, 20, 21, 22, 23, 24, 25, 26, 27, 28, 29, 30, 31] else [], told := fun i => [] }
theorem slices_EqualFunc_graph_Node_graph_Node_graph_Node_graph_Node_eq (t0 t1 t2 : Value) (w : World) (K : K1) : reads Tryd.prog slices_EqualFunc_graph_Node_graph_Node_graph_Node_graph_Node_ann Tryd.f39 #[t0, t1, t2] w K = slices_EqualFunc_graph_Node_graph_Node_graph_Node_graph_Node K t0 t1 t2 w := by kernel_rfl
theorem slices_EqualFunc_graph_Node_graph_Node_graph_Node_graph_Node_of {t0 t1 t2 : Value} {w : World} {K : K1} (h : slices_EqualFunc_graph_Node_graph_Node_graph_Node_graph_Node K t0 t1 t2 w) : Yld Tryd.prog n_slices_EqualFunc_graph_Node_graph_Node_graph_Node_graph_Node #[t0, t1, t2] w K :=
  yld_of mixed slices_EqualFunc_graph_Node_graph_Node_graph_Node_graph_Node_ann Tryd.func39 (by kernel_rfl) (slices_EqualFunc_graph_Node_graph_Node_graph_Node_graph_Node_eq t0 t1 t2 w K) h

/-! loam/graph.Equal$1: function 40 -/
def graph_Equal_1 (K : K1) (t0 t1 : Value) (w : World) : Prop :=
 xBox Tryd.prog 52 t0 w fun t2 w =>
 xBox Tryd.prog 52 t1 w fun t3 w =>
 xFieldAddr Tryd.prog 52 t2 0 w fun t5 w =>
 xLoad Tryd.prog 40 t5 w fun t6 w =>
 xFieldAddr Tryd.prog 52 t3 0 w fun t7 w =>
 xLoad Tryd.prog 40 t7 w fun t8 w =>
 xCall Tryd.prog (fnv 41) [t6, t8] w fun t9 w =>
 xGuard t9 true (fun w K => xFieldAddr Tryd.prog 52 t2 1 w K) w fun t11 w =>
 xGuard t9 true (fun w K => xLoad Tryd.prog 45 t11 w K) w fun t12 w =>
 xGuard t9 true (fun w K => xFieldAddr Tryd.prog 52 t3 1 w K) w fun t13 w =>
 xGuard t9 true (fun w K => xLoad Tryd.prog 45 t13 w K) w fun t14 w =>
 xGuard t9 true (fun w K => xCall Tryd.prog (fnv 42) [t12, t14] w K) w fun t15 w =>
 xPick t9 t15 (.bool false) w fun t16 w =>
 K t16 w
abbrev n_graph_Equal_1 : Nat := 40
def graph_Equal_1_ann : Ann := { loop := fun i => [], wr := fun i => [], told := fun i => [] }
theorem graph_Equal_1_eq (t0 t1 : Value) (w : World) (K : K1) : reads Tryd.prog graph_Equal_1_ann Tryd.f40 #[t0, t1] w K = graph_Equal_1 K t0 t1 w := by kernel_rfl
theorem graph_Equal_1_of {t0 t1 : Value} {w : World} {K : K1} (h : graph_Equal_1 K t0 t1 w) : Yld Tryd.prog n_graph_Equal_1 #[t0, t1] w K :=
  yld_of mixed graph_Equal_1_ann Tryd.func40 (by kernel_rfl) (graph_Equal_1_eq t0 t1 w K) h

/-! slices.Equal[[]int,int]: function 41 -/
def slices_Equal_int_int_l1 (K : K1) (nxt0 : List Value → World → Prop) (t0 t1 t12 t13 : Value) (w : World) : Prop :=
 xBin Tryd.prog .lss 3 false t13 false t12 w fun t14_1 w =>
 xIf t14_1
 (xSq w.drew fun w =>
 xPur w (fun w K => K t0 w) fun t16_1 =>
 xPur w (fun w K => K t13 w) fun t17_1 =>
 xPur w (fun w K => xIndexAddr Tryd.prog 40 t16_1 t17_1 w K) fun t18_1 =>
 xRd w (fun K => xLoad Tryd.prog 3 t18_1 w K) fun t19_1 =>
 xPur w (fun w K => K t1 w) fun t20_1 =>
 xPur w (fun w K => K t13 w) fun t21_1 =>
 xPur w (fun w K => xIndexAddr Tryd.prog 40 t20_1 t21_1 w K) fun t22_1 =>
 xRd w (fun K => xLoad Tryd.prog 3 t22_1 w K) fun t23_1 =>
 xPur w (fun w K => xBin Tryd.prog .neq 3 false t19_1 false t23_1 w K) fun t24_1 =>
 xIf t24_1
 (K (.bool false) w)
 (xBin Tryd.prog .add 3 false t13 true (.int .i64 1) w fun t25_1 w =>
 nxt0 [t25_1] w))
 (K (.bool true) w)
def slices_Equal_int_int (K : K1) (t0 t1 : Value) (w : World) : Prop :=
 xBuiltin Tryd.prog .len #[40] 3 [false] [t0] w fun t7 w =>
 xBuiltin Tryd.prog .len #[40] 3 [false] [t1] w fun t9 w =>
 xBin Tryd.prog .neq 3 false t7 false t9 w fun t10 w =>
 xIf t10
 (K (.bool false) w)
 (xBuiltin Tryd.prog .len #[40] 3 [false] [t0] w fun t12 w =>
 xLoop [(.int .i64 0)] w [13] fun u w nxt0 =>
 slices_Equal_int_int_l1 K nxt0 t0 t1 t12 (u 13) w)
abbrev n_slices_Equal_int_int : Nat := 41
def slices_Equal_int_int_ann : Ann := { loop := fun i => bif Nat.beq i 0 then [13] else [], wr := fun i => bif Nat.beq i 0 then [4, 5, 13, 14, 15, 16, 17, 18, 19, 20, 21, 22, 23, 24, 25] else [], told := fun i => bif Nat.beq i 6 then [(0, false, ⟨0, 65537, some 16⟩), (1, false, ⟨0, 131104, some 17⟩), (2, false, ⟨3, 458752, some 18⟩), (3, false, ⟨4, 786432, some 19⟩), (4, false, ⟨0, 1048578, some 20⟩), (5, false, ⟨0, 2097184, some 21⟩), (6, false, ⟨48, 7340032, some 22⟩), (7, false, ⟨64, 12582912, some 23⟩), (8, false, ⟨136, 25690112, some 24⟩)] else [], sq := fun i => bif Nat.beq i 6 then some (.rd true 0 (.rd true 1 (.rd true 2 (.rd false 3 (.rd true 4 (.rd true 5 (.rd true 6 (.rd false 7 (.rd true 8 .done))))))))) else none }
theorem slices_Equal_int_int_eq (t0 t1 : Value) (w : World) (K : K1) : reads Tryd.prog slices_Equal_int_int_ann Tryd.f41 #[t0, t1] w K = slices_Equal_int_int K t0 t1 w := by kernel_rfl
theorem slices_Equal_int_int_of {t0 t1 : Value} {w : World} {K : K1} (h : slices_Equal_int_int K t0 t1 w) : Yld Tryd.prog n_slices_Equal_int_int #[t0, t1] w K :=
  yld_of mixed slices_Equal_int_int_ann Tryd.func41 (by kernel_rfl) (slices_Equal_int_int_eq t0 t1 w K) h

/-! bytes.Equal: function 42 -/
def bytes_Equal (K : K1) (t0 t1 : Value) (w : World) : Prop :=
 xConv Tryd.prog 45 9 t0 w fun t6 w =>
 xConv Tryd.prog 45 9 t1 w fun t8 w =>
 xBin Tryd.prog .eql 9 false t6 false t8 w fun t9 w =>
 K t9 w
abbrev n_bytes_Equal : Nat := 42
def bytes_Equal_ann : Ann := { loop := fun i => [], wr := fun i => [], told := fun i => [] }
theorem bytes_Equal_eq (t0 t1 : Value) (w : World) (K : K1) : reads Tryd.prog bytes_Equal_ann Tryd.f42 #[t0, t1] w K = bytes_Equal K t0 t1 w := by kernel_rfl
theorem bytes_Equal_of {t0 t1 : Value} {w : World} {K : K1} (h : bytes_Equal K t0 t1 w) : Yld Tryd.prog n_bytes_Equal #[t0, t1] w K :=
  yld_of mixed bytes_Equal_ann Tryd.func42 (by kernel_rfl) (bytes_Equal_eq t0 t1 w K) h

/-! slices.Equal[[]loam/graph.Root,loam/graph.Root]: function 43 -/
def slices_Equal_graph_Root_graph_Root_l1 (K : K1) (nxt0 : List Value → World → Prop) (t0 t1 t12 t13 : Value) (w : World) : Prop :=
 xBin Tryd.prog .lss 3 false t13 false t12 w fun t14_1 w =>
 xIf t14_1
 (xSq w.drew fun w =>
 xPur w (fun w K => K t0 w) fun t16_1 =>
 xPur w (fun w K => K t13 w) fun t17_1 =>
 xPur w (fun w K => xIndexAddr Tryd.prog 23 t16_1 t17_1 w K) fun t18_1 =>
 xRd w (fun K => xLoad Tryd.prog 55 t18_1 w K) fun t19_1 =>
 xPur w (fun w K => K t1 w) fun t20_1 =>
 xPur w (fun w K => K t13 w) fun t21_1 =>
 xPur w (fun w K => xIndexAddr Tryd.prog 23 t20_1 t21_1 w K) fun t22_1 =>
 xRd w (fun K => xLoad Tryd.prog 55 t22_1 w K) fun t23_1 =>
 xPur w (fun w K => xBin Tryd.prog .neq 55 false t19_1 false t23_1 w K) fun t24_1 =>
 xIf t24_1
 (K (.bool false) w)
 (xBin Tryd.prog .add 3 false t13 true (.int .i64 1) w fun t25_1 w =>
 nxt0 [t25_1] w))
 (K (.bool true) w)
def slices_Equal_graph_Root_graph_Root (K : K1) (t0 t1 : Value) (w : World) : Prop :=
 xBuiltin Tryd.prog .len #[23] 3 [false] [t0] w fun t7 w =>
 xBuiltin Tryd.prog .len #[23] 3 [false] [t1] w fun t9 w =>
 xBin Tryd.prog .neq 3 false t7 false t9 w fun t10 w =>
 xIf t10
 (K (.bool false) w)
 (xBuiltin Tryd.prog .len #[23] 3 [false] [t0] w fun t12 w =>
 xLoop [(.int .i64 0)] w [13] fun u w nxt0 =>
 slices_Equal_graph_Root_graph_Root_l1 K nxt0 t0 t1 t12 (u 13) w)
abbrev n_slices_Equal_graph_Root_graph_Root : Nat := 43
def slices_Equal_graph_Root_graph_Root_ann : Ann := { loop := fun i => bif Nat.beq i 0 then [13] else [], wr := fun i => bif Nat.beq i 0 then [4, 5, 13, 14, 15, 16, 17, 18, 19, 20, 21, 22, 23, 24, 25] else [], told := fun i => bif Nat.beq i 6 then [(0, false, ⟨0, 65537, some 16⟩), (1, false, ⟨0, 131104, some 17⟩), (2, false, ⟨3, 458752, some 18⟩), (3, false, ⟨4, 786432, some 19⟩), (4, false, ⟨0, 1048578, some 20⟩), (5, false, ⟨0, 2097184, some 21⟩), (6, false, ⟨48, 7340032, some 22⟩), (7, false, ⟨64, 12582912, some 23⟩), (8, false, ⟨136, 25690112, some 24⟩)] else [], sq := fun i => bif Nat.beq i 6 then some (.rd true 0 (.rd true 1 (.rd true 2 (.rd false 3 (.rd true 4 (.rd true 5 (.rd true 6 (.rd false 7 (.rd true 8 .done))))))))) else none }
theorem slices_Equal_graph_Root_graph_Root_eq (t0 t1 : Value) (w : World) (K : K1) : reads Tryd.prog slices_Equal_graph_Root_graph_Root_ann Tryd.f43 #[t0, t1] w K = slices_Equal_graph_Root_graph_Root K t0 t1 w := by kernel_rfl
theorem slices_Equal_graph_Root_graph_Root_of {t0 t1 : Value} {w : World} {K : K1} (h : slices_Equal_graph_Root_graph_Root K t0 t1 w) : Yld Tryd.prog n_slices_Equal_graph_Root_graph_Root #[t0, t1] w K :=
  yld_of mixed slices_Equal_graph_Root_graph_Root_ann Tryd.func43 (by kernel_rfl) (slices_Equal_graph_Root_graph_Root_eq t0 t1 w K) h

/-! (loam/graph.Node).apart: function 44 -/
def graph_Node_apart_l1 (K : K1) (nxt0 : List Value → World → Prop) (t1 t4 t5 t14 t15 t16 : Value) (w : World) : Prop :=
 xBin Tryd.prog .lss 3 false t16 false t15 w fun t17_1 w =>
 xIf t17_1
 (xIndexAddr Tryd.prog 40 t14 t16 w fun t18_1 w =>
 xLoad Tryd.prog 3 t18_1 w fun t19_1 w =>
 xSq w.drew fun w =>
 xPur w (fun w K => xFieldAddr Tryd.prog 52 t5 0 w K) fun t20_1 =>
 xRd w (fun K => xLoad Tryd.prog 40 t20_1 w K) fun t21_1 =>
 xPur w (fun w K => K t1 w) fun t22_1 =>
 xPur w (fun w K => K t19_1 w) fun t23_1 =>
 xCall Tryd.prog t22_1 [t23_1] w fun t24_1 w =>
 xRe w (fun K => xLoad Tryd.prog 40 t20_1 w K) t21_1 (
 xBuildSlice Tryd.prog 40 1 [(0, t24_1)] w fun t25_1 w =>
 xRe w (fun K => xLoad Tryd.prog 40 t20_1 w K) t21_1 (
 xBuiltin Tryd.prog .append #[40, 40] 40 [false, false] [t21_1, t25_1] w fun t26_1 w =>
 xPur w (fun w K => xFieldAddr Tryd.prog 52 t5 0 w K) fun t27_1 =>
 xStore Tryd.prog 40 t27_1 t26_1 w fun _x8 w =>
 xBin Tryd.prog .add 3 false t16 true (.int .i64 1) w fun t28_1 w =>
 nxt0 [t28_1] w)))
 (xFieldAddr Tryd.prog 52 t5 0 w fun t29 w =>
 xLoad Tryd.prog 40 t29 w fun t30 w =>
 xCall Tryd.prog (fnv 28) [t30] w fun t31 w =>
 xFieldAddr Tryd.prog 52 t5 0 w fun t32 w =>
 xStore Tryd.prog 40 t32 t31 w fun _ w =>
 xLoad Tryd.prog 52 t5 w fun t33 w =>
 xStore Tryd.prog 52 t4 t33 w fun _ w =>
 xLoadR Tryd.prog 52 t4 w fun r0 =>
 K r0 w)
def graph_Node_apart (K : K1) (t0 t1 : Value) (w : World) : Prop :=
 xBox Tryd.prog 52 t0 w fun t2 w =>
 xAlloc Tryd.prog 52 w fun t4 w =>
 xFieldAddr Tryd.prog 52 t2 1 w fun t8 w =>
 xLoad Tryd.prog 45 t8 w fun t9 w =>
 xCall Tryd.prog (fnv 27) [t9] w fun t10 w =>
 xCall Tryd.prog (fnv 26) [t10] w fun t11 w =>
 xBuild Tryd.prog 52 [(1, t11)] w fun t12 w =>
 xAlloc Tryd.prog 52 w fun t5 w =>
 xStore Tryd.prog 52 t5 t12 w fun _ w =>
 xFieldAddr Tryd.prog 52 t2 0 w fun t13 w =>
 xLoad Tryd.prog 40 t13 w fun t14 w =>
 xBuiltin Tryd.prog .len #[40] 3 [false] [t14] w fun t15 w =>
 xLoop [(.int .i64 0)] w [16] fun u w nxt0 =>
 graph_Node_apart_l1 K nxt0 t1 t4 t5 t14 t15 (u 16) w
abbrev n_graph_Node_apart : Nat := 44
def graph_Node_apart_ann : Ann := { loop := fun i => bif Nat.beq i 0 then [16] else [], wr := fun i => bif Nat.beq i 0 then [7, 16, 17, 18, 19, 20, 21, 22, 23, 24, 25, 26, 27, 28] else [], told := fun i => bif Nat.beq i 5 then [(0, false, ⟨0, 1048608, some 20⟩), (1, false, ⟨1, 3145728, some 21⟩), (2, false, ⟨0, 4194306, some 22⟩), (3, false, ⟨0, 8388736, some 23⟩), (4, false, ⟨12, 29360128, some 24⟩), (5, false, ⟨16, 50331648, some 25⟩), (6, false, ⟨50, 102760448, some 26⟩), (7, false, ⟨127, 134217760, some 27⟩), (8, false, ⟨255, 201326592, none⟩)] else [], sq := fun i => bif Nat.beq i 5 then some (.rd true 0 (.rd false 1 (.rd true 2 (.rd true 3 (.ef 4 [1] (.ef 5 [1] (.ef 6 [] (.rd true 7 (.ef 8 [] .done))))))))) else none }
theorem graph_Node_apart_eq (t0 t1 : Value) (w : World) (K : K1) : reads Tryd.prog graph_Node_apart_ann Tryd.f44 #[t0, t1] w K = graph_Node_apart K t0 t1 w := by kernel_rfl
theorem graph_Node_apart_of {t0 t1 : Value} {w : World} {K : K1} (h : graph_Node_apart K t0 t1 w) : Yld Tryd.prog n_graph_Node_apart #[t0, t1] w K :=
  yld_of mixed graph_Node_apart_ann Tryd.func44 (by kernel_rfl) (graph_Node_apart_eq t0 t1 w K) h

/-! loam/graph.Twin$1: function 45 -/
def graph_Twin_1 (K : K1) (t0 : Value) (w : World) : Prop :=
 K t0 w
abbrev n_graph_Twin_1 : Nat := 45
def graph_Twin_1_ann : Ann := { loop := fun i => [], wr := fun i => [], told := fun i => [] }
theorem graph_Twin_1_eq (t0 : Value) (w : World) (K : K1) : reads Tryd.prog graph_Twin_1_ann Tryd.f45 #[t0] w K = graph_Twin_1 K t0 w := by kernel_rfl
theorem graph_Twin_1_of {t0 : Value} {w : World} {K : K1} (h : graph_Twin_1 K t0 w) : Yld Tryd.prog n_graph_Twin_1 #[t0] w K :=
  yld_of mixed graph_Twin_1_ann Tryd.func45 (by kernel_rfl) (graph_Twin_1_eq t0 w K) h

/-! slices.Clone[[]loam/graph.Root,loam/graph.Root]: function 46 -/
def slices_Clone_graph_Root_graph_Root (K : K1) (t0 : Value) (w : World) : Prop :=
 xBin Tryd.prog .eql 23 false t0 true (.slice none 0 0) w fun t4 w =>
 xIf t4
 (K (.slice none 0 0) w)
 (xBuildSlice Tryd.prog 23 0 [] w fun t5 w =>
 xBuiltin Tryd.prog .append #[23, 23] 23 [false, false] [t5, t0] w fun t7 w =>
 K t7 w)
abbrev n_slices_Clone_graph_Root_graph_Root : Nat := 46
def slices_Clone_graph_Root_graph_Root_ann : Ann := { loop := fun i => [], wr := fun i => [], told := fun i => [] }
theorem slices_Clone_graph_Root_graph_Root_eq (t0 : Value) (w : World) (K : K1) : reads Tryd.prog slices_Clone_graph_Root_graph_Root_ann Tryd.f46 #[t0] w K = slices_Clone_graph_Root_graph_Root K t0 w := by kernel_rfl
theorem slices_Clone_graph_Root_graph_Root_of {t0 : Value} {w : World} {K : K1} (h : slices_Clone_graph_Root_graph_Root K t0 w) : Yld Tryd.prog n_slices_Clone_graph_Root_graph_Root #[t0] w K :=
  yld_of mixed slices_Clone_graph_Root_graph_Root_ann Tryd.func46 (by kernel_rfl) (slices_Clone_graph_Root_graph_Root_eq t0 w K) h

end Go.Proofs.YthhcmoknppljpaaDoor
