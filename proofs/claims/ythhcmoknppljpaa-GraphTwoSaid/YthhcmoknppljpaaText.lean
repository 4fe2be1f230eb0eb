/- Each function of the set, as it is loaded, read as a statement on values; and that a call gives what the reading asks. -/
import Derived.Test.YthhcmoknppljpaaBase
set_option linter.unusedVariables false
namespace Go.Proofs.Ythhcmoknppljpaa
open Go.Sh Go.RowKit
/-! loam/loamlaw17.GraphAny: function 3 -/
/-! loam/loamlaw17.GraphTwo: function 4 -/
def loamlaw17_GraphTwo_l3 (K : K1) (nxt0 : List Value → World → Prop) (nxt4 : List Value → World → Prop) (t5 t7 t9 : Value) (w : World) : Prop :=
 xFieldAddr Try.prog 25 t5 0 w fun t65_1 w =>
 xLoad Try.prog 22 t65_1 w fun t66_1 w =>
 xIndexAddr Try.prog 22 t66_1 t7 w fun t68_1 w =>
 xFieldAddr Try.prog 53 t68_1 0 w fun t69_1 w =>
 xLoad Try.prog 26 t69_1 w fun t70_1 w =>
 xBuiltin Try.prog .len #[26] 3 [false] [t70_1] w fun t71_1 w =>
 xBin Try.prog .lss 3 false t9 false t71_1 w fun t72_1 w =>
 xIf t72_1
 (xFieldAddr Try.prog 25 t5 0 w fun t75_1 w =>
 xLoad Try.prog 22 t75_1 w fun t76_1 w =>
 xIndexAddr Try.prog 22 t76_1 t7 w fun t78_1 w =>
 xFieldAddr Try.prog 53 t78_1 0 w fun t79_1 w =>
 xLoad Try.prog 26 t79_1 w fun t80_1 w =>
 xIndexAddr Try.prog 26 t80_1 t9 w fun t82_1 w =>
 xStore Try.prog 3 t82_1 (.int .i64 (-7)) w fun _ w =>
 xBin Try.prog .add 3 false t9 true (.int .i64 1) w fun t74_1 w =>
 nxt4 [t74_1] w)
 (xBin Try.prog .add 3 false t7 true (.int .i64 1) w fun t34_1 w =>
 nxt0 [t34_1] w)
def loamlaw17_GraphTwo_l2 (K : K1) (nxt0 : List Value → World → Prop) (nxt2 : List Value → World → Prop) (t5 t7 t8 : Value) (w : World) : Prop :=
 xFieldAddr Try.prog 25 t5 0 w fun t36_1 w =>
 xLoad Try.prog 22 t36_1 w fun t37_1 w =>
 xIndexAddr Try.prog 22 t37_1 t7 w fun t39_1 w =>
 xFieldAddr Try.prog 53 t39_1 1 w fun t40_1 w =>
 xLoad Try.prog 51 t40_1 w fun t41_1 w =>
 xBuiltin Try.prog .len #[51] 3 [false] [t41_1] w fun t42_1 w =>
 xBin Try.prog .lss 3 false t8 false t42_1 w fun t43_1 w =>
 xIf t43_1
 (xSq w.drew fun w =>
 xPur w (fun w K => xFieldAddr Try.prog 25 t5 0 w K) fun t46_1 =>
 xRd w (fun K => xLoad Try.prog 22 t46_1 w K) fun t47_1 =>
 xPur w (fun w K => K t7 w) fun t48_1 =>
 xPur w (fun w K => xIndexAddr Try.prog 22 t47_1 t48_1 w K) fun t49_1 =>
 xPur w (fun w K => xFieldAddr Try.prog 53 t49_1 1 w K) fun t50_1 =>
 xRd w (fun K => xLoad Try.prog 51 t50_1 w K) fun t51_1 =>
 xPur w (fun w K => K t8 w) fun t52_1 =>
 xPur w (fun w K => xFieldAddr Try.prog 25 t5 0 w K) fun t53_1 =>
 xRd w (fun K => xLoad Try.prog 22 t53_1 w K) fun t54_1 =>
 xPur w (fun w K => K t7 w) fun t55_1 =>
 xPur w (fun w K => xIndexAddr Try.prog 22 t54_1 t55_1 w K) fun t56_1 =>
 xPur w (fun w K => xFieldAddr Try.prog 53 t56_1 1 w K) fun t57_1 =>
 xRd w (fun K => xLoad Try.prog 51 t57_1 w K) fun t58_1 =>
 xPur w (fun w K => K t8 w) fun t59_1 =>
 xPur w (fun w K => xIndexAddr Try.prog 51 t58_1 t59_1 w K) fun t60_1 =>
 xRd w (fun K => xLoad Try.prog 5 t60_1 w K) fun t61_1 =>
 xPur w (fun w K => xBin Try.prog .add 5 false t61_1 true (c8 1) w K) fun t62_1 =>
 xPur w (fun w K => xIndexAddr Try.prog 51 t51_1 t52_1 w K) fun t63_1 =>
 xStore Try.prog 5 t63_1 t62_1 w fun _x18 w =>
 xBin Try.prog .add 3 false t8 true (.int .i64 1) w fun t45_1 w =>
 nxt2 [t45_1] w)
 (xLoop [(.int .i64 0)] w [9] fun u w nxt4 =>
 loamlaw17_GraphTwo_l3 K nxt0 nxt4 t5 t7 (u 9) w)
def loamlaw17_GraphTwo_l1 (K : K1) (nxt0 : List Value → World → Prop) (t2 t3 t5 t6 t7 : Value) (w : World) : Prop :=
 xFieldAddr Try.prog 25 t5 0 w fun t29_1 w =>
 xLoad Try.prog 22 t29_1 w fun t30_1 w =>
 xBuiltin Try.prog .len #[22] 3 [false] [t30_1] w fun t31_1 w =>
 xBin Try.prog .lss 3 false t7 false t31_1 w fun t32_1 w =>
 xIf t32_1
 (xLoop [(.int .i64 0)] w [8] fun u w nxt2 =>
 loamlaw17_GraphTwo_l2 K nxt0 nxt2 t5 t7 (u 8) w)
 (xLoad Try.prog 25 t2 w fun t83 w =>
 xCall Try.prog (fnv 23) [t83] w fun t84 w =>
 xAlloc Try.prog 25 w fun t10 w =>
 xStore Try.prog 25 t10 t84 w fun _ w =>
 xSq w.drew fun w =>
 xPur w (fun w K => K t6 w) fun t85 =>
 xPur w (fun w K => K t85 w) fun t86 =>
 xRd w (fun K => xGuard t86 true (fun w K => xLoad Try.prog 25 t2 w K) w K) fun t87 =>
 xRd w (fun K => xGuard t86 true (fun w K => xLoad Try.prog 25 t3 w K) w K) fun t88 =>
 xRd w (fun K => xGuard t86 true (fun w K => xLoad Try.prog 25 t2 w K) w K) fun t90 =>
 xRd w (fun K => xGuard t86 true (fun w K => xLoad Try.prog 25 t3 w K) w K) fun t92 =>
 xGuard t86 true (fun w K => xCall Try.prog (fnv 24) [t87, t88] w K) w fun t89 w =>
 xRe w (fun K => xGuard t86 true (fun w K => xLoad Try.prog 25 t2 w K) w K) t90 (
 xRe w (fun K => xGuard t86 true (fun w K => xLoad Try.prog 25 t3 w K) w K) t92 (
 xGuard t86 true (fun w K => xCall Try.prog (fnv 10) [t90] w K) w fun t91 w =>
 xRe w (fun K => xGuard t86 true (fun w K => xLoad Try.prog 25 t3 w K) w K) t92 (
 xGuard t86 true (fun w K => xCall Try.prog (fnv 10) [t92] w K) w fun t93 w =>
 xGuard t86 true (fun w K => xCall Try.prog (fnv 17) [t91, t93] w K) w fun t94 w =>
 xPur w (fun w K => xGuard t86 true (fun w K => xBin Try.prog .eql 4 false t89 false t94 w K) w K) fun t95 =>
 xPur w (fun w K => xPick t86 t95 (.bool false) w K) fun t96 =>
 xPur w (fun w K => K t96 w) fun t97 =>
 xRd w (fun K => xGuard t97 true (fun w K => xLoad Try.prog 25 t3 w K) w K) fun t98 =>
 xRd w (fun K => xGuard t97 true (fun w K => xLoad Try.prog 25 t2 w K) w K) fun t99 =>
 xRd w (fun K => xGuard t97 true (fun w K => xLoad Try.prog 25 t2 w K) w K) fun t101 =>
 xRd w (fun K => xGuard t97 true (fun w K => xLoad Try.prog 25 t3 w K) w K) fun t102 =>
 xGuard t97 true (fun w K => xCall Try.prog (fnv 24) [t98, t99] w K) w fun t100 w =>
 xRe w (fun K => xGuard t97 true (fun w K => xLoad Try.prog 25 t2 w K) w K) t101 (
 xRe w (fun K => xGuard t97 true (fun w K => xLoad Try.prog 25 t3 w K) w K) t102 (
 xGuard t97 true (fun w K => xCall Try.prog (fnv 24) [t101, t102] w K) w fun t103 w =>
 xPur w (fun w K => xGuard t97 true (fun w K => xBin Try.prog .eql 4 false t100 false t103 w K) w K) fun t104 =>
 xPur w (fun w K => xPick t97 t104 (.bool false) w K) fun t105 =>
 xPur w (fun w K => K t105 w) fun t106 =>
 xRd w (fun K => xGuard t106 true (fun w K => xLoad Try.prog 25 t10 w K) w K) fun t107 =>
 xRd w (fun K => xGuard t106 true (fun w K => xLoad Try.prog 25 t2 w K) w K) fun t108 =>
 xGuard t106 true (fun w K => xCall Try.prog (fnv 24) [t107, t108] w K) w fun t109 w =>
 xPur w (fun w K => xPick t106 t109 (.bool false) w K) fun t110 =>
 xPur w (fun w K => K t110 w) fun t111 =>
 xRd w (fun K => xGuard t111 true (fun w K => xLoad Try.prog 25 t2 w K) w K) fun t112 =>
 xRd w (fun K => xGuard t111 true (fun w K => xLoad Try.prog 25 t2 w K) w K) fun t113 =>
 xGuard t111 true (fun w K => xCall Try.prog (fnv 24) [t112, t113] w K) w fun t114 w =>
 xPur w (fun w K => xPick t111 t114 (.bool false) w K) fun t115 =>
 xPur w (fun w K => K t115 w) fun t4_1 =>
 K t4_1 w))))))
def loamlaw17_GraphTwo (K : K1) (t0 t1 : Value) (w : World) : Prop :=
 xBox Try.prog 25 t0 w fun t2 w =>
 xBox Try.prog 25 t1 w fun t3 w =>
 xCall Try.prog (fnv 8) [] w fun t11 w =>
 xUn Try.prog .not t11 w fun t12 w =>
 xIf t12
 (K (.bool false) w)
 (xLoad Try.prog 25 t2 w fun t13 w =>
 xCall Try.prog (fnv 9) [t13] w fun t14 w =>
 xUn Try.prog .not t14 w fun t15 w =>
 xGuard t15 false (fun w K => xLoad Try.prog 25 t3 w K) w fun t17 w =>
 xGuard t15 false (fun w K => xCall Try.prog (fnv 9) [t17] w K) w fun t18 w =>
 xGuard t15 false (fun w K => xUn Try.prog .not t18 w K) w fun t19 w =>
 xPick t15 (.bool true) t19 w fun t20 w =>
 xIf t20
 (K (.bool true) w)
 (xLoad Try.prog 25 t2 w fun t21 w =>
 xCall Try.prog (fnv 23) [t21] w fun t22 w =>
 xAlloc Try.prog 25 w fun t5 w =>
 xStore Try.prog 25 t5 t22 w fun _ w =>
 xSq w.drew fun w =>
 xRd w (fun K => xLoad Try.prog 25 t2 w K) fun t23 =>
 xRd w (fun K => xLoad Try.prog 25 t5 w K) fun t25 =>
 xCall Try.prog (fnv 10) [t23] w fun t24 w =>
 xRe w (fun K => xLoad Try.prog 25 t5 w K) t25 (
 xCall Try.prog (fnv 10) [t25] w fun t26 w =>
 xCall Try.prog (fnv 17) [t24, t26] w fun t27 w =>
 xPur w (fun w K => K t27 w) fun t6 =>
 xLoop [(.int .i64 0)] w [7] fun u w nxt0 =>
 loamlaw17_GraphTwo_l1 K nxt0 t2 t3 t5 t6 (u 7) w)))
abbrev n_loamlaw17_GraphTwo : Nat := 4
def loamlaw17_GraphTwo_ann : Ann := { loop := fun i => bif Nat.beq i 4 then [9] else bif Nat.beq i 2 then [8] else bif Nat.beq i 0 then [7] else [], wr := fun i => bif Nat.beq i 4 then [9, 64, 65, 66, 67, 68, 69, 70, 71, 72, 73, 74, 75, 76, 77, 78, 79, 80, 81, 82] else bif Nat.beq i 2 then [8, 35, 36, 37, 38, 39, 40, 41, 42, 43, 44, 45, 46, 47, 48, 49, 50, 51, 52, 53, 54, 55, 56, 57, 58, 59, 60, 61, 62, 63] else bif Nat.beq i 0 then [7, 8, 9, 28, 29, 30, 31, 32, 33, 34, 35, 36, 37, 38, 39, 40, 41, 42, 43, 44, 45, 46, 47, 48, 49, 50, 51, 52, 53, 54, 55, 56, 57, 58, 59, 60, 61, 62, 63, 64, 65, 66, 67, 68, 69, 70, 71, 72, 73, 74, 75, 76, 77, 78, 79, 80, 81, 82] else [], told := fun i => bif Nat.beq i 6 then [(0, false, ⟨0, 8388612, some 23⟩), (2, false, ⟨0, 33554464, some 25⟩), (1, false, ⟨1, 25165824, some 24⟩), (3, false, ⟨6, 100663296, some 26⟩), (4, false, ⟨10, 218103808, some 27⟩), (5, false, ⟨31, 134217792, some 6⟩)] else bif Nat.beq i 13 then [(0, false, ⟨0, 70368744177696, some 46⟩), (1, false, ⟨1, 211106232532992, some 47⟩), (2, false, ⟨0, 281474976710784, some 48⟩), (3, false, ⟨6, 985162418487296, some 49⟩), (4, false, ⟨8, 1688849860263936, some 50⟩), (5, false, ⟨16, 3377699720527872, some 51⟩), (6, false, ⟨0, 4503599627370752, some 52⟩), (7, false, ⟨0, 9007199254741024, some 53⟩), (8, false, ⟨128, 27021597764222976, some 54⟩), (9, false, ⟨0, 36028797018964096, some 55⟩), (10, false, ⟨768, 126100789566373888, some 56⟩), (11, false, ⟨1024, 216172782113783808, some 57⟩), (12, false, ⟨2048, 432345564227567616, some 58⟩), (13, false, ⟨0, 576460752303423744, some 59⟩), (14, false, ⟨12288, 2017612633061982208, some 60⟩), (15, false, ⟨16384, 3458764513820540928, some 61⟩), (16, false, ⟨32768, 6917529027641081856, some 62⟩), (17, false, ⟨131071, 9230127436295831552, some 63⟩), (18, false, ⟨262143, 13835058055282163712, none⟩)] else bif Nat.beq i 19 then [(0, false, ⟨0, 38685626227668133590597696, some 85⟩), (1, false, ⟨1, 116056878683004400771792896, some 86⟩), (2, false, ⟨2, 232113757366008801543585796, some 87⟩), (3, false, ⟨2, 386856262276681335905976328, some 88⟩), (5, false, ⟨2, 1315311291740716542080319492, some 90⟩), (7, false, ⟨2, 5029131409596857366777692168, some 92⟩), (4, false, ⟨14, 1160568786830044007717928960, some 89⟩), (6, false, ⟨50, 3791191370311477091878567936, some 91⟩), (8, false, ⟨194, 14932651723879899565970685952, some 93⟩), (9, false, ⟨322, 32263812273875223414558425088, some 94⟩), (10, false, ⟨530, 60117463157796279599788720128, some 95⟩), (11, false, ⟨1026, 118919615023851842657497120768, some 96⟩), (12, false, ⟨2560, 237684487542793012780631851008, some 97⟩), (13, false, ⟨4096, 475368975085586025561263702024, some 98⟩), (14, false, ⟨4096, 792281625142643375935439503364, some 99⟩), (16, false, ⟨4096, 2693757525484987478180494311428, some 101⟩), (17, false, ⟨4096, 5229058725941446281173900722184, some 102⟩), (15, false, ⟨28672, 2376844875427930127806318510080, some 100⟩), (18, false, ⟨233472, 17905564728223740296140932775936, some 103⟩), (19, false, ⟨299008, 31849721330734263712604668035072, some 104⟩), (20, false, ⟨528384, 61005685135983539947028841758720, some 105⟩), (21, false, ⟨1310720, 121694457621910022543683507716096, some 106⟩), (22, false, ⟨2097152, 243388915243820045087367015433216, some 107⟩), (23, false, ⟨2097152, 405648192073033408478945025720324, some 108⟩), (24, false, ⟨14680064, 1216944576219100225436835077160960, some 109⟩), (25, false, ⟨18874368, 2028240960365167042394725128601600, some 110⟩), (26, false, ⟨50331648, 3894222643901120721397872246915072, some 111⟩), (27, false, ⟨67108864, 7788445287802241442795744493830148, some 112⟩), (28, false, ⟨67108864, 12980742146337069071326240823050244, some 113⟩), (29, false, ⟨469762048, 38942226439011207213978722469150720, some 114⟩), (30, false, ⟨603979776, 64903710731685345356631204115251200, some 115⟩), (31, false, ⟨2147483647, 41538374868278621028243970633760784, some 4⟩)] else [], sq := fun i => bif Nat.beq i 6 then some (.rd false 0 (.rd false 2 (.ef 1 [2] (.ef 3 [] (.ef 4 [] (.rd true 5 .done)))))) else bif Nat.beq i 13 then some (.rd true 0 (.rd false 1 (.rd true 2 (.rd true 3 (.rd true 4 (.rd false 5 (.rd true 6 (.rd true 7 (.rd false 8 (.rd true 9 (.rd true 10 (.rd true 11 (.rd false 12 (.rd true 13 (.rd true 14 (.rd false 15 (.rd true 16 (.rd true 17 (.ef 18 [] .done))))))))))))))))))) else bif Nat.beq i 19 then some (.rd true 0 (.rd true 1 (.rd false 2 (.rd false 3 (.rd false 5 (.rd false 7 (.ef 4 [5, 7] (.ef 6 [7] (.ef 8 [] (.ef 9 [] (.rd true 10 (.rd true 11 (.rd true 12 (.rd false 13 (.rd false 14 (.rd false 16 (.rd false 17 (.ef 15 [16, 17] (.ef 18 [] (.rd true 19 (.rd true 20 (.rd true 21 (.rd false 22 (.rd false 23 (.ef 24 [] (.rd true 25 (.rd true 26 (.rd false 27 (.rd false 28 (.ef 29 [] (.rd true 30 (.rd true 31 .done)))))))))))))))))))))))))))))))) else none }
theorem loamlaw17_GraphTwo_eq (t0 t1 : Value) (w : World) (K : K1) : reads Try.prog loamlaw17_GraphTwo_ann Try.f4 #[t0, t1] w K = loamlaw17_GraphTwo K t0 t1 w := by kernel_rfl
theorem loamlaw17_GraphTwo_of {t0 t1 : Value} {w : World} {K : K1} (h : loamlaw17_GraphTwo K t0 t1 w) : Yld Try.prog n_loamlaw17_GraphTwo #[t0, t1] w K :=
  yld_of mixed loamlaw17_GraphTwo_ann Try.func4 (by kernel_rfl) (loamlaw17_GraphTwo_eq t0 t1 w K) h

/-! loam/loamlaw17.GraphTrims: function 5 -/
/-! loam/loamlaw17.GraphChains: function 6 -/
/-! loam/loamlaw17.GraphLimits: function 7 -/
/-! loam/loamlaw17.known: function 8 -/
def loamlaw17_known (K : K1) (w : World) : Prop :=
 xBuildSlice Try.prog 26 1 [(0, (.int .i64 2))] w fun t5 w =>
 xBuild Try.prog 53 [(0, t5)] w fun t6 w =>
 xBuildSlice Try.prog 51 1 [(0, (c8 120))] w fun t7 w =>
 xConv Try.prog 51 51 t7 w fun t8 w =>
 xBuild Try.prog 53 [(1, t8)] w fun t9 w =>
 xBuild Try.prog 53 [] w fun t10 w =>
 xBuildSlice Try.prog 22 3 [(0, t6), (1, t9), (2, t10)] w fun t11 w =>
 xBuild Try.prog 58 [(0, (.string { data := #[97] })), (1, (.int .i64 1))] w fun t12 w =>
 xBuildSlice Try.prog 23 1 [(0, t12)] w fun t13 w =>
 xBuild Try.prog 25 [(0, t11), (1, t13)] w fun t14 w =>
 xAlloc Try.prog 25 w fun t1 w =>
 xStore Try.prog 25 t1 t14 w fun _ w =>
 xLoad Try.prog 25 t1 w fun t16 w =>
 xCall Try.prog (fnv 15) [t16, (.slice none 0 0)] w fun t17 w =>
 xExtract Try.prog t17 0 w fun t18 w =>
 xExtract Try.prog t17 1 w fun t19 w =>
 xAlloc Try.prog 25 w fun t2 w =>
 xStore Try.prog 25 t2 t18 w fun _ w =>
 xLoad Try.prog 25 t1 w fun t20 w =>
 xBuildSlice Try.prog 26 1 [(0, (.int .i64 2))] w fun t21 w =>
 xCall Try.prog (fnv 13) [t20, t21] w fun t22 w =>
 xSq w.drew fun w =>
 xRd w (fun K => xLoad Try.prog 25 t1 w K) fun t23 =>
 xCall Try.prog (fnv 11) [t23] w fun t24 w =>
 xPur w (fun w K => xBin Try.prog .eql 3 false t24 true (.int .i64 0) w K) fun t25 =>
 xPur w (fun w K => K t25 w) fun t26 =>
 xRd w (fun K => xGuard t26 true (fun w K => xLoad Try.prog 25 t1 w K) w K) fun t27 =>
 xGuard t26 true (fun w K => xCall Try.prog (fnv 19) [t27] w K) w fun t28 w =>
 xPur w (fun w K => xGuard t26 true (fun w K => xBin Try.prog .eql 3 false t28 true (.int .i64 5) w K) w K) fun t29 =>
 xPur w (fun w K => xPick t26 t29 (.bool false) w K) fun t30 =>
 xPur w (fun w K => K t30 w) fun t31 =>
 xPur w (fun w K => xGuard t31 true (fun w K => xFieldAddr Try.prog 25 t2 0 w K) w K) fun t32 =>
 xRd w (fun K => xGuard t31 true (fun w K => xLoad Try.prog 22 t32 w K) w K) fun t33 =>
 xPur w (fun w K => xGuard t31 true (fun w K => xBuiltin Try.prog .len #[22] 3 [false] [t33] w K) w K) fun t34 =>
 xPur w (fun w K => xGuard t31 true (fun w K => xBin Try.prog .eql 3 false t34 true (.int .i64 2) w K) w K) fun t35 =>
 xPur w (fun w K => xPick t31 t35 (.bool false) w K) fun t36 =>
 xPur w (fun w K => K t36 w) fun t37 =>
 xPur w (fun w K => xGuard t37 true (fun w K => K t19 w) w K) fun t38 =>
 xPur w (fun w K => xGuard t37 true (fun w K => xBuiltin Try.prog .len #[26] 3 [false] [t38] w K) w K) fun t39 =>
 xPur w (fun w K => xGuard t37 true (fun w K => xBin Try.prog .eql 3 false t39 true (.int .i64 3) w K) w K) fun t40 =>
 xPur w (fun w K => xPick t37 t40 (.bool false) w K) fun t41 =>
 xPur w (fun w K => K t41 w) fun t42 =>
 xPur w (fun w K => xGuard t42 true (fun w K => K t19 w) w K) fun t43 =>
 xPur w (fun w K => xGuard t42 true (fun w K => xIndexAddr Try.prog 26 t43 (.int .i64 2) w K) w K) fun t44 =>
 xRd w (fun K => xGuard t42 true (fun w K => xLoad Try.prog 3 t44 w K) w K) fun t45 =>
 xPur w (fun w K => xGuard t42 true (fun w K => xBin Try.prog .eql 3 false t45 true (.int .i64 0) w K) w K) fun t46 =>
 xPur w (fun w K => xPick t42 t46 (.bool false) w K) fun t47 =>
 xPur w (fun w K => K t47 w) fun t48 =>
 xPur w (fun w K => xGuard t48 true (fun w K => K t19 w) w K) fun t49 =>
 xPur w (fun w K => xGuard t48 true (fun w K => xIndexAddr Try.prog 26 t49 (.int .i64 1) w K) w K) fun t50 =>
 xRd w (fun K => xGuard t48 true (fun w K => xLoad Try.prog 3 t50 w K) w K) fun t51 =>
 xPur w (fun w K => xGuard t48 true (fun w K => xBin Try.prog .eql 3 false t51 true (.int .i64 2) w K) w K) fun t52 =>
 xPur w (fun w K => xPick t48 t52 (.bool false) w K) fun t53 =>
 xPur w (fun w K => K t53 w) fun t54 =>
 xPur w (fun w K => xGuard t54 true (fun w K => K t22 w) w K) fun t55 =>
 xPur w (fun w K => xGuard t54 true (fun w K => xBuiltin Try.prog .len #[37] 3 [false] [t55] w K) w K) fun t56 =>
 xPur w (fun w K => xGuard t54 true (fun w K => xBin Try.prog .eql 3 false t56 true (.int .i64 3) w K) w K) fun t57 =>
 xPur w (fun w K => xPick t54 t57 (.bool false) w K) fun t58 =>
 xPur w (fun w K => K t58 w) fun t59 =>
 xPur w (fun w K => xGuard t59 true (fun w K => K t22 w) w K) fun t60 =>
 xPur w (fun w K => xGuard t59 true (fun w K => xIndexAddr Try.prog 37 t60 (.int .i64 1) w K) w K) fun t61 =>
 xRd w (fun K => xGuard t59 true (fun w K => xLoad Try.prog 4 t61 w K) w K) fun t62 =>
 xPur w (fun w K => xPick t59 t62 (.bool false) w K) fun t63 =>
 xPur w (fun w K => K t63 w) fun t64 =>
 xPur w (fun w K => xGuard t64 true (fun w K => K t22 w) w K) fun t65 =>
 xPur w (fun w K => xGuard t64 true (fun w K => xIndexAddr Try.prog 37 t65 (.int .i64 0) w K) w K) fun t66 =>
 xRd w (fun K => xGuard t64 true (fun w K => xLoad Try.prog 4 t66 w K) w K) fun t67 =>
 xPur w (fun w K => xGuard t64 true (fun w K => xUn Try.prog .not t67 w K) w K) fun t68 =>
 xPur w (fun w K => xPick t64 t68 (.bool false) w K) fun t69 =>
 xPur w (fun w K => K t69 w) fun t70 =>
 xRd w (fun K => xGuard t70 true (fun w K => xLoad Try.prog 25 t1 w K) w K) fun t71 =>
 xGuard t70 true (fun w K => xCall Try.prog (fnv 21) [t71] w K) w fun t72 w =>
 xPur w (fun w K => xGuard t70 true (fun w K => xBuiltin Try.prog .len #[26] 3 [false] [t72] w K) w K) fun t73 =>
 xPur w (fun w K => xGuard t70 true (fun w K => xBin Try.prog .eql 3 false t73 true (.int .i64 1) w K) w K) fun t74 =>
 xPur w (fun w K => xPick t70 t74 (.bool false) w K) fun t75 =>
 xPur w (fun w K => K t75 w) fun t76 =>
 xRd w (fun K => xGuard t76 true (fun w K => xLoad Try.prog 25 t1 w K) w K) fun t77 =>
 xRd w (fun K => xGuard t76 true (fun w K => xLoad Try.prog 25 t1 w K) w K) fun t79 =>
 xGuard t76 true (fun w K => xCall Try.prog (fnv 23) [t77] w K) w fun t78 w =>
 xRe w (fun K => xGuard t76 true (fun w K => xLoad Try.prog 25 t1 w K) w K) t79 (
 xGuard t76 true (fun w K => xCall Try.prog (fnv 24) [t78, t79] w K) w fun t80 w =>
 xPur w (fun w K => xPick t76 t80 (.bool false) w K) fun t81 =>
 xPur w (fun w K => K t81 w) fun t82 =>
 xRd w (fun K => xGuard t82 true (fun w K => xLoad Try.prog 25 t2 w K) w K) fun t83 =>
 xRd w (fun K => xGuard t82 true (fun w K => xLoad Try.prog 25 t1 w K) w K) fun t84 =>
 xGuard t82 true (fun w K => xCall Try.prog (fnv 24) [t83, t84] w K) w fun t85 w =>
 xPur w (fun w K => xGuard t82 true (fun w K => xUn Try.prog .not t85 w K) w K) fun t86 =>
 xPur w (fun w K => xPick t82 t86 (.bool false) w K) fun t87 =>
 xPur w (fun w K => K t87 w) fun t0 =>
 K t0 w)
abbrev n_loamlaw17_known : Nat := 8
def loamlaw17_known_ann : Ann := { loop := fun i => [], wr := fun i => [], told := fun i => bif Nat.beq i 4 then [(0, false, ⟨0, 8388610, some 23⟩), (1, false, ⟨1, 25165824, some 24⟩), (2, false, ⟨2, 50331648, some 25⟩), (3, false, ⟨6, 100663296, some 26⟩), (4, false, ⟨8, 201326594, some 27⟩), (5, false, ⟨24, 469762048, some 28⟩), (6, false, ⟨40, 872415232, some 29⟩), (7, false, ⟨72, 1677721600, some 30⟩), (8, false, ⟨160, 3221225472, some 31⟩), (9, false, ⟨256, 6442450948, some 32⟩), (10, false, ⟨768, 15032385536, some 33⟩), (11, false, ⟨1280, 27917287424, some 34⟩), (12, false, ⟨2304, 53687091200, some 35⟩), (13, false, ⟨4352, 105226698752, some 36⟩), (14, false, ⟨8448, 206158430208, some 37⟩), (15, false, ⟨16384, 412316860424, some 38⟩), (16, false, ⟨49152, 962072674304, some 39⟩), (17, false, ⟨81920, 1786706395136, some 40⟩), (18, false, ⟨147456, 3435973836800, some 41⟩), (19, false, ⟨278528, 6597069766656, some 42⟩), (20, false, ⟨524288, 13194139533320, some 43⟩), (21, false, ⟨1572864, 30786325577728, some 44⟩), (22, false, ⟨2621440, 57174604644352, some 45⟩), (23, false, ⟨4718592, 109951162777600, some 46⟩), (24, false, ⟨8912896, 215504279044096, some 47⟩), (25, false, ⟨17301504, 422212465065984, some 48⟩), (26, false, ⟨33554432, 844424930131976, some 49⟩), (27, false, ⟨100663296, 1970324836974592, some 50⟩), (28, false, ⟨167772160, 3659174697238528, some 51⟩), (29, false, ⟨301989888, 7036874417766400, some 52⟩), (30, false, ⟨570425344, 13792273858822144, some 53⟩), (31, false, ⟨1107296256, 27021597764222976, some 54⟩), (32, false, ⟨2147483648, 54043195528445968, some 55⟩), (33, false, ⟨6442450944, 126100789566373888, some 56⟩), (34, false, ⟨10737418240, 234187180623265792, some 57⟩), (35, false, ⟨19327352832, 450359962737049600, some 58⟩), (36, false, ⟨36507222016, 864691128455135232, some 59⟩), (37, false, ⟨68719476736, 1729382256910270480, some 60⟩), (38, false, ⟨206158430208, 4035225266123964416, some 61⟩), (39, false, ⟨343597383680, 7493989779944505344, some 62⟩), (40, false, ⟨618475290624, 14411518807585587200, some 63⟩), (41, false, ⟨1168231104512, 27670116110564327424, some 64⟩), (42, false, ⟨2199023255552, 55340232221128654864, some 65⟩), (43, false, ⟨6597069766656, 129127208515966861312, some 66⟩), (44, false, ⟨10995116277760, 239807672958224171008, some 67⟩), (45, false, ⟨19791209299968, 461168601842738790400, some 68⟩), (46, false, ⟨37383395344384, 903890459611768029184, some 69⟩), (47, false, ⟨72567767433216, 1770887431076116955136, some 70⟩), (48, false, ⟨140737488355328, 3541774862152233910274, some 71⟩), (49, false, ⟨422212465065984, 8264141345021879123968, some 72⟩), (50, false, ⟨703687441776640, 15347691069326346944512, some 73⟩), (51, false, ⟨1266637395197952, 29514790517935282585600, some 74⟩), (52, false, ⟨2392537302040576, 57848989415153153867776, some 75⟩), (53, false, ⟨5066549580791808, 113336795588871485128704, some 76⟩), (54, false, ⟨9007199254740992, 226673591177742970257410, some 77⟩), (56, false, ⟨9007199254740992, 680020773533228910772226, some 79⟩), (55, false, ⟨27021597764222976, 528905046081400263933952, some 78⟩), (57, false, ⟨117093590311632896, 2191178048051515379154944, some 80⟩), (58, false, ⟨153122387330596864, 3702335322569801847537664, some 81⟩), (59, false, ⟨432345564227567616, 7253554917687775048237056, some 82⟩), (60, false, ⟨576460752303423488, 14507109835375550096474116, some 83⟩), (61, false, ⟨576460752303423488, 24178516392292583494123522, some 84⟩), (62, false, ⟨4035225266123964416, 72535549176877750482370560, some 85⟩), (63, false, ⟨5188146770730811392, 120892581961462917470617600, some 86⟩), (64, false, ⟨9799832789158199296, 236949460644467318242410496, some 87⟩), (65, false, ⟨36893488147419103231, 154742504910672534362390529, some 0⟩)] else [], sq := fun i => bif Nat.beq i 4 then some (.rd false 0 (.ef 1 [] (.rd true 2 (.rd true 3 (.rd false 4 (.ef 5 [] (.rd true 6 (.rd true 7 (.rd true 8 (.rd true 9 (.rd false 10 (.rd true 11 (.rd true 12 (.rd true 13 (.rd true 14 (.rd true 15 (.rd true 16 (.rd true 17 (.rd true 18 (.rd true 19 (.rd true 20 (.rd true 21 (.rd false 22 (.rd true 23 (.rd true 24 (.rd true 25 (.rd true 26 (.rd true 27 (.rd false 28 (.rd true 29 (.rd true 30 (.rd true 31 (.rd true 32 (.rd true 33 (.rd true 34 (.rd true 35 (.rd true 36 (.rd true 37 (.rd true 38 (.rd false 39 (.rd true 40 (.rd true 41 (.rd true 42 (.rd true 43 (.rd false 44 (.rd true 45 (.rd true 46 (.rd true 47 (.rd false 48 (.ef 49 [] (.rd true 50 (.rd true 51 (.rd true 52 (.rd true 53 (.rd false 54 (.rd false 56 (.ef 55 [56] (.ef 57 [] (.rd true 58 (.rd true 59 (.rd false 60 (.rd false 61 (.ef 62 [] (.rd true 63 (.rd true 64 (.rd true 65 .done)))))))))))))))))))))))))))))))))))))))))))))))))))))))))))))))))) else none }
theorem loamlaw17_known_eq (w : World) (K : K1) : reads Try.prog loamlaw17_known_ann Try.f8 #[] w K = loamlaw17_known K  w := by kernel_rfl
theorem loamlaw17_known_of {w : World} {K : K1} (h : loamlaw17_known K w) : Yld Try.prog n_loamlaw17_known #[] w K :=
  yld_of mixed loamlaw17_known_ann Try.func8 (by kernel_rfl) (loamlaw17_known_eq  w K) h

/-! loam/loamlaw17.Few: function 9 -/
def loamlaw17_Few_l2 (K : K1) (nxt2 : List Value → World → Prop) (t1 t4 : Value) (w : World) : Prop :=
 xFieldAddr Try.prog 25 t1 1 w fun t41_1 w =>
 xLoad Try.prog 23 t41_1 w fun t42_1 w =>
 xBuiltin Try.prog .len #[23] 3 [false] [t42_1] w fun t43_1 w =>
 xBin Try.prog .lss 3 false t4 false t43_1 w fun t44_1 w =>
 xIf t44_1
 (xFieldAddr Try.prog 25 t1 1 w fun t47_1 w =>
 xLoad Try.prog 23 t47_1 w fun t48_1 w =>
 xIndexAddr Try.prog 23 t48_1 t4 w fun t50_1 w =>
 xFieldAddr Try.prog 58 t50_1 0 w fun t51_1 w =>
 xLoad Try.prog 9 t51_1 w fun t52_1 w =>
 xBuiltin Try.prog .len #[9] 3 [false] [t52_1] w fun t53_1 w =>
 xBin Try.prog .gtr 3 false t53_1 true (.int .i64 40) w fun t54_1 w =>
 xIf t54_1
 (K (.bool false) w)
 (xBin Try.prog .add 3 false t4 true (.int .i64 1) w fun t46_1 w =>
 nxt2 [t46_1] w))
 (K (.bool true) w)
def loamlaw17_Few_l1 (K : K1) (nxt0 : List Value → World → Prop) (t1 t3 : Value) (w : World) : Prop :=
 xFieldAddr Try.prog 25 t1 0 w fun t16_1 w =>
 xLoad Try.prog 22 t16_1 w fun t17_1 w =>
 xBuiltin Try.prog .len #[22] 3 [false] [t17_1] w fun t18_1 w =>
 xBin Try.prog .lss 3 false t3 false t18_1 w fun t19_1 w =>
 xIf t19_1
 (xFieldAddr Try.prog 25 t1 0 w fun t22_1 w =>
 xLoad Try.prog 22 t22_1 w fun t23_1 w =>
 xIndexAddr Try.prog 22 t23_1 t3 w fun t25_1 w =>
 xFieldAddr Try.prog 53 t25_1 0 w fun t26_1 w =>
 xLoad Try.prog 26 t26_1 w fun t27_1 w =>
 xBuiltin Try.prog .len #[26] 3 [false] [t27_1] w fun t28_1 w =>
 xBin Try.prog .gtr 3 false t28_1 true (.int .i64 70) w fun t29_1 w =>
 xGuard t29_1 false (fun w K => xFieldAddr Try.prog 25 t1 0 w K) w fun t31_1 w =>
 xGuard t29_1 false (fun w K => xLoad Try.prog 22 t31_1 w K) w fun t32_1 w =>
 xGuard t29_1 false (fun w K => K t3 w) w fun t33_1 w =>
 xGuard t29_1 false (fun w K => xIndexAddr Try.prog 22 t32_1 t33_1 w K) w fun t34_1 w =>
 xGuard t29_1 false (fun w K => xFieldAddr Try.prog 53 t34_1 1 w K) w fun t35_1 w =>
 xGuard t29_1 false (fun w K => xLoad Try.prog 51 t35_1 w K) w fun t36_1 w =>
 xGuard t29_1 false (fun w K => xBuiltin Try.prog .len #[51] 3 [false] [t36_1] w K) w fun t37_1 w =>
 xGuard t29_1 false (fun w K => xBin Try.prog .gtr 3 false t37_1 true (.int .i64 1100) w K) w fun t38_1 w =>
 xPick t29_1 (.bool true) t38_1 w fun t39_1 w =>
 xIf t39_1
 (K (.bool false) w)
 (xBin Try.prog .add 3 false t3 true (.int .i64 1) w fun t21_1 w =>
 nxt0 [t21_1] w))
 (xLoop [(.int .i64 0)] w [4] fun u w nxt2 =>
 loamlaw17_Few_l2 K nxt2 t1 (u 4) w)
def loamlaw17_Few (K : K1) (t0 : Value) (w : World) : Prop :=
 xBox Try.prog 25 t0 w fun t1 w =>
 xFieldAddr Try.prog 25 t1 0 w fun t5 w =>
 xLoad Try.prog 22 t5 w fun t6 w =>
 xBuiltin Try.prog .len #[22] 3 [false] [t6] w fun t7 w =>
 xBin Try.prog .gtr 3 false t7 true (.int .i64 60) w fun t8 w =>
 xGuard t8 false (fun w K => xFieldAddr Try.prog 25 t1 1 w K) w fun t10 w =>
 xGuard t8 false (fun w K => xLoad Try.prog 23 t10 w K) w fun t11 w =>
 xGuard t8 false (fun w K => xBuiltin Try.prog .len #[23] 3 [false] [t11] w K) w fun t12 w =>
 xGuard t8 false (fun w K => xBin Try.prog .gtr 3 false t12 true (.int .i64 80) w K) w fun t13 w =>
 xPick t8 (.bool true) t13 w fun t14 w =>
 xIf t14
 (K (.bool false) w)
 (xLoop [(.int .i64 0)] w [3] fun u w nxt0 =>
 loamlaw17_Few_l1 K nxt0 t1 (u 3) w)
abbrev n_loamlaw17_Few : Nat := 9
def loamlaw17_Few_ann : Ann := { loop := fun i => bif Nat.beq i 2 then [4] else bif Nat.beq i 0 then [3] else [], wr := fun i => bif Nat.beq i 2 then [2, 4, 40, 41, 42, 43, 44, 45, 46, 47, 48, 49, 50, 51, 52, 53, 54] else bif Nat.beq i 0 then [2, 3, 15, 16, 17, 18, 19, 20, 21, 22, 23, 24, 25, 26, 27, 28, 29, 30, 31, 32, 33, 34, 35, 36, 37, 38, 39] else [], told := fun i => [] }
theorem loamlaw17_Few_eq (t0 : Value) (w : World) (K : K1) : reads Try.prog loamlaw17_Few_ann Try.f9 #[t0] w K = loamlaw17_Few K t0 w := by kernel_rfl
theorem loamlaw17_Few_of {t0 : Value} {w : World} {K : K1} (h : loamlaw17_Few K t0 w) : Yld Try.prog n_loamlaw17_Few #[t0] w K :=
  yld_of mixed loamlaw17_Few_ann Try.func9 (by kernel_rfl) (loamlaw17_Few_eq t0 w K) h

/-! loam/loamlaw17.Of: function 10 -/
def loamlaw17_Of_l2 (K : K1) (nxt2 : List Value → World → Prop) (t1 t2 t3 t5 : Value) (w : World) : Prop :=
 xFieldAddr Try.prog 25 t1 1 w fun t33_1 w =>
 xLoad Try.prog 23 t33_1 w fun t34_1 w =>
 xBuiltin Try.prog .len #[23] 3 [false] [t34_1] w fun t35_1 w =>
 xBin Try.prog .lss 3 false t5 false t35_1 w fun t36_1 w =>
 xIf t36_1
 (xSq w.drew fun w =>
 xPur w (fun w K => xFieldAddr Try.prog 32 t3 1 w K) fun t39_1 =>
 xRd w (fun K => xLoad Try.prog 30 t39_1 w K) fun t40_1 =>
 xPur w (fun w K => xFieldAddr Try.prog 25 t1 1 w K) fun t41_1 =>
 xRd w (fun K => xLoad Try.prog 23 t41_1 w K) fun t42_1 =>
 xPur w (fun w K => K t5 w) fun t43_1 =>
 xPur w (fun w K => xIndexAddr Try.prog 23 t42_1 t43_1 w K) fun t44_1 =>
 xPur w (fun w K => xFieldAddr Try.prog 58 t44_1 0 w K) fun t45_1 =>
 xRd w (fun K => xLoad Try.prog 9 t45_1 w K) fun t46_1 =>
 xPur w (fun w K => xFieldAddr Try.prog 25 t1 1 w K) fun t47_1 =>
 xRd w (fun K => xLoad Try.prog 23 t47_1 w K) fun t48_1 =>
 xPur w (fun w K => K t5 w) fun t49_1 =>
 xPur w (fun w K => xIndexAddr Try.prog 23 t48_1 t49_1 w K) fun t50_1 =>
 xPur w (fun w K => xFieldAddr Try.prog 58 t50_1 1 w K) fun t51_1 =>
 xRd w (fun K => xLoad Try.prog 3 t51_1 w K) fun t52_1 =>
 xPur w (fun w K => xBuild Try.prog 61 [(0, t46_1), (1, t52_1)] w K) fun t53_1 =>
 xBuildSlice Try.prog 30 1 [(0, t53_1)] w fun t54_1 w =>
 xRe w (fun K => xLoad Try.prog 30 t39_1 w K) t40_1 (
 xBuiltin Try.prog .append #[30, 30] 30 [false, false] [t40_1, t54_1] w fun t55_1 w =>
 xPur w (fun w K => xFieldAddr Try.prog 32 t3 1 w K) fun t56_1 =>
 xStore Try.prog 30 t56_1 t55_1 w fun _x18 w =>
 xBin Try.prog .add 3 false t5 true (.int .i64 1) w fun t38_1 w =>
 nxt2 [t38_1] w))
 (xLoad Try.prog 32 t3 w fun t57 w =>
 xStore Try.prog 32 t2 t57 w fun _ w =>
 xLoadR Try.prog 32 t2 w fun r0 =>
 K r0 w)
def loamlaw17_Of_l1 (K : K1) (nxt0 : List Value → World → Prop) (t1 t2 t3 t4 : Value) (w : World) : Prop :=
 xFieldAddr Try.prog 25 t1 0 w fun t8_1 w =>
 xLoad Try.prog 22 t8_1 w fun t9_1 w =>
 xBuiltin Try.prog .len #[22] 3 [false] [t9_1] w fun t10_1 w =>
 xBin Try.prog .lss 3 false t4 false t10_1 w fun t11_1 w =>
 xIf t11_1
 (xSq w.drew fun w =>
 xPur w (fun w K => xFieldAddr Try.prog 32 t3 0 w K) fun t14_1 =>
 xRd w (fun K => xLoad Try.prog 29 t14_1 w K) fun t15_1 =>
 xPur w (fun w K => xFieldAddr Try.prog 25 t1 0 w K) fun t16_1 =>
 xRd w (fun K => xLoad Try.prog 22 t16_1 w K) fun t17_1 =>
 xPur w (fun w K => K t4 w) fun t18_1 =>
 xPur w (fun w K => xIndexAddr Try.prog 22 t17_1 t18_1 w K) fun t19_1 =>
 xPur w (fun w K => xFieldAddr Try.prog 53 t19_1 0 w K) fun t20_1 =>
 xRd w (fun K => xLoad Try.prog 26 t20_1 w K) fun t21_1 =>
 xPur w (fun w K => xFieldAddr Try.prog 25 t1 0 w K) fun t22_1 =>
 xRd w (fun K => xLoad Try.prog 22 t22_1 w K) fun t23_1 =>
 xPur w (fun w K => K t4 w) fun t24_1 =>
 xPur w (fun w K => xIndexAddr Try.prog 22 t23_1 t24_1 w K) fun t25_1 =>
 xPur w (fun w K => xFieldAddr Try.prog 53 t25_1 1 w K) fun t26_1 =>
 xRd w (fun K => xLoad Try.prog 51 t26_1 w K) fun t27_1 =>
 xPur w (fun w K => xBuild Try.prog 60 [(0, t21_1), (1, t27_1)] w K) fun t28_1 =>
 xBuildSlice Try.prog 29 1 [(0, t28_1)] w fun t29_1 w =>
 xRe w (fun K => xLoad Try.prog 29 t14_1 w K) t15_1 (
 xBuiltin Try.prog .append #[29, 29] 29 [false, false] [t15_1, t29_1] w fun t30_1 w =>
 xPur w (fun w K => xFieldAddr Try.prog 32 t3 0 w K) fun t31_1 =>
 xStore Try.prog 29 t31_1 t30_1 w fun _x18 w =>
 xBin Try.prog .add 3 false t4 true (.int .i64 1) w fun t13_1 w =>
 nxt0 [t13_1] w))
 (xLoop [(.int .i64 0)] w [5] fun u w nxt2 =>
 loamlaw17_Of_l2 K nxt2 t1 t2 t3 (u 5) w)
def loamlaw17_Of (K : K1) (t0 : Value) (w : World) : Prop :=
 xBox Try.prog 25 t0 w fun t1 w =>
 xAlloc Try.prog 32 w fun t2 w =>
 xBuild Try.prog 32 [] w fun t6 w =>
 xAlloc Try.prog 32 w fun t3 w =>
 xStore Try.prog 32 t3 t6 w fun _ w =>
 xLoop [(.int .i64 0)] w [4] fun u w nxt0 =>
 loamlaw17_Of_l1 K nxt0 t1 t2 t3 (u 4) w
abbrev n_loamlaw17_Of : Nat := 10
def loamlaw17_Of_ann : Ann := { loop := fun i => bif Nat.beq i 2 then [5] else bif Nat.beq i 0 then [4] else [], wr := fun i => bif Nat.beq i 2 then [5, 32, 33, 34, 35, 36, 37, 38, 39, 40, 41, 42, 43, 44, 45, 46, 47, 48, 49, 50, 51, 52, 53, 54, 55, 56] else bif Nat.beq i 0 then [4, 7, 8, 9, 10, 11, 12, 13, 14, 15, 16, 17, 18, 19, 20, 21, 22, 23, 24, 25, 26, 27, 28, 29, 30, 31] else [], told := fun i => bif Nat.beq i 5 then [(0, false, ⟨0, 16392, some 14⟩), (1, false, ⟨1, 49152, some 15⟩), (2, false, ⟨0, 65538, some 16⟩), (3, false, ⟨4, 196608, some 17⟩), (4, false, ⟨0, 262160, some 18⟩), (5, false, ⟨24, 917504, some 19⟩), (6, false, ⟨32, 1572864, some 20⟩), (7, false, ⟨64, 3145728, some 21⟩), (8, false, ⟨0, 4194306, some 22⟩), (9, false, ⟨256, 12582912, some 23⟩), (10, false, ⟨0, 16777232, some 24⟩), (11, false, ⟨1536, 58720256, some 25⟩), (12, false, ⟨2048, 100663296, some 26⟩), (13, false, ⟨4096, 201326592, some 27⟩), (14, false, ⟨8320, 404750336, some 28⟩), (15, false, ⟨16384, 805306368, some 29⟩), (16, false, ⟨32770, 1610645504, some 30⟩), (17, false, ⟨131071, 2147483656, some 31⟩), (18, false, ⟨262143, 3221225472, none⟩)] else bif Nat.beq i 9 then [(0, false, ⟨0, 549755813896, some 39⟩), (1, false, ⟨1, 1649267441664, some 40⟩), (2, false, ⟨0, 2199023255554, some 41⟩), (3, false, ⟨4, 6597069766656, some 42⟩), (4, false, ⟨0, 8796093022240, some 43⟩), (5, false, ⟨24, 30786325577728, some 44⟩), (6, false, ⟨32, 52776558133248, some 45⟩), (7, false, ⟨64, 105553116266496, some 46⟩), (8, false, ⟨0, 140737488355330, some 47⟩), (9, false, ⟨256, 422212465065984, some 48⟩), (10, false, ⟨0, 562949953421344, some 49⟩), (11, false, ⟨1536, 1970324836974592, some 50⟩), (12, false, ⟨2048, 3377699720527872, some 51⟩), (13, false, ⟨4096, 6755399441055744, some 52⟩), (14, false, ⟨8320, 13581167626289152, some 53⟩), (15, false, ⟨16384, 27021597764222976, some 54⟩), (16, false, ⟨32770, 54044295040073728, some 55⟩), (17, false, ⟨131071, 72057594037927944, some 56⟩), (18, false, ⟨262143, 108086391056891904, none⟩)] else [], sq := fun i => bif Nat.beq i 5 then some (.rd true 0 (.rd false 1 (.rd true 2 (.rd false 3 (.rd true 4 (.rd true 5 (.rd true 6 (.rd false 7 (.rd true 8 (.rd false 9 (.rd true 10 (.rd true 11 (.rd true 12 (.rd false 13 (.rd true 14 (.ef 15 [1] (.ef 16 [] (.rd true 17 (.ef 18 [] .done))))))))))))))))))) else bif Nat.beq i 9 then some (.rd true 0 (.rd false 1 (.rd true 2 (.rd false 3 (.rd true 4 (.rd true 5 (.rd true 6 (.rd false 7 (.rd true 8 (.rd false 9 (.rd true 10 (.rd true 11 (.rd true 12 (.rd false 13 (.rd true 14 (.ef 15 [1] (.ef 16 [] (.rd true 17 (.ef 18 [] .done))))))))))))))))))) else none }
theorem loamlaw17_Of_eq (t0 : Value) (w : World) (K : K1) : reads Try.prog loamlaw17_Of_ann Try.f10 #[t0] w K = loamlaw17_Of K t0 w := by kernel_rfl
theorem loamlaw17_Of_of {t0 : Value} {w : World} {K : K1} (h : loamlaw17_Of K t0 w) : Yld Try.prog n_loamlaw17_Of #[t0] w K :=
  yld_of mixed loamlaw17_Of_ann Try.func10 (by kernel_rfl) (loamlaw17_Of_eq t0 w K) h

/-! loam/graph.Check: function 11 -/
def graph_Check_l2 (K : K1) (nxt2 : List Value → World → Prop) (t1 t28 t29 : Value) (w : World) : Prop :=
 xBin Try.prog .lss 3 false t29 false t28 w fun t30_1 w =>
 xIf t30_1
 (xLoad Try.prog 25 t1 w fun t32_1 w =>
 xCall Try.prog (fnv 27) [t32_1, t29] w fun t34_1 w =>
 xBin Try.prog .neq 34 false t34_1 true (.int .i64 0) w fun t36_1 w =>
 xIf t36_1
 (K t34_1 w)
 (xBin Try.prog .add 3 false t29 true (.int .i64 1) w fun t38_1 w =>
 nxt2 [t38_1] w))
 (K (.int .i64 0) w)
def graph_Check_l1 (K : K1) (nxt0 : List Value → World → Prop) (t1 t9 t10 t11 : Value) (w : World) : Prop :=
 xBin Try.prog .lss 3 false t11 false t10 w fun t12_1 w =>
 xIf t12_1
 (xIndexAddr Try.prog 22 t9 t11 w fun t13_1 w =>
 xLoad Try.prog 53 t13_1 w fun t14_1 w =>
 xAlloc Try.prog 53 w fun t4_1 w =>
 xStore Try.prog 53 t4_1 t14_1 w fun _ w =>
 xLoad Try.prog 25 t1 w fun t15_1 w =>
 xLoad Try.prog 53 t4_1 w fun t16_1 w =>
 xCall Try.prog (fnv 26) [t15_1, t16_1] w fun t17_1 w =>
 xBin Try.prog .neq 34 false t17_1 true (.int .i64 0) w fun t19_1 w =>
 xIf t19_1
 (K t17_1 w)
 (xBin Try.prog .add 3 false t11 true (.int .i64 1) w fun t21_1 w =>
 nxt0 [t21_1] w))
 (xFieldAddr Try.prog 25 t1 1 w fun t22 w =>
 xLoad Try.prog 23 t22 w fun t23 w =>
 xBuiltin Try.prog .len #[23] 3 [false] [t23] w fun t24 w =>
 xBin Try.prog .gtr 3 false t24 true (.int .i64 64) w fun t25 w =>
 xIf t25
 (K (.int .i64 3) w)
 (xFieldAddr Try.prog 25 t1 1 w fun t26 w =>
 xLoad Try.prog 23 t26 w fun t27 w =>
 xBuiltin Try.prog .len #[23] 3 [false] [t27] w fun t28 w =>
 xLoop [(.int .i64 0)] w [29] fun u w nxt2 =>
 graph_Check_l2 K nxt2 t1 t28 (u 29) w))
def graph_Check (K : K1) (t0 : Value) (w : World) : Prop :=
 xBox Try.prog 25 t0 w fun t1 w =>
 xFieldAddr Try.prog 25 t1 0 w fun t8 w =>
 xLoad Try.prog 22 t8 w fun t9 w =>
 xBuiltin Try.prog .len #[22] 3 [false] [t9] w fun t10 w =>
 xLoop [(.int .i64 0)] w [11] fun u w nxt0 =>
 graph_Check_l1 K nxt0 t1 t9 t10 (u 11) w
abbrev n_graph_Check : Nat := 11
def graph_Check_ann : Ann := { loop := fun i => bif Nat.beq i 2 then [29] else bif Nat.beq i 0 then [11] else [], wr := fun i => bif Nat.beq i 2 then [2, 6, 7, 29, 30, 31, 32, 33, 34, 35, 36, 37, 38] else bif Nat.beq i 0 then [2, 4, 5, 11, 12, 13, 14, 15, 16, 17, 18, 19, 20, 21] else [], told := fun i => [] }
theorem graph_Check_eq (t0 : Value) (w : World) (K : K1) : reads Try.prog graph_Check_ann Try.f11 #[t0] w K = graph_Check K t0 w := by kernel_rfl
theorem graph_Check_of {t0 : Value} {w : World} {K : K1} (h : graph_Check K t0 w) : Yld Try.prog n_graph_Check #[t0] w K :=
  yld_of mixed graph_Check_ann Try.func11 (by kernel_rfl) (graph_Check_eq t0 w K) h

/-! loam/loamref17.Check: function 12 -/
/-! loam/graph.Reach: function 13 -/
def graph_Reach_l1 (K : K1) (nxt0 : List Value → World → Prop) (t2 t5 t6 : Value) (w : World) : Prop :=
 xBuiltin Try.prog .len #[26] 3 [false] [t6] w fun t15_1 w =>
 xBin Try.prog .gtr 3 false t15_1 true (.int .i64 0) w fun t16_1 w =>
 xIf t16_1
 (xBuiltin Try.prog .len #[26] 3 [false] [t6] w fun t19_1 w =>
 xBin Try.prog .sub 3 false t19_1 true (.int .i64 1) w fun t20_1 w =>
 xIndexAddr Try.prog 26 t6 t20_1 w fun t21_1 w =>
 xLoad Try.prog 3 t21_1 w fun t22_1 w =>
 xBuiltin Try.prog .len #[26] 3 [false] [t6] w fun t25_1 w =>
 xBin Try.prog .sub 3 false t25_1 true (.int .i64 1) w fun t26_1 w =>
 xSlice Try.prog 26 t6 none (some t26_1) none w fun t27_1 w =>
 xBin Try.prog .lss 3 false t22_1 true (.int .i64 1) w fun t29_1 w =>
 xGuard t29_1 false (fun w K => K t22_1 w) w fun t31_1 w =>
 xGuard t29_1 false (fun w K => xFieldAddr Try.prog 25 t2 0 w K) w fun t32_1 w =>
 xGuard t29_1 false (fun w K => xLoad Try.prog 22 t32_1 w K) w fun t33_1 w =>
 xGuard t29_1 false (fun w K => xBuiltin Try.prog .len #[22] 3 [false] [t33_1] w K) w fun t34_1 w =>
 xGuard t29_1 false (fun w K => xBin Try.prog .gtr 3 false t31_1 false t34_1 w K) w fun t35_1 w =>
 xPick t29_1 (.bool true) t35_1 w fun t36_1 w =>
 xGuard t36_1 false (fun w K => K t5 w) w fun t38_1 w =>
 xGuard t36_1 false (fun w K => K t22_1 w) w fun t39_1 w =>
 xGuard t36_1 false (fun w K => xBin Try.prog .sub 3 false t39_1 true (.int .i64 1) w K) w fun t40_1 w =>
 xGuard t36_1 false (fun w K => xIndexAddr Try.prog 37 t38_1 t40_1 w K) w fun t41_1 w =>
 xGuard t36_1 false (fun w K => xLoad Try.prog 4 t41_1 w K) w fun t42_1 w =>
 xPick t36_1 (.bool true) t42_1 w fun t43_1 w =>
 xIf t43_1
 (nxt0 [t27_1] w)
 (xBin Try.prog .sub 3 false t22_1 true (.int .i64 1) w fun t46_1 w =>
 xIndexAddr Try.prog 37 t5 t46_1 w fun t47_1 w =>
 xStore Try.prog 4 t47_1 (.bool true) w fun _ w =>
 xFieldAddr Try.prog 25 t2 0 w fun t49_1 w =>
 xLoad Try.prog 22 t49_1 w fun t50_1 w =>
 xBin Try.prog .sub 3 false t22_1 true (.int .i64 1) w fun t52_1 w =>
 xIndexAddr Try.prog 22 t50_1 t52_1 w fun t53_1 w =>
 xFieldAddr Try.prog 53 t53_1 0 w fun t54_1 w =>
 xLoad Try.prog 26 t54_1 w fun t55_1 w =>
 xBuiltin Try.prog .append #[26, 26] 26 [false, false] [t27_1, t55_1] w fun t56_1 w =>
 nxt0 [t56_1] w))
 (K t5 w)
def graph_Reach (K : K1) (t0 t1 : Value) (w : World) : Prop :=
 xBox Try.prog 25 t0 w fun t2 w =>
 xFieldAddr Try.prog 25 t2 0 w fun t8 w =>
 xLoad Try.prog 22 t8 w fun t9 w =>
 xBuiltin Try.prog .len #[22] 3 [false] [t9] w fun t10 w =>
 xMakeSlice Try.prog 37 t10 t10 w fun t11 w =>
 xCall Try.prog (fnv 29) [t1] w fun t13 w =>
 xLoop [t13] w [6] fun u w nxt0 =>
 graph_Reach_l1 K nxt0 t2 t11 (u 6) w
abbrev n_graph_Reach : Nat := 13
def graph_Reach_ann : Ann := { loop := fun i => bif Nat.beq i 0 then [6] else [], wr := fun i => bif Nat.beq i 0 then [6, 7, 14, 15, 16, 17, 18, 19, 20, 21, 22, 23, 24, 25, 26, 27, 28, 29, 30, 31, 32, 33, 34, 35, 36, 37, 38, 39, 40, 41, 42, 43, 44, 45, 46, 47, 48, 49, 50, 51, 52, 53, 54, 55, 56] else [], told := fun i => [] }
theorem graph_Reach_eq (t0 t1 : Value) (w : World) (K : K1) : reads Try.prog graph_Reach_ann Try.f13 #[t0, t1] w K = graph_Reach K t0 t1 w := by kernel_rfl
theorem graph_Reach_of {t0 t1 : Value} {w : World} {K : K1} (h : graph_Reach K t0 t1 w) : Yld Try.prog n_graph_Reach #[t0, t1] w K :=
  yld_of mixed graph_Reach_ann Try.func13 (by kernel_rfl) (graph_Reach_eq t0 t1 w K) h

/-! loam/loamref17.Walk: function 14 -/
/-! loam/graph.Trim: function 15 -/
def graph_Trim_j1 (K : K1) (nxt0 : List Value → World → Prop) (t8 t29 : Value) (w : World) : Prop :=
 xBin Try.prog .add 3 false t29 true (.int .i64 1) w fun t41_1 w =>
 nxt0 [t8, t41_1] w
def graph_Trim_j2 (K : K1) (nxt2 : List Value → World → Prop) (t46 : Value) (w : World) : Prop :=
 xBin Try.prog .add 3 false t46 true (.int .i64 1) w fun t63_1 w =>
 nxt2 [t63_1] w
def graph_Trim_l3 (K : K1) (nxt4 : List Value → World → Prop) (t4 t7 t11 t12 t65 t66 t67 : Value) (w : World) : Prop :=
 xBin Try.prog .lss 3 false t67 false t66 w fun t68_1 w =>
 xIf t68_1
 (xIndexAddr Try.prog 23 t65 t67 w fun t69_1 w =>
 xLoad Try.prog 58 t69_1 w fun t70_1 w =>
 xAlloc Try.prog 58 w fun t16_1 w =>
 xStore Try.prog 58 t16_1 t70_1 w fun _ w =>
 xSq w.drew fun w =>
 xPur w (fun w K => xFieldAddr Try.prog 25 t12 1 w K) fun t71_1 =>
 xRd w (fun K => xLoad Try.prog 23 t71_1 w K) fun t72_1 =>
 xPur w (fun w K => xFieldAddr Try.prog 58 t16_1 0 w K) fun t73_1 =>
 xRd w (fun K => xLoad Try.prog 9 t73_1 w K) fun t74_1 =>
 xPur w (fun w K => K t11 w) fun t75_1 =>
 xPur w (fun w K => xFieldAddr Try.prog 58 t16_1 1 w K) fun t76_1 =>
 xRd w (fun K => xLoad Try.prog 3 t76_1 w K) fun t77_1 =>
 xCall Try.prog t75_1 [t77_1] w fun t78_1 w =>
 xRe w (fun K => xLoad Try.prog 23 t71_1 w K) t72_1 (
 xRe w (fun K => xLoad Try.prog 9 t73_1 w K) t74_1 (
 xPur w (fun w K => xBuild Try.prog 58 [(0, t74_1), (1, t78_1)] w K) fun t79_1 =>
 xBuildSlice Try.prog 23 1 [(0, t79_1)] w fun t80_1 w =>
 xRe w (fun K => xLoad Try.prog 23 t71_1 w K) t72_1 (
 xBuiltin Try.prog .append #[23, 23] 23 [false, false] [t72_1, t80_1] w fun t81_1 w =>
 xPur w (fun w K => xFieldAddr Try.prog 25 t12 1 w K) fun t82_1 =>
 xStore Try.prog 23 t82_1 t81_1 w fun _x12 w =>
 xBin Try.prog .add 3 false t67 true (.int .i64 1) w fun t83_1 w =>
 nxt4 [t83_1] w))))
 (xSq w.drew fun w =>
 xRd w (fun K => xLoad Try.prog 25 t12 w K) fun t84 =>
 xRd w (fun K => xLoad Try.prog 26 t7 w K) fun t85 =>
 xStore Try.prog 25 t4 t84 w fun _x2 w =>
 xRe w (fun K => xLoad Try.prog 26 t7 w K) t85 (
 xPur w (fun w K => K t85 w) fun t5_1 =>
 xLoadR Try.prog 25 t4 w fun r0 =>
 K (.tuple #[r0, t5_1]) w))
def graph_Trim_l2 (K : K1) (nxt2 : List Value → World → Prop) (t2 t4 t6 t7 t11 t12 t44 t45 t46 : Value) (w : World) : Prop :=
 xBin Try.prog .lss 3 false t46 false t45 w fun t47_1 w =>
 xIf t47_1
 (xIndexAddr Try.prog 22 t44 t46 w fun t49_1 w =>
 xLoad Try.prog 53 t49_1 w fun t50_1 w =>
 xAlloc Try.prog 53 w fun t14_1 w =>
 xStore Try.prog 53 t14_1 t50_1 w fun _ w =>
 xIndexAddr Try.prog 37 t6 t46 w fun t53_1 w =>
 xLoad Try.prog 4 t53_1 w fun t54_1 w =>
 xIf t54_1
 (xSq w.drew fun w =>
 xPur w (fun w K => xFieldAddr Try.prog 25 t12 0 w K) fun t55_1 =>
 xRd w (fun K => xLoad Try.prog 22 t55_1 w K) fun t56_1 =>
 xRd w (fun K => xLoad Try.prog 53 t14_1 w K) fun t57_1 =>
 xPur w (fun w K => K t11 w) fun t58_1 =>
 xCall Try.prog (fnv 31) [t57_1, t58_1] w fun t59_1 w =>
 xRe w (fun K => xLoad Try.prog 22 t55_1 w K) t56_1 (
 xBuildSlice Try.prog 22 1 [(0, t59_1)] w fun t60_1 w =>
 xRe w (fun K => xLoad Try.prog 22 t55_1 w K) t56_1 (
 xBuiltin Try.prog .append #[22, 22] 22 [false, false] [t56_1, t60_1] w fun t61_1 w =>
 xPur w (fun w K => xFieldAddr Try.prog 25 t12 0 w K) fun t62_1 =>
 xStore Try.prog 22 t62_1 t61_1 w fun _x8 w =>
 graph_Trim_j2 K nxt2 t46 w)))
 (graph_Trim_j2 K nxt2 t46 w))
 (xFieldAddr Try.prog 25 t2 1 w fun t64 w =>
 xLoad Try.prog 23 t64 w fun t65 w =>
 xBuiltin Try.prog .len #[23] 3 [false] [t65] w fun t66 w =>
 xLoop [(.int .i64 0)] w [67] fun u w nxt4 =>
 graph_Trim_l3 K nxt4 t4 t7 t11 t12 t65 t66 (u 67) w)
def graph_Trim_l1 (K : K1) (nxt0 : List Value → World → Prop) (t2 t4 t6 t7 t8 t27 t28 t29 : Value) (w : World) : Prop :=
 xBin Try.prog .lss 3 false t29 false t28 w fun t30_1 w =>
 xIf t30_1
 (xIndexAddr Try.prog 37 t27 t29 w fun t32_1 w =>
 xLoad Try.prog 4 t32_1 w fun t33_1 w =>
 xIf t33_1
 (xBin Try.prog .add 3 false t8 true (.int .i64 1) w fun t36_1 w =>
 xLoad Try.prog 26 t7 w fun t37_1 w =>
 xIndexAddr Try.prog 26 t37_1 t29 w fun t40_1 w =>
 xStore Try.prog 3 t40_1 t36_1 w fun _ w =>
 graph_Trim_j1 K nxt0 t36_1 t29 w)
 (graph_Trim_j1 K nxt0 t8 t29 w))
 (xMakeFunc Try.prog (.func 30) [] [t7] w fun t42 w =>
 xAlloc Try.prog 25 w fun t12 w =>
 xFieldAddr Try.prog 25 t2 0 w fun t43 w =>
 xLoad Try.prog 22 t43 w fun t44 w =>
 xBuiltin Try.prog .len #[22] 3 [false] [t44] w fun t45 w =>
 xLoop [(.int .i64 0)] w [46] fun u w nxt2 =>
 graph_Trim_l2 K nxt2 t2 t4 t6 t7 t42 t12 t44 t45 (u 46) w)
def graph_Trim (K : K1) (t0 t1 : Value) (w : World) : Prop :=
 xBox Try.prog 25 t0 w fun t2 w =>
 xAlloc Try.prog 25 w fun t4 w =>
 xSq w.drew fun w =>
 xRd w (fun K => xLoad Try.prog 25 t2 w K) fun t17 =>
 xRd w (fun K => xLoad Try.prog 25 t2 w K) fun t18 =>
 xPur w (fun w K => K t1 w) fun t20 =>
 xCall Try.prog (fnv 21) [t18] w fun t19 w =>
 xRe w (fun K => xLoad Try.prog 25 t2 w K) t17 (
 xBuiltin Try.prog .append #[26, 26] 26 [false, false] [t19, t20] w fun t21 w =>
 xRe w (fun K => xLoad Try.prog 25 t2 w K) t17 (
 xCall Try.prog (fnv 13) [t17, t21] w fun t22 w =>
 xPur w (fun w K => K t22 w) fun t6 =>
 xFieldAddr Try.prog 25 t2 0 w fun t23 w =>
 xLoad Try.prog 22 t23 w fun t24 w =>
 xBuiltin Try.prog .len #[22] 3 [false] [t24] w fun t25 w =>
 xMakeSlice Try.prog 26 t25 t25 w fun t26 w =>
 xAlloc Try.prog 26 w fun t7 w =>
 xStore Try.prog 26 t7 t26 w fun _ w =>
 xBuiltin Try.prog .len #[37] 3 [false] [t6] w fun t28 w =>
 xLoop [(.int .i64 0), (.int .i64 0)] w [8, 29] fun u w nxt0 =>
 graph_Trim_l1 K nxt0 t2 t4 t6 t7 (u 8) t6 t28 (u 29) w))
abbrev n_graph_Trim : Nat := 15
def graph_Trim_ann : Ann := { loop := fun i => bif Nat.beq i 4 then [67] else bif Nat.beq i 2 then [46] else bif Nat.beq i 0 then [8, 29] else [], wr := fun i => bif Nat.beq i 4 then [16, 67, 68, 69, 70, 71, 72, 73, 74, 75, 76, 77, 78, 79, 80, 81, 82, 83] else bif Nat.beq i 2 then [13, 14, 46, 47, 48, 49, 50, 51, 52, 53, 54, 55, 56, 57, 58, 59, 60, 61, 62, 63] else bif Nat.beq i 0 then [8, 9, 10, 29, 30, 31, 32, 33, 34, 35, 36, 37, 38, 39, 40, 41] else [], told := fun i => bif Nat.beq i 1 then [(0, false, ⟨0, 131076, some 17⟩), (1, false, ⟨0, 262148, some 18⟩), (3, false, ⟨0, 1048578, some 20⟩), (2, false, ⟨2, 786432, some 19⟩), (4, false, ⟨12, 3670016, some 21⟩), (5, false, ⟨17, 6422528, some 22⟩), (6, false, ⟨63, 4194368, some 6⟩)] else bif Nat.beq i 17 then [(0, false, ⟨0, 36028797018968064, some 55⟩), (1, false, ⟨1, 108086391056891904, some 56⟩), (2, false, ⟨0, 144115188075872256, some 57⟩), (3, false, ⟨0, 288230376151713792, some 58⟩), (4, false, ⟨12, 1008806316530991104, some 59⟩), (5, false, ⟨16, 1729382256910270464, some 60⟩), (6, false, ⟨50, 3530822107858468864, some 61⟩), (7, false, ⟨127, 4611686018427392000, some 62⟩), (8, false, ⟨255, 6917529027641081856, none⟩)] else bif Nat.beq i 22 then [(0, false, ⟨0, 2361183241434822610944, some 71⟩), (1, false, ⟨1, 7083549724304467820544, some 72⟩), (2, false, ⟨0, 9444732965739290492928, some 73⟩), (3, false, ⟨4, 28334198897217871282176, some 74⟩), (4, false, ⟨0, 37778931862957161711616, some 75⟩), (5, false, ⟨0, 75557863725914323484672, some 76⟩), (6, false, ⟨32, 226673591177742970257408, some 77⟩), (7, false, ⟨80, 491126114218443102224384, some 78⟩), (8, false, ⟨136, 925583830642450461884416, some 79⟩), (9, false, ⟨256, 1813388729421943762059264, some 80⟩), (10, false, ⟨642, 3631499825326757169332224, some 81⟩), (11, false, ⟨2047, 4835703278458516698828800, some 82⟩), (12, false, ⟨4095, 7253554917687775048237056, none⟩)] else bif Nat.beq i 24 then [(0, false, ⟨0, 19342813113834066795302912, some 84⟩), (1, false, ⟨0, 38685626227668133590597760, some 85⟩), (2, false, ⟨1, 19342813113834066795298832, none⟩), (3, false, ⟨7, 38685626227668133590597664, some 5⟩)] else [], sq := fun i => bif Nat.beq i 1 then some (.rd false 0 (.rd false 1 (.rd true 3 (.ef 2 [0] (.ef 4 [0] (.ef 5 [] (.rd true 6 .done))))))) else bif Nat.beq i 17 then some (.rd true 0 (.rd false 1 (.rd false 2 (.rd true 3 (.ef 4 [1] (.ef 5 [1] (.ef 6 [] (.rd true 7 (.ef 8 [] .done))))))))) else bif Nat.beq i 22 then some (.rd true 0 (.rd false 1 (.rd true 2 (.rd false 3 (.rd true 4 (.rd true 5 (.rd false 6 (.ef 7 [1, 3] (.rd true 8 (.ef 9 [1] (.ef 10 [] (.rd true 11 (.ef 12 [] .done))))))))))))) else bif Nat.beq i 24 then some (.rd false 0 (.rd false 1 (.ef 2 [1] (.rd true 3 .done)))) else none }
theorem graph_Trim_eq (t0 t1 : Value) (w : World) (K : K1) : reads Try.prog graph_Trim_ann Try.f15 #[t0, t1] w K = graph_Trim K t0 t1 w := by kernel_rfl
theorem graph_Trim_of {t0 t1 : Value} {w : World} {K : K1} (h : graph_Trim K t0 t1 w) : Yld Try.prog n_graph_Trim #[t0, t1] w K :=
  yld_of mixed graph_Trim_ann Try.func15 (by kernel_rfl) (graph_Trim_eq t0 t1 w K) h

/-! loam/loamref17.Trim: function 16 -/
/-! loam/loamref17.Equal: function 17 -/
def loamref17_Equal_l2 (K : K1) (nxt0 : List Value → World → Prop) (nxt2 : List Value → World → Prop) (t5 t6 t7 t8 : Value) (w : World) : Prop :=
 xFieldAddr Try.prog 60 t6 0 w fun t60_1 w =>
 xLoad Try.prog 26 t60_1 w fun t61_1 w =>
 xBuiltin Try.prog .len #[26] 3 [false] [t61_1] w fun t62_1 w =>
 xBin Try.prog .lss 3 false t8 false t62_1 w fun t63_1 w =>
 xIf t63_1
 (xSq w.drew fun w =>
 xPur w (fun w K => xFieldAddr Try.prog 60 t6 0 w K) fun t66_1 =>
 xRd w (fun K => xLoad Try.prog 26 t66_1 w K) fun t67_1 =>
 xPur w (fun w K => K t8 w) fun t68_1 =>
 xPur w (fun w K => xIndexAddr Try.prog 26 t67_1 t68_1 w K) fun t69_1 =>
 xRd w (fun K => xLoad Try.prog 3 t69_1 w K) fun t70_1 =>
 xPur w (fun w K => xFieldAddr Try.prog 60 t7 0 w K) fun t71_1 =>
 xRd w (fun K => xLoad Try.prog 26 t71_1 w K) fun t72_1 =>
 xPur w (fun w K => K t8 w) fun t73_1 =>
 xPur w (fun w K => xIndexAddr Try.prog 26 t72_1 t73_1 w K) fun t74_1 =>
 xRd w (fun K => xLoad Try.prog 3 t74_1 w K) fun t75_1 =>
 xPur w (fun w K => xBin Try.prog .neq 3 false t70_1 false t75_1 w K) fun t76_1 =>
 xIf t76_1
 (K (.bool false) w)
 (xBin Try.prog .add 3 false t8 true (.int .i64 1) w fun t65_1 w =>
 nxt2 [t65_1] w))
 (xBin Try.prog .add 3 false t5 true (.int .i64 1) w fun t32_1 w =>
 nxt0 [t32_1] w)
def loamref17_Equal_l3 (K : K1) (nxt4 : List Value → World → Prop) (t2 t3 t9 : Value) (w : World) : Prop :=
 xFieldAddr Try.prog 32 t2 1 w fun t78_1 w =>
 xLoad Try.prog 30 t78_1 w fun t79_1 w =>
 xBuiltin Try.prog .len #[30] 3 [false] [t79_1] w fun t80_1 w =>
 xBin Try.prog .lss 3 false t9 false t80_1 w fun t81_1 w =>
 xIf t81_1
 (xSq w.drew fun w =>
 xPur w (fun w K => xFieldAddr Try.prog 32 t2 1 w K) fun t84_1 =>
 xRd w (fun K => xLoad Try.prog 30 t84_1 w K) fun t85_1 =>
 xPur w (fun w K => K t9 w) fun t86_1 =>
 xPur w (fun w K => xIndexAddr Try.prog 30 t85_1 t86_1 w K) fun t87_1 =>
 xPur w (fun w K => xFieldAddr Try.prog 61 t87_1 0 w K) fun t88_1 =>
 xRd w (fun K => xLoad Try.prog 9 t88_1 w K) fun t89_1 =>
 xPur w (fun w K => xFieldAddr Try.prog 32 t3 1 w K) fun t90_1 =>
 xRd w (fun K => xLoad Try.prog 30 t90_1 w K) fun t91_1 =>
 xPur w (fun w K => K t9 w) fun t92_1 =>
 xPur w (fun w K => xIndexAddr Try.prog 30 t91_1 t92_1 w K) fun t93_1 =>
 xPur w (fun w K => xFieldAddr Try.prog 61 t93_1 0 w K) fun t94_1 =>
 xRd w (fun K => xLoad Try.prog 9 t94_1 w K) fun t95_1 =>
 xPur w (fun w K => xBin Try.prog .neq 9 false t89_1 false t95_1 w K) fun t96_1 =>
 xPur w (fun w K => K t96_1 w) fun t97_1 =>
 xPur w (fun w K => xGuard t97_1 false (fun w K => xFieldAddr Try.prog 32 t2 1 w K) w K) fun t98_1 =>
 xRd w (fun K => xGuard t97_1 false (fun w K => xLoad Try.prog 30 t98_1 w K) w K) fun t99_1 =>
 xPur w (fun w K => xGuard t97_1 false (fun w K => K t9 w) w K) fun t100_1 =>
 xPur w (fun w K => xGuard t97_1 false (fun w K => xIndexAddr Try.prog 30 t99_1 t100_1 w K) w K) fun t101_1 =>
 xPur w (fun w K => xGuard t97_1 false (fun w K => xFieldAddr Try.prog 61 t101_1 1 w K) w K) fun t102_1 =>
 xRd w (fun K => xGuard t97_1 false (fun w K => xLoad Try.prog 3 t102_1 w K) w K) fun t103_1 =>
 xPur w (fun w K => xGuard t97_1 false (fun w K => xFieldAddr Try.prog 32 t3 1 w K) w K) fun t104_1 =>
 xRd w (fun K => xGuard t97_1 false (fun w K => xLoad Try.prog 30 t104_1 w K) w K) fun t105_1 =>
 xPur w (fun w K => xGuard t97_1 false (fun w K => K t9 w) w K) fun t106_1 =>
 xPur w (fun w K => xGuard t97_1 false (fun w K => xIndexAddr Try.prog 30 t105_1 t106_1 w K) w K) fun t107_1 =>
 xPur w (fun w K => xGuard t97_1 false (fun w K => xFieldAddr Try.prog 61 t107_1 1 w K) w K) fun t108_1 =>
 xRd w (fun K => xGuard t97_1 false (fun w K => xLoad Try.prog 3 t108_1 w K) w K) fun t109_1 =>
 xPur w (fun w K => xGuard t97_1 false (fun w K => xBin Try.prog .neq 3 false t103_1 false t109_1 w K) w K) fun t110_1 =>
 xPur w (fun w K => xPick t97_1 (.bool true) t110_1 w K) fun t111_1 =>
 xIf t111_1
 (K (.bool false) w)
 (xBin Try.prog .add 3 false t9 true (.int .i64 1) w fun t83_1 w =>
 nxt4 [t83_1] w))
 (K (.bool true) w)
def loamref17_Equal_l1 (K : K1) (nxt0 : List Value → World → Prop) (t2 t3 t5 : Value) (w : World) : Prop :=
 xFieldAddr Try.prog 32 t2 0 w fun t27_1 w =>
 xLoad Try.prog 29 t27_1 w fun t28_1 w =>
 xBuiltin Try.prog .len #[29] 3 [false] [t28_1] w fun t29_1 w =>
 xBin Try.prog .lss 3 false t5 false t29_1 w fun t30_1 w =>
 xIf t30_1
 (xFieldAddr Try.prog 32 t2 0 w fun t33_1 w =>
 xLoad Try.prog 29 t33_1 w fun t34_1 w =>
 xIndexAddr Try.prog 29 t34_1 t5 w fun t36_1 w =>
 xLoad Try.prog 60 t36_1 w fun t37_1 w =>
 xAlloc Try.prog 60 w fun t6_1 w =>
 xStore Try.prog 60 t6_1 t37_1 w fun _ w =>
 xFieldAddr Try.prog 32 t3 0 w fun t38_1 w =>
 xLoad Try.prog 29 t38_1 w fun t39_1 w =>
 xIndexAddr Try.prog 29 t39_1 t5 w fun t41_1 w =>
 xLoad Try.prog 60 t41_1 w fun t42_1 w =>
 xAlloc Try.prog 60 w fun t7_1 w =>
 xStore Try.prog 60 t7_1 t42_1 w fun _ w =>
 xFieldAddr Try.prog 60 t6_1 0 w fun t43_1 w =>
 xLoad Try.prog 26 t43_1 w fun t44_1 w =>
 xBuiltin Try.prog .len #[26] 3 [false] [t44_1] w fun t45_1 w =>
 xFieldAddr Try.prog 60 t7_1 0 w fun t46_1 w =>
 xLoad Try.prog 26 t46_1 w fun t47_1 w =>
 xBuiltin Try.prog .len #[26] 3 [false] [t47_1] w fun t48_1 w =>
 xBin Try.prog .neq 3 false t45_1 false t48_1 w fun t49_1 w =>
 xGuard t49_1 false (fun w K => xFieldAddr Try.prog 60 t6_1 1 w K) w fun t51_1 w =>
 xGuard t49_1 false (fun w K => xLoad Try.prog 51 t51_1 w K) w fun t52_1 w =>
 xGuard t49_1 false (fun w K => xConv Try.prog 51 9 t52_1 w K) w fun t53_1 w =>
 xGuard t49_1 false (fun w K => xFieldAddr Try.prog 60 t7_1 1 w K) w fun t54_1 w =>
 xGuard t49_1 false (fun w K => xLoad Try.prog 51 t54_1 w K) w fun t55_1 w =>
 xGuard t49_1 false (fun w K => xConv Try.prog 51 9 t55_1 w K) w fun t56_1 w =>
 xGuard t49_1 false (fun w K => xBin Try.prog .neq 9 false t53_1 false t56_1 w K) w fun t57_1 w =>
 xPick t49_1 (.bool true) t57_1 w fun t58_1 w =>
 xIf t58_1
 (K (.bool false) w)
 (xLoop [(.int .i64 0)] w [8] fun u w nxt2 =>
 loamref17_Equal_l2 K nxt0 nxt2 t5 t6_1 t7_1 (u 8) w))
 (xLoop [(.int .i64 0)] w [9] fun u w nxt4 =>
 loamref17_Equal_l3 K nxt4 t2 t3 (u 9) w)
def loamref17_Equal (K : K1) (t0 t1 : Value) (w : World) : Prop :=
 xBox Try.prog 32 t0 w fun t2 w =>
 xBox Try.prog 32 t1 w fun t3 w =>
 xFieldAddr Try.prog 32 t2 0 w fun t10 w =>
 xLoad Try.prog 29 t10 w fun t11 w =>
 xBuiltin Try.prog .len #[29] 3 [false] [t11] w fun t12 w =>
 xFieldAddr Try.prog 32 t3 0 w fun t13 w =>
 xLoad Try.prog 29 t13 w fun t14 w =>
 xBuiltin Try.prog .len #[29] 3 [false] [t14] w fun t15 w =>
 xBin Try.prog .neq 3 false t12 false t15 w fun t16 w =>
 xGuard t16 false (fun w K => xFieldAddr Try.prog 32 t2 1 w K) w fun t18 w =>
 xGuard t16 false (fun w K => xLoad Try.prog 30 t18 w K) w fun t19 w =>
 xGuard t16 false (fun w K => xBuiltin Try.prog .len #[30] 3 [false] [t19] w K) w fun t20 w =>
 xGuard t16 false (fun w K => xFieldAddr Try.prog 32 t3 1 w K) w fun t21 w =>
 xGuard t16 false (fun w K => xLoad Try.prog 30 t21 w K) w fun t22 w =>
 xGuard t16 false (fun w K => xBuiltin Try.prog .len #[30] 3 [false] [t22] w K) w fun t23 w =>
 xGuard t16 false (fun w K => xBin Try.prog .neq 3 false t20 false t23 w K) w fun t24 w =>
 xPick t16 (.bool true) t24 w fun t25 w =>
 xIf t25
 (K (.bool false) w)
 (xLoop [(.int .i64 0)] w [5] fun u w nxt0 =>
 loamref17_Equal_l1 K nxt0 t2 t3 (u 5) w)
abbrev n_loamref17_Equal : Nat := 17
def loamref17_Equal_ann : Ann := { loop := fun i => bif Nat.beq i 2 then [8] else bif Nat.beq i 4 then [9] else bif Nat.beq i 0 then [5] else [], wr := fun i => bif Nat.beq i 2 then [4, 8, 59, 60, 61, 62, 63, 64, 65, 66, 67, 68, 69, 70, 71, 72, 73, 74, 75, 76] else bif Nat.beq i 4 then [4, 9, 77, 78, 79, 80, 81, 82, 83, 84, 85, 86, 87, 88, 89, 90, 91, 92, 93, 94, 95, 96, 97, 98, 99, 100, 101, 102, 103, 104, 105, 106, 107, 108, 109, 110, 111] else bif Nat.beq i 0 then [4, 5, 6, 7, 8, 26, 27, 28, 29, 30, 31, 32, 33, 34, 35, 36, 37, 38, 39, 40, 41, 42, 43, 44, 45, 46, 47, 48, 49, 50, 51, 52, 53, 54, 55, 56, 57, 58, 59, 60, 61, 62, 63, 64, 65, 66, 67, 68, 69, 70, 71, 72, 73, 74, 75, 76] else [], told := fun i => bif Nat.beq i 13 then [(0, false, ⟨0, 73786976294838206528, some 66⟩), (1, false, ⟨1, 221360928884514619392, some 67⟩), (2, false, ⟨0, 295147905179352826112, some 68⟩), (3, false, ⟨6, 1033017668127734890496, some 69⟩), (4, false, ⟨8, 1770887431076116955136, some 70⟩), (5, false, ⟨0, 2361183241434822606976, some 71⟩), (6, false, ⟨32, 7083549724304467820544, some 72⟩), (7, false, ⟨0, 9444732965739290427648, some 73⟩), (8, false, ⟨192, 33056565380087516495872, some 74⟩), (9, false, ⟨256, 56668397794435742564352, some 75⟩), (10, false, ⟨528, 114517387209588896432128, some 76⟩)] else bif Nat.beq i 18 then [(0, false, ⟨0, 19342813113834066795298820, some 84⟩), (1, false, ⟨1, 58028439341502200385896448, some 85⟩), (2, false, ⟨0, 77371252455336267181195776, some 86⟩), (3, false, ⟨6, 270799383593676935134183424, some 87⟩), (4, false, ⟨8, 464227514732017603087171584, some 88⟩), (5, false, ⟨16, 928455029464035206174343168, some 89⟩), (6, false, ⟨0, 1237940039285380274899124232, some 90⟩), (7, false, ⟨64, 3713820117856140824697372672, some 91⟩), (8, false, ⟨0, 4951760157141521099596497408, some 92⟩), (9, false, ⟨384, 17331160549995323848587739136, some 93⟩), (10, false, ⟨512, 29710560942849126597578981376, some 94⟩), (11, false, ⟨1024, 59421121885698253195157962752, some 95⟩), (12, false, ⟨2080, 119461213791039196527765487616, some 96⟩), (13, false, ⟨4096, 237684487542793012780631851008, some 97⟩), (14, false, ⟨8192, 475368975085586025561263702020, some 98⟩), (15, false, ⟨24576, 1109194275199700726309615304704, some 99⟩), (16, false, ⟨8192, 1426106925256758076683791106560, some 100⟩), (17, false, ⟨106496, 4595233425827331580425549119488, some 101⟩), (18, false, ⟨139264, 7764359926397905084167307132928, some 102⟩), (19, false, ⟨270336, 15370263527767281493147526365184, some 103⟩), (20, false, ⟨8192, 20440865928680199099134339186696, some 104⟩), (21, false, ⟨1056768, 61005685135983539947028841758720, some 105⟩), (22, false, ⟨8192, 81288094739635210370976093045248, some 106⟩), (23, false, ⟨6299648, 284112190776151914610448605904896, some 107⟩), (24, false, ⟨8396800, 486936286812668618849921118765056, some 108⟩), (25, false, ⟨16785408, 973714117300308709024655149629440, some 109⟩), (26, false, ⟨34086912, 1957410983077414724586096837001216, some 110⟩), (27, false, ⟨67117056, 3894381100226149250073059334815744, some 111⟩)] else [], sq := fun i => bif Nat.beq i 13 then some (.rd true 0 (.rd false 1 (.rd true 2 (.rd true 3 (.rd false 4 (.rd true 5 (.rd false 6 (.rd true 7 (.rd true 8 (.rd false 9 (.rd true 10 .done))))))))))) else bif Nat.beq i 18 then some (.rd true 0 (.rd false 1 (.rd true 2 (.rd true 3 (.rd true 4 (.rd false 5 (.rd true 6 (.rd false 7 (.rd true 8 (.rd true 9 (.rd true 10 (.rd false 11 (.rd true 12 (.rd true 13 (.rd true 14 (.rd false 15 (.rd true 16 (.rd true 17 (.rd true 18 (.rd false 19 (.rd true 20 (.rd false 21 (.rd true 22 (.rd true 23 (.rd true 24 (.rd false 25 (.rd true 26 (.rd true 27 .done)))))))))))))))))))))))))))) else none }
theorem loamref17_Equal_eq (t0 t1 : Value) (w : World) (K : K1) : reads Try.prog loamref17_Equal_ann Try.f17 #[t0, t1] w K = loamref17_Equal K t0 t1 w := by kernel_rfl
theorem loamref17_Equal_of {t0 t1 : Value} {w : World} {K : K1} (h : loamref17_Equal K t0 t1 w) : Yld Try.prog n_loamref17_Equal #[t0, t1] w K :=
  yld_of mixed loamref17_Equal_ann Try.func17 (by kernel_rfl) (loamref17_Equal_eq t0 t1 w K) h

/-! loam/loamlaw15.Ints: function 18 -/
/-! loam/graph.Words: function 19 -/
def graph_Words_l1 (K : K1) (nxt0 : List Value → World → Prop) (t3 t7 t8 t9 : Value) (w : World) : Prop :=
 xBin Try.prog .lss 3 false t9 false t8 w fun t10_1 w =>
 xIf t10_1
 (xIndexAddr Try.prog 22 t7 t9 w fun t11_1 w =>
 xLoad Try.prog 53 t11_1 w fun t12_1 w =>
 xAlloc Try.prog 53 w fun t5_1 w =>
 xStore Try.prog 53 t5_1 t12_1 w fun _ w =>
 xFieldAddr Try.prog 53 t5_1 0 w fun t14_1 w =>
 xLoad Try.prog 26 t14_1 w fun t15_1 w =>
 xBuiltin Try.prog .len #[26] 3 [false] [t15_1] w fun t16_1 w =>
 xFieldAddr Try.prog 53 t5_1 1 w fun t17_1 w =>
 xLoad Try.prog 51 t17_1 w fun t18_1 w =>
 xBuiltin Try.prog .len #[51] 3 [false] [t18_1] w fun t19_1 w =>
 xBuild Try.prog 70 [(0, t16_1), (1, t19_1)] w fun t20_1 w =>
 xCall Try.prog (fnv 34) [t20_1] w fun t21_1 w =>
 xBin Try.prog .add 3 false t3 false t21_1 w fun t22_1 w =>
 xBin Try.prog .add 3 false t9 true (.int .i64 1) w fun t23_1 w =>
 nxt0 [t22_1, t23_1] w)
 (K t3 w)
def graph_Words (K : K1) (t0 : Value) (w : World) : Prop :=
 xBox Try.prog 25 t0 w fun t1 w =>
 xFieldAddr Try.prog 25 t1 0 w fun t6 w =>
 xLoad Try.prog 22 t6 w fun t7 w =>
 xBuiltin Try.prog .len #[22] 3 [false] [t7] w fun t8 w =>
 xLoop [(.int .i64 0), (.int .i64 0)] w [3, 9] fun u w nxt0 =>
 graph_Words_l1 K nxt0 (u 3) t7 t8 (u 9) w
abbrev n_graph_Words : Nat := 19
def graph_Words_ann : Ann := { loop := fun i => bif Nat.beq i 0 then [3, 9] else [], wr := fun i => bif Nat.beq i 0 then [3, 5, 9, 10, 11, 12, 13, 14, 15, 16, 17, 18, 19, 20, 21, 22, 23] else [], told := fun i => [] }
theorem graph_Words_eq (t0 : Value) (w : World) (K : K1) : reads Try.prog graph_Words_ann Try.f19 #[t0] w K = graph_Words K t0 w := by kernel_rfl
theorem graph_Words_of {t0 : Value} {w : World} {K : K1} (h : graph_Words K t0 w) : Yld Try.prog n_graph_Words #[t0] w K :=
  yld_of mixed graph_Words_ann Try.func19 (by kernel_rfl) (graph_Words_eq t0 w K) h

/-! loam/loamref17.Words: function 20 -/
/-! loam/graph.Named: function 21 -/
def graph_Named_l1 (K : K1) (nxt0 : List Value → World → Prop) (t3 t7 t8 t9 : Value) (w : World) : Prop :=
 xBin Try.prog .lss 3 false t9 false t8 w fun t10_1 w =>
 xIf t10_1
 (xIndexAddr Try.prog 23 t7 t9 w fun t11_1 w =>
 xLoad Try.prog 58 t11_1 w fun t12_1 w =>
 xAlloc Try.prog 58 w fun t5_1 w =>
 xStore Try.prog 58 t5_1 t12_1 w fun _ w =>
 xFieldAddr Try.prog 58 t5_1 1 w fun t14_1 w =>
 xLoad Try.prog 3 t14_1 w fun t15_1 w =>
 xBuildSlice Try.prog 26 1 [(0, t15_1)] w fun t16_1 w =>
 xBuiltin Try.prog .append #[26, 26] 26 [false, false] [t3, t16_1] w fun t17_1 w =>
 xBin Try.prog .add 3 false t9 true (.int .i64 1) w fun t18_1 w =>
 nxt0 [t17_1, t18_1] w)
 (xCall Try.prog (fnv 36) [t3] w fun t20 w =>
 K t20 w)
def graph_Named (K : K1) (t0 : Value) (w : World) : Prop :=
 xBox Try.prog 25 t0 w fun t1 w =>
 xFieldAddr Try.prog 25 t1 1 w fun t6 w =>
 xLoad Try.prog 23 t6 w fun t7 w =>
 xBuiltin Try.prog .len #[23] 3 [false] [t7] w fun t8 w =>
 xLoop [(.slice none 0 0), (.int .i64 0)] w [3, 9] fun u w nxt0 =>
 graph_Named_l1 K nxt0 (u 3) t7 t8 (u 9) w
abbrev n_graph_Named : Nat := 21
def graph_Named_ann : Ann := { loop := fun i => bif Nat.beq i 0 then [3, 9] else [], wr := fun i => bif Nat.beq i 0 then [3, 5, 9, 10, 11, 12, 13, 14, 15, 16, 17, 18] else [], told := fun i => [] }
theorem graph_Named_eq (t0 : Value) (w : World) (K : K1) : reads Try.prog graph_Named_ann Try.f21 #[t0] w K = graph_Named K t0 w := by kernel_rfl
theorem graph_Named_of {t0 : Value} {w : World} {K : K1} (h : graph_Named K t0 w) : Yld Try.prog n_graph_Named #[t0] w K :=
  yld_of mixed graph_Named_ann Try.func21 (by kernel_rfl) (graph_Named_eq t0 w K) h

/-! loam/loamref17.Named: function 22 -/
/-! loam/graph.Twin: function 23 -/
def graph_Twin_l1 (K : K1) (nxt0 : List Value → World → Prop) (t1 t2 t3 t7 t8 t9 : Value) (w : World) : Prop :=
 xBin Try.prog .lss 3 false t9 false t8 w fun t10_1 w =>
 xIf t10_1
 (xIndexAddr Try.prog 22 t7 t9 w fun t11_1 w =>
 xLoad Try.prog 53 t11_1 w fun t12_1 w =>
 xAlloc Try.prog 53 w fun t5_1 w =>
 xStore Try.prog 53 t5_1 t12_1 w fun _ w =>
 xSq w.drew fun w =>
 xPur w (fun w K => xFieldAddr Try.prog 25 t3 0 w K) fun t13_1 =>
 xRd w (fun K => xLoad Try.prog 22 t13_1 w K) fun t14_1 =>
 xRd w (fun K => xLoad Try.prog 53 t5_1 w K) fun t15_1 =>
 xCall Try.prog (fnv 31) [t15_1, (fnv 37)] w fun t16_1 w =>
 xRe w (fun K => xLoad Try.prog 22 t13_1 w K) t14_1 (
 xBuildSlice Try.prog 22 1 [(0, t16_1)] w fun t17_1 w =>
 xRe w (fun K => xLoad Try.prog 22 t13_1 w K) t14_1 (
 xBuiltin Try.prog .append #[22, 22] 22 [false, false] [t14_1, t17_1] w fun t18_1 w =>
 xPur w (fun w K => xFieldAddr Try.prog 25 t3 0 w K) fun t19_1 =>
 xStore Try.prog 22 t19_1 t18_1 w fun _x7 w =>
 xBin Try.prog .add 3 false t9 true (.int .i64 1) w fun t20_1 w =>
 nxt0 [t20_1] w)))
 (xFieldAddr Try.prog 25 t1 1 w fun t21 w =>
 xLoad Try.prog 23 t21 w fun t22 w =>
 xCall Try.prog (fnv 39) [t22] w fun t23 w =>
 xCall Try.prog (fnv 38) [t23] w fun t24 w =>
 xFieldAddr Try.prog 25 t3 1 w fun t25 w =>
 xStore Try.prog 23 t25 t24 w fun _ w =>
 xFieldAddr Try.prog 25 t3 0 w fun t26 w =>
 xLoad Try.prog 22 t26 w fun t27 w =>
 xCall Try.prog (fnv 40) [t27] w fun t28 w =>
 xFieldAddr Try.prog 25 t3 0 w fun t29 w =>
 xStore Try.prog 22 t29 t28 w fun _ w =>
 xLoad Try.prog 25 t3 w fun t30 w =>
 xStore Try.prog 25 t2 t30 w fun _ w =>
 xLoadR Try.prog 25 t2 w fun r0 =>
 K r0 w)
def graph_Twin (K : K1) (t0 : Value) (w : World) : Prop :=
 xBox Try.prog 25 t0 w fun t1 w =>
 xAlloc Try.prog 25 w fun t2 w =>
 xAlloc Try.prog 25 w fun t3 w =>
 xFieldAddr Try.prog 25 t1 0 w fun t6 w =>
 xLoad Try.prog 22 t6 w fun t7 w =>
 xBuiltin Try.prog .len #[22] 3 [false] [t7] w fun t8 w =>
 xLoop [(.int .i64 0)] w [9] fun u w nxt0 =>
 graph_Twin_l1 K nxt0 t1 t2 t3 t7 t8 (u 9) w
abbrev n_graph_Twin : Nat := 23
def graph_Twin_ann : Ann := { loop := fun i => bif Nat.beq i 0 then [9] else [], wr := fun i => bif Nat.beq i 0 then [5, 9, 10, 11, 12, 13, 14, 15, 16, 17, 18, 19, 20] else [], told := fun i => bif Nat.beq i 5 then [(0, false, ⟨0, 8200, some 13⟩), (1, false, ⟨1, 24576, some 14⟩), (2, false, ⟨0, 32800, some 15⟩), (3, false, ⟨4, 98304, some 16⟩), (4, false, ⟨8, 196608, some 17⟩), (5, false, ⟨26, 409600, some 18⟩), (6, false, ⟨63, 524296, some 19⟩), (7, false, ⟨127, 786432, none⟩)] else [], sq := fun i => bif Nat.beq i 5 then some (.rd true 0 (.rd false 1 (.rd false 2 (.ef 3 [1] (.ef 4 [1] (.ef 5 [] (.rd true 6 (.ef 7 [] .done)))))))) else none }
theorem graph_Twin_eq (t0 : Value) (w : World) (K : K1) : reads Try.prog graph_Twin_ann Try.f23 #[t0] w K = graph_Twin K t0 w := by kernel_rfl
theorem graph_Twin_of {t0 : Value} {w : World} {K : K1} (h : graph_Twin K t0 w) : Yld Try.prog n_graph_Twin #[t0] w K :=
  yld_of mixed graph_Twin_ann Try.func23 (by kernel_rfl) (graph_Twin_eq t0 w K) h

/-! loam/graph.Equal: function 24 -/
def graph_Equal (K : K1) (t0 t1 : Value) (w : World) : Prop :=
 xBox Try.prog 25 t0 w fun t2 w =>
 xBox Try.prog 25 t1 w fun t3 w =>
 xFieldAddr Try.prog 25 t2 0 w fun t6 w =>
 xLoad Try.prog 22 t6 w fun t7 w =>
 xFieldAddr Try.prog 25 t3 0 w fun t8 w =>
 xLoad Try.prog 22 t8 w fun t9 w =>
 xCall Try.prog (fnv 41) [t7, t9, (fnv 42)] w fun t10 w =>
 xGuard t10 true (fun w K => xFieldAddr Try.prog 25 t2 1 w K) w fun t13 w =>
 xGuard t10 true (fun w K => xLoad Try.prog 23 t13 w K) w fun t14 w =>
 xGuard t10 true (fun w K => xFieldAddr Try.prog 25 t3 1 w K) w fun t15 w =>
 xGuard t10 true (fun w K => xLoad Try.prog 23 t15 w K) w fun t16 w =>
 xGuard t10 true (fun w K => xCall Try.prog (fnv 45) [t14, t16] w K) w fun t17 w =>
 xPick t10 t17 (.bool false) w fun t18 w =>
 K t18 w
abbrev n_graph_Equal : Nat := 24
def graph_Equal_ann : Ann := { loop := fun i => [], wr := fun i => [], told := fun i => [] }
theorem graph_Equal_eq (t0 t1 : Value) (w : World) (K : K1) : reads Try.prog graph_Equal_ann Try.f24 #[t0, t1] w K = graph_Equal K t0 t1 w := by kernel_rfl
theorem graph_Equal_of {t0 t1 : Value} {w : World} {K : K1} (h : graph_Equal K t0 t1 w) : Yld Try.prog n_graph_Equal #[t0, t1] w K :=
  yld_of mixed graph_Equal_ann Try.func24 (by kernel_rfl) (graph_Equal_eq t0 t1 w K) h

/-! loam/loamref17.Canon: function 25 -/
/-! (loam/graph.Graph).node: function 26 -/
def graph_Graph_node_l1 (K : K1) (nxt0 : List Value → World → Prop) (t2 t3 t8 t9 t10 : Value) (w : World) : Prop :=
 xBin Try.prog .lss 3 false t10 false t9 w fun t11_1 w =>
 xIf t11_1
 (xIndexAddr Try.prog 26 t8 t10 w fun t12_1 w =>
 xLoad Try.prog 3 t12_1 w fun t13_1 w =>
 xBin Try.prog .lss 3 false t13_1 true (.int .i64 0) w fun t15_1 w =>
 xGuard t15_1 false (fun w K => K t13_1 w) w fun t17_1 w =>
 xGuard t15_1 false (fun w K => xFieldAddr Try.prog 25 t2 0 w K) w fun t18_1 w =>
 xGuard t15_1 false (fun w K => xLoad Try.prog 22 t18_1 w K) w fun t19_1 w =>
 xGuard t15_1 false (fun w K => xBuiltin Try.prog .len #[22] 3 [false] [t19_1] w K) w fun t20_1 w =>
 xGuard t15_1 false (fun w K => xBin Try.prog .gtr 3 false t17_1 false t20_1 w K) w fun t21_1 w =>
 xPick t15_1 (.bool true) t21_1 w fun t22_1 w =>
 xIf t22_1
 (K (.int .i64 1) w)
 (xBin Try.prog .add 3 false t10 true (.int .i64 1) w fun t23_1 w =>
 nxt0 [t23_1] w))
 (xFieldAddr Try.prog 53 t3 0 w fun t24 w =>
 xLoad Try.prog 26 t24 w fun t25 w =>
 xBuiltin Try.prog .len #[26] 3 [false] [t25] w fun t26 w =>
 xBin Try.prog .gtr 3 false t26 true (.int .i64 64) w fun t27 w =>
 xGuard t27 false (fun w K => xFieldAddr Try.prog 53 t3 1 w K) w fun t29 w =>
 xGuard t27 false (fun w K => xLoad Try.prog 51 t29 w K) w fun t30 w =>
 xGuard t27 false (fun w K => xBuiltin Try.prog .len #[51] 3 [false] [t30] w K) w fun t31 w =>
 xGuard t27 false (fun w K => xBin Try.prog .gtr 3 false t31 true (.int .i64 1024) w K) w fun t32 w =>
 xPick t27 (.bool true) t32 w fun t33 w =>
 xIf t33
 (K (.int .i64 3) w)
 (K (.int .i64 0) w))
def graph_Graph_node (K : K1) (t0 t1 : Value) (w : World) : Prop :=
 xBox Try.prog 25 t0 w fun t2 w =>
 xBox Try.prog 53 t1 w fun t3 w =>
 xFieldAddr Try.prog 53 t3 0 w fun t7 w =>
 xLoad Try.prog 26 t7 w fun t8 w =>
 xBuiltin Try.prog .len #[26] 3 [false] [t8] w fun t9 w =>
 xLoop [(.int .i64 0)] w [10] fun u w nxt0 =>
 graph_Graph_node_l1 K nxt0 t2 t3 t8 t9 (u 10) w
abbrev n_graph_Graph_node : Nat := 26
def graph_Graph_node_ann : Ann := { loop := fun i => bif Nat.beq i 0 then [10] else [], wr := fun i => bif Nat.beq i 0 then [4, 6, 10, 11, 12, 13, 14, 15, 16, 17, 18, 19, 20, 21, 22, 23] else [], told := fun i => [] }
theorem graph_Graph_node_eq (t0 t1 : Value) (w : World) (K : K1) : reads Try.prog graph_Graph_node_ann Try.f26 #[t0, t1] w K = graph_Graph_node K t0 t1 w := by kernel_rfl
theorem graph_Graph_node_of {t0 t1 : Value} {w : World} {K : K1} (h : graph_Graph_node K t0 t1 w) : Yld Try.prog n_graph_Graph_node #[t0, t1] w K :=
  yld_of mixed graph_Graph_node_ann Try.func26 (by kernel_rfl) (graph_Graph_node_eq t0 t1 w K) h

/-! (loam/graph.Graph).root: function 27 -/
def graph_Graph_root (K : K1) (t0 t1 : Value) (w : World) : Prop :=
 xBox Try.prog 25 t0 w fun t2 w =>
 xFieldAddr Try.prog 25 t2 1 w fun t6 w =>
 xLoad Try.prog 23 t6 w fun t7 w =>
 xIndexAddr Try.prog 23 t7 t1 w fun t9 w =>
 xLoad Try.prog 58 t9 w fun t10 w =>
 xAlloc Try.prog 58 w fun t5 w =>
 xStore Try.prog 58 t5 t10 w fun _ w =>
 xFieldAddr Try.prog 58 t5 0 w fun t12 w =>
 xLoad Try.prog 9 t12 w fun t13 w =>
 xBuiltin Try.prog .len #[9] 3 [false] [t13] w fun t14 w =>
 xBin Try.prog .lss 3 false t14 true (.int .i64 1) w fun t15 w =>
 xGuard t15 false (fun w K => xFieldAddr Try.prog 58 t5 0 w K) w fun t17 w =>
 xGuard t15 false (fun w K => xLoad Try.prog 9 t17 w K) w fun t18 w =>
 xGuard t15 false (fun w K => xBuiltin Try.prog .len #[9] 3 [false] [t18] w K) w fun t19 w =>
 xGuard t15 false (fun w K => xBin Try.prog .gtr 3 false t19 true (.int .i64 32) w K) w fun t20 w =>
 xPick t15 (.bool true) t20 w fun t21 w =>
 xGuard t21 false (fun w K => xFieldAddr Try.prog 58 t5 0 w K) w fun t23 w =>
 xGuard t21 false (fun w K => xLoad Try.prog 9 t23 w K) w fun t24 w =>
 xGuard t21 false (fun w K => xCall Try.prog (fnv 46) [t24, (.string { data := #[0] })] w K) w fun t25 w =>
 xPick t21 (.bool true) t25 w fun t26 w =>
 xIf t26
 (K (.int .i64 4) w)
 (xSq w.drew fun w =>
 xPur w (fun w K => K t1 w) fun t28 =>
 xPur w (fun w K => xBin Try.prog .gtr 3 false t28 true (.int .i64 0) w K) fun t29 =>
 xPur w (fun w K => K t29 w) fun t30 =>
 xPur w (fun w K => xGuard t30 true (fun w K => xFieldAddr Try.prog 25 t2 1 w K) w K) fun t31 =>
 xRd w (fun K => xGuard t30 true (fun w K => xLoad Try.prog 23 t31 w K) w K) fun t32 =>
 xPur w (fun w K => xGuard t30 true (fun w K => K t1 w) w K) fun t33 =>
 xPur w (fun w K => xGuard t30 true (fun w K => xBin Try.prog .sub 3 false t33 true (.int .i64 1) w K) w K) fun t34 =>
 xPur w (fun w K => xGuard t30 true (fun w K => xIndexAddr Try.prog 23 t32 t34 w K) w K) fun t35 =>
 xPur w (fun w K => xGuard t30 true (fun w K => xFieldAddr Try.prog 58 t35 0 w K) w K) fun t36 =>
 xRd w (fun K => xGuard t30 true (fun w K => xLoad Try.prog 9 t36 w K) w K) fun t37 =>
 xPur w (fun w K => xGuard t30 true (fun w K => xFieldAddr Try.prog 58 t5 0 w K) w K) fun t38 =>
 xRd w (fun K => xGuard t30 true (fun w K => xLoad Try.prog 9 t38 w K) w K) fun t39 =>
 xPur w (fun w K => xGuard t30 true (fun w K => xBin Try.prog .geq 9 false t37 false t39 w K) w K) fun t40 =>
 xPur w (fun w K => xPick t30 t40 (.bool false) w K) fun t41 =>
 xPur w (fun w K => K t41 w) fun t27 =>
 xIf t27
 (K (.int .i64 4) w)
 (xFieldAddr Try.prog 58 t5 1 w fun t43 w =>
 xLoad Try.prog 3 t43 w fun t44 w =>
 xBin Try.prog .lss 3 false t44 true (.int .i64 0) w fun t45 w =>
 xGuard t45 false (fun w K => xFieldAddr Try.prog 58 t5 1 w K) w fun t47 w =>
 xGuard t45 false (fun w K => xLoad Try.prog 3 t47 w K) w fun t48 w =>
 xGuard t45 false (fun w K => xFieldAddr Try.prog 25 t2 0 w K) w fun t49 w =>
 xGuard t45 false (fun w K => xLoad Try.prog 22 t49 w K) w fun t50 w =>
 xGuard t45 false (fun w K => xBuiltin Try.prog .len #[22] 3 [false] [t50] w K) w fun t51 w =>
 xGuard t45 false (fun w K => xBin Try.prog .gtr 3 false t48 false t51 w K) w fun t52 w =>
 xPick t45 (.bool true) t52 w fun t53 w =>
 xIf t53
 (K (.int .i64 1) w)
 (K (.int .i64 0) w)))
abbrev n_graph_Graph_root : Nat := 27
def graph_Graph_root_ann : Ann := { loop := fun i => [], wr := fun i => [], told := fun i => bif Nat.beq i 4 then [(0, false, ⟨0, 268435458, some 28⟩), (1, false, ⟨1, 805306368, some 29⟩), (2, false, ⟨2, 1610612736, some 30⟩), (3, false, ⟨4, 3221225476, some 31⟩), (4, false, ⟨12, 7516192768, some 32⟩), (5, false, ⟨4, 9663676418, some 33⟩), (6, false, ⟨36, 26843545600, some 34⟩), (7, false, ⟨84, 56908316672, some 35⟩), (8, false, ⟨132, 104152956928, some 36⟩), (9, false, ⟨260, 207232172032, some 37⟩), (10, false, ⟨4, 275951648800, some 38⟩), (11, false, ⟨1028, 825707462656, some 39⟩), (12, false, ⟨2564, 1787780136960, some 40⟩), (13, false, ⟨4100, 3299608625152, some 41⟩), (14, false, ⟨8196, 2199157473280, some 27⟩)] else [], sq := fun i => bif Nat.beq i 4 then some (.rd true 0 (.rd true 1 (.rd true 2 (.rd true 3 (.rd false 4 (.rd true 5 (.rd true 6 (.rd true 7 (.rd true 8 (.rd false 9 (.rd true 10 (.rd false 11 (.rd true 12 (.rd true 13 (.rd true 14 .done))))))))))))))) else none }
theorem graph_Graph_root_eq (t0 t1 : Value) (w : World) (K : K1) : reads Try.prog graph_Graph_root_ann Try.f27 #[t0, t1] w K = graph_Graph_root K t0 t1 w := by kernel_rfl
theorem graph_Graph_root_of {t0 t1 : Value} {w : World} {K : K1} (h : graph_Graph_root K t0 t1 w) : Yld Try.prog n_graph_Graph_root #[t0, t1] w K :=
  yld_of mixed graph_Graph_root_ann Try.func27 (by kernel_rfl) (graph_Graph_root_eq t0 t1 w K) h

/-! loam/loamref17.Good: function 28 -/
/-! slices.Clone[[]int,int]: function 29 -/
def slices_Clone_int_int (K : K1) (t0 : Value) (w : World) : Prop :=
 xBin Try.prog .eql 26 false t0 true (.slice none 0 0) w fun t4 w =>
 xIf t4
 (K (.slice none 0 0) w)
 (xBuildSlice Try.prog 26 0 [] w fun t5 w =>
 xBuiltin Try.prog .append #[26, 26] 26 [false, false] [t5, t0] w fun t7 w =>
 K t7 w)
abbrev n_slices_Clone_int_int : Nat := 29
def slices_Clone_int_int_ann : Ann := { loop := fun i => [], wr := fun i => [], told := fun i => [] }
theorem slices_Clone_int_int_eq (t0 : Value) (w : World) (K : K1) : reads Try.prog slices_Clone_int_int_ann Try.f29 #[t0] w K = slices_Clone_int_int K t0 w := by kernel_rfl
theorem slices_Clone_int_int_of {t0 : Value} {w : World} {K : K1} (h : slices_Clone_int_int K t0 w) : Yld Try.prog n_slices_Clone_int_int #[t0] w K :=
  yld_of mixed slices_Clone_int_int_ann Try.func29 (by kernel_rfl) (slices_Clone_int_int_eq t0 w K) h

/-! loam/graph.Trim$1: function 30 -/
def graph_Trim_1 (K : K1) (t0 t1 : Value) (w : World) : Prop :=
 xBin Try.prog .lss 3 false t0 true (.int .i64 1) w fun t5 w =>
 xGuard t5 false (fun w K => K t0 w) w fun t7 w =>
 xGuard t5 false (fun w K => xLoad Try.prog 26 t1 w K) w fun t8 w =>
 xGuard t5 false (fun w K => xBuiltin Try.prog .len #[26] 3 [false] [t8] w K) w fun t9 w =>
 xGuard t5 false (fun w K => xBin Try.prog .gtr 3 false t7 false t9 w K) w fun t10 w =>
 xPick t5 (.bool true) t10 w fun t11 w =>
 xIf t11
 (K (.int .i64 0) w)
 (xLoad Try.prog 26 t1 w fun t12 w =>
 xBin Try.prog .sub 3 false t0 true (.int .i64 1) w fun t14 w =>
 xIndexAddr Try.prog 26 t12 t14 w fun t15 w =>
 xLoad Try.prog 3 t15 w fun t16 w =>
 K t16 w)
abbrev n_graph_Trim_1 : Nat := 30
def graph_Trim_1_ann : Ann := { loop := fun i => [], wr := fun i => [], told := fun i => [] }
theorem graph_Trim_1_eq (t0 t1 : Value) (w : World) (K : K1) : reads Try.prog graph_Trim_1_ann Try.f30 #[t0, t1] w K = graph_Trim_1 K t0 t1 w := by kernel_rfl
theorem graph_Trim_1_of {t0 t1 : Value} {w : World} {K : K1} (h : graph_Trim_1 K t0 t1 w) : Yld Try.prog n_graph_Trim_1 #[t0, t1] w K :=
  yld_of mixed graph_Trim_1_ann Try.func30 (by kernel_rfl) (graph_Trim_1_eq t0 t1 w K) h

/-! (loam/graph.Node).apart: function 31 -/
def graph_Node_apart_l1 (K : K1) (nxt0 : List Value → World → Prop) (t1 t4 t5 t14 t15 t16 : Value) (w : World) : Prop :=
 xBin Try.prog .lss 3 false t16 false t15 w fun t17_1 w =>
 xIf t17_1
 (xIndexAddr Try.prog 26 t14 t16 w fun t18_1 w =>
 xLoad Try.prog 3 t18_1 w fun t19_1 w =>
 xSq w.drew fun w =>
 xPur w (fun w K => xFieldAddr Try.prog 53 t5 0 w K) fun t20_1 =>
 xRd w (fun K => xLoad Try.prog 26 t20_1 w K) fun t21_1 =>
 xPur w (fun w K => K t1 w) fun t22_1 =>
 xPur w (fun w K => K t19_1 w) fun t23_1 =>
 xCall Try.prog t22_1 [t23_1] w fun t24_1 w =>
 xRe w (fun K => xLoad Try.prog 26 t20_1 w K) t21_1 (
 xBuildSlice Try.prog 26 1 [(0, t24_1)] w fun t25_1 w =>
 xRe w (fun K => xLoad Try.prog 26 t20_1 w K) t21_1 (
 xBuiltin Try.prog .append #[26, 26] 26 [false, false] [t21_1, t25_1] w fun t26_1 w =>
 xPur w (fun w K => xFieldAddr Try.prog 53 t5 0 w K) fun t27_1 =>
 xStore Try.prog 26 t27_1 t26_1 w fun _x8 w =>
 xBin Try.prog .add 3 false t16 true (.int .i64 1) w fun t28_1 w =>
 nxt0 [t28_1] w)))
 (xFieldAddr Try.prog 53 t5 0 w fun t29 w =>
 xLoad Try.prog 26 t29 w fun t30 w =>
 xCall Try.prog (fnv 36) [t30] w fun t31 w =>
 xFieldAddr Try.prog 53 t5 0 w fun t32 w =>
 xStore Try.prog 26 t32 t31 w fun _ w =>
 xLoad Try.prog 53 t5 w fun t33 w =>
 xStore Try.prog 53 t4 t33 w fun _ w =>
 xLoadR Try.prog 53 t4 w fun r0 =>
 K r0 w)
def graph_Node_apart (K : K1) (t0 t1 : Value) (w : World) : Prop :=
 xBox Try.prog 53 t0 w fun t2 w =>
 xAlloc Try.prog 53 w fun t4 w =>
 xFieldAddr Try.prog 53 t2 1 w fun t8 w =>
 xLoad Try.prog 51 t8 w fun t9 w =>
 xCall Try.prog (fnv 48) [t9] w fun t10 w =>
 xCall Try.prog (fnv 47) [t10] w fun t11 w =>
 xBuild Try.prog 53 [(1, t11)] w fun t12 w =>
 xAlloc Try.prog 53 w fun t5 w =>
 xStore Try.prog 53 t5 t12 w fun _ w =>
 xFieldAddr Try.prog 53 t2 0 w fun t13 w =>
 xLoad Try.prog 26 t13 w fun t14 w =>
 xBuiltin Try.prog .len #[26] 3 [false] [t14] w fun t15 w =>
 xLoop [(.int .i64 0)] w [16] fun u w nxt0 =>
 graph_Node_apart_l1 K nxt0 t1 t4 t5 t14 t15 (u 16) w
abbrev n_graph_Node_apart : Nat := 31
def graph_Node_apart_ann : Ann := { loop := fun i => bif Nat.beq i 0 then [16] else [], wr := fun i => bif Nat.beq i 0 then [7, 16, 17, 18, 19, 20, 21, 22, 23, 24, 25, 26, 27, 28] else [], told := fun i => bif Nat.beq i 5 then [(0, false, ⟨0, 1048608, some 20⟩), (1, false, ⟨1, 3145728, some 21⟩), (2, false, ⟨0, 4194306, some 22⟩), (3, false, ⟨0, 8388736, some 23⟩), (4, false, ⟨12, 29360128, some 24⟩), (5, false, ⟨16, 50331648, some 25⟩), (6, false, ⟨50, 102760448, some 26⟩), (7, false, ⟨127, 134217760, some 27⟩), (8, false, ⟨255, 201326592, none⟩)] else [], sq := fun i => bif Nat.beq i 5 then some (.rd true 0 (.rd false 1 (.rd true 2 (.rd true 3 (.ef 4 [1] (.ef 5 [1] (.ef 6 [] (.rd true 7 (.ef 8 [] .done))))))))) else none }
theorem graph_Node_apart_eq (t0 t1 : Value) (w : World) (K : K1) : reads Try.prog graph_Node_apart_ann Try.f31 #[t0, t1] w K = graph_Node_apart K t0 t1 w := by kernel_rfl
theorem graph_Node_apart_of {t0 t1 : Value} {w : World} {K : K1} (h : graph_Node_apart K t0 t1 w) : Yld Try.prog n_graph_Node_apart #[t0, t1] w K :=
  yld_of mixed graph_Node_apart_ann Try.func31 (by kernel_rfl) (graph_Node_apart_eq t0 t1 w K) h

/-! loam/loamref17.Pick: function 32 -/
/-! loam/loamlaw15.ints: function 33 -/
/-! loam/head.Size: function 34 -/
def head_Size (K : K1) (t0 : Value) (w : World) : Prop :=
 xBox Try.prog 70 t0 w fun t1 w =>
 xLoad Try.prog 70 t1 w fun t3 w =>
 xCall Try.prog (fnv 49) [t3] w fun t4 w =>
 xUn Try.prog .not t4 w fun t5 w =>
 xGuard t5 false (fun w K => xFieldAddr Try.prog 70 t1 2 w K) w fun t7 w =>
 xGuard t5 false (fun w K => xLoad Try.prog 4 t7 w K) w fun t8 w =>
 xPick t5 (.bool true) t8 w fun t9 w =>
 xIf t9
 (K (.int .i64 0) w)
 (xFieldAddr Try.prog 70 t1 0 w fun t10 w =>
 xLoad Try.prog 3 t10 w fun t11 w =>
 xBin Try.prog .add 3 true (.int .i64 1) false t11 w fun t12 w =>
 xFieldAddr Try.prog 70 t1 1 w fun t13 w =>
 xLoad Try.prog 3 t13 w fun t14 w =>
 xBin Try.prog .add 3 false t14 true (.int .i64 8) w fun t15 w =>
 xBin Try.prog .sub 3 false t15 true (.int .i64 1) w fun t16 w =>
 xBin Try.prog .quo 3 false t16 true (.int .i64 8) w fun t17 w =>
 xBin Try.prog .add 3 false t12 false t17 w fun t18 w =>
 K t18 w)
abbrev n_head_Size : Nat := 34
def head_Size_ann : Ann := { loop := fun i => [], wr := fun i => [], told := fun i => [] }
theorem head_Size_eq (t0 : Value) (w : World) (K : K1) : reads Try.prog head_Size_ann Try.f34 #[t0] w K = head_Size K t0 w := by kernel_rfl
theorem head_Size_of {t0 : Value} {w : World} {K : K1} (h : head_Size K t0 w) : Yld Try.prog n_head_Size #[t0] w K :=
  yld_of mixed head_Size_ann Try.func34 (by kernel_rfl) (head_Size_eq t0 w K) h

/-! loam/loamref17.size: function 35 -/
/-! slices.Clip[[]int,int]: function 36 -/
def slices_Clip_int_int (K : K1) (t0 : Value) (w : World) : Prop :=
 xBuiltin Try.prog .len #[26] 3 [false] [t0] w fun t5 w =>
 xBuiltin Try.prog .len #[26] 3 [false] [t0] w fun t7 w =>
 xSlice Try.prog 26 t0 none (some t5) (some t7) w fun t8 w =>
 K t8 w
abbrev n_slices_Clip_int_int : Nat := 36
def slices_Clip_int_int_ann : Ann := { loop := fun i => [], wr := fun i => [], told := fun i => [] }
theorem slices_Clip_int_int_eq (t0 : Value) (w : World) (K : K1) : reads Try.prog slices_Clip_int_int_ann Try.f36 #[t0] w K = slices_Clip_int_int K t0 w := by kernel_rfl
theorem slices_Clip_int_int_of {t0 : Value} {w : World} {K : K1} (h : slices_Clip_int_int K t0 w) : Yld Try.prog n_slices_Clip_int_int #[t0] w K :=
  yld_of mixed slices_Clip_int_int_ann Try.func36 (by kernel_rfl) (slices_Clip_int_int_eq t0 w K) h

/-! loam/graph.Twin$1: function 37 -/
def graph_Twin_1 (K : K1) (t0 : Value) (w : World) : Prop :=
 K t0 w
abbrev n_graph_Twin_1 : Nat := 37
def graph_Twin_1_ann : Ann := { loop := fun i => [], wr := fun i => [], told := fun i => [] }
theorem graph_Twin_1_eq (t0 : Value) (w : World) (K : K1) : reads Try.prog graph_Twin_1_ann Try.f37 #[t0] w K = graph_Twin_1 K t0 w := by kernel_rfl
theorem graph_Twin_1_of {t0 : Value} {w : World} {K : K1} (h : graph_Twin_1 K t0 w) : Yld Try.prog n_graph_Twin_1 #[t0] w K :=
  yld_of mixed graph_Twin_1_ann Try.func37 (by kernel_rfl) (graph_Twin_1_eq t0 w K) h

/-! slices.Clip[[]loam/graph.Root,loam/graph.Root]: function 38 -/
def slices_Clip_graph_Root_graph_Root (K : K1) (t0 : Value) (w : World) : Prop :=
 xBuiltin Try.prog .len #[23] 3 [false] [t0] w fun t5 w =>
 xBuiltin Try.prog .len #[23] 3 [false] [t0] w fun t7 w =>
 xSlice Try.prog 23 t0 none (some t5) (some t7) w fun t8 w =>
 K t8 w
abbrev n_slices_Clip_graph_Root_graph_Root : Nat := 38
def slices_Clip_graph_Root_graph_Root_ann : Ann := { loop := fun i => [], wr := fun i => [], told := fun i => [] }
theorem slices_Clip_graph_Root_graph_Root_eq (t0 : Value) (w : World) (K : K1) : reads Try.prog slices_Clip_graph_Root_graph_Root_ann Try.f38 #[t0] w K = slices_Clip_graph_Root_graph_Root K t0 w := by kernel_rfl
theorem slices_Clip_graph_Root_graph_Root_of {t0 : Value} {w : World} {K : K1} (h : slices_Clip_graph_Root_graph_Root K t0 w) : Yld Try.prog n_slices_Clip_graph_Root_graph_Root #[t0] w K :=
  yld_of mixed slices_Clip_graph_Root_graph_Root_ann Try.func38 (by kernel_rfl) (slices_Clip_graph_Root_graph_Root_eq t0 w K) h

/-! slices.Clone[[]loam/graph.Root,loam/graph.Root]: function 39 -/
def slices_Clone_graph_Root_graph_Root (K : K1) (t0 : Value) (w : World) : Prop :=
 xBin Try.prog .eql 23 false t0 true (.slice none 0 0) w fun t4 w =>
 xIf t4
 (K (.slice none 0 0) w)
 (xBuildSlice Try.prog 23 0 [] w fun t5 w =>
 xBuiltin Try.prog .append #[23, 23] 23 [false, false] [t5, t0] w fun t7 w =>
 K t7 w)
abbrev n_slices_Clone_graph_Root_graph_Root : Nat := 39
def slices_Clone_graph_Root_graph_Root_ann : Ann := { loop := fun i => [], wr := fun i => [], told := fun i => [] }
theorem slices_Clone_graph_Root_graph_Root_eq (t0 : Value) (w : World) (K : K1) : reads Try.prog slices_Clone_graph_Root_graph_Root_ann Try.f39 #[t0] w K = slices_Clone_graph_Root_graph_Root K t0 w := by kernel_rfl
theorem slices_Clone_graph_Root_graph_Root_of {t0 : Value} {w : World} {K : K1} (h : slices_Clone_graph_Root_graph_Root K t0 w) : Yld Try.prog n_slices_Clone_graph_Root_graph_Root #[t0] w K :=
  yld_of mixed slices_Clone_graph_Root_graph_Root_ann Try.func39 (by kernel_rfl) (slices_Clone_graph_Root_graph_Root_eq t0 w K) h

/-! slices.Clip[[]loam/graph.Node,loam/graph.Node]: function 40 -/
def slices_Clip_graph_Node_graph_Node (K : K1) (t0 : Value) (w : World) : Prop :=
 xBuiltin Try.prog .len #[22] 3 [false] [t0] w fun t5 w =>
 xBuiltin Try.prog .len #[22] 3 [false] [t0] w fun t7 w =>
 xSlice Try.prog 22 t0 none (some t5) (some t7) w fun t8 w =>
 K t8 w
abbrev n_slices_Clip_graph_Node_graph_Node : Nat := 40
def slices_Clip_graph_Node_graph_Node_ann : Ann := { loop := fun i => [], wr := fun i => [], told := fun i => [] }
theorem slices_Clip_graph_Node_graph_Node_eq (t0 : Value) (w : World) (K : K1) : reads Try.prog slices_Clip_graph_Node_graph_Node_ann Try.f40 #[t0] w K = slices_Clip_graph_Node_graph_Node K t0 w := by kernel_rfl
theorem slices_Clip_graph_Node_graph_Node_of {t0 : Value} {w : World} {K : K1} (h : slices_Clip_graph_Node_graph_Node K t0 w) : Yld Try.prog n_slices_Clip_graph_Node_graph_Node #[t0] w K :=
  yld_of mixed slices_Clip_graph_Node_graph_Node_ann Try.func40 (by kernel_rfl) (slices_Clip_graph_Node_graph_Node_eq t0 w K) h

/-! slices.EqualFunc[[]loam/graph.Node,[]loam/graph.Node,loam/graph.Node,loam/graph.Node]: function 41 -/
def slices_EqualFunc_graph_Node_graph_Node_graph_Node_graph_Node_l1 (K : K1) (nxt0 : List Value → World → Prop) (t1 t2 t15 t16 t17 : Value) (w : World) : Prop :=
 xBin Try.prog .lss 3 false t17 false t16 w fun t18_1 w =>
 xIf t18_1
 (xIndexAddr Try.prog 22 t15 t17 w fun t20_1 w =>
 xLoad Try.prog 53 t20_1 w fun t21_1 w =>
 xAlloc Try.prog 53 w fun t8_1 w =>
 xStore Try.prog 53 t8_1 t21_1 w fun _ w =>
 xIndexAddr Try.prog 22 t1 t17 w fun t24_1 w =>
 xLoad Try.prog 53 t24_1 w fun t25_1 w =>
 xAlloc Try.prog 53 w fun t9_1 w =>
 xStore Try.prog 53 t9_1 t25_1 w fun _ w =>
 xLoad Try.prog 53 t8_1 w fun t27_1 w =>
 xLoad Try.prog 53 t9_1 w fun t28_1 w =>
 xCall Try.prog t2 [t27_1, t28_1] w fun t29_1 w =>
 xUn Try.prog .not t29_1 w fun t30_1 w =>
 xIf t30_1
 (K (.bool false) w)
 (xBin Try.prog .add 3 false t17 true (.int .i64 1) w fun t31_1 w =>
 nxt0 [t31_1] w))
 (K (.bool true) w)
def slices_EqualFunc_graph_Node_graph_Node_graph_Node_graph_Node (K : K1) (t0 t1 t2 : Value) (w : World) : Prop :=
 xBuiltin Try.prog .len #[22] 3 [false] [t0] w fun t11 w =>
 xBuiltin Try.prog .len #[22] 3 [false] [t1] w fun t13 w =>
 xBin Try.prog .neq 3 false t11 false t13 w fun t14 w =>
 xIf t14
 (K (.bool false) w)
 (xBuiltin Try.prog .len #[22] 3 [false] [t0] w fun t16 w =>
 xLoop [(.int .i64 0)] w [17] fun u w nxt0 =>
 slices_EqualFunc_graph_Node_graph_Node_graph_Node_graph_Node_l1 K nxt0 t1 t2 t0 t16 (u 17) w)
abbrev n_slices_EqualFunc_graph_Node_graph_Node_graph_Node_graph_Node : Nat := 41
def slices_EqualFunc_graph_Node_graph_Node_graph_Node_graph_Node_ann : Ann := { loop := fun i => bif Nat.beq i 0 then [17] else [], wr := fun i => bif Nat.beq i 0 then [6, 7, 8, 9, 17, 18, 19, 20, 21, 22, 23, 24, 25, 26, 27, 28, 29, 30, 31] else [], told := fun i => [] }
theorem slices_EqualFunc_graph_Node_graph_Node_graph_Node_graph_Node_eq (t0 t1 t2 : Value) (w : World) (K : K1) : reads Try.prog slices_EqualFunc_graph_Node_graph_Node_graph_Node_graph_Node_ann Try.f41 #[t0, t1, t2] w K = slices_EqualFunc_graph_Node_graph_Node_graph_Node_graph_Node K t0 t1 t2 w := by kernel_rfl
theorem slices_EqualFunc_graph_Node_graph_Node_graph_Node_graph_Node_of {t0 t1 t2 : Value} {w : World} {K : K1} (h : slices_EqualFunc_graph_Node_graph_Node_graph_Node_graph_Node K t0 t1 t2 w) : Yld Try.prog n_slices_EqualFunc_graph_Node_graph_Node_graph_Node_graph_Node #[t0, t1, t2] w K :=
  yld_of mixed slices_EqualFunc_graph_Node_graph_Node_graph_Node_graph_Node_ann Try.func41 (by kernel_rfl) (slices_EqualFunc_graph_Node_graph_Node_graph_Node_graph_Node_eq t0 t1 t2 w K) h

/-! loam/graph.Equal$1: function 42 -/
def graph_Equal_1 (K : K1) (t0 t1 : Value) (w : World) : Prop :=
 xBox Try.prog 53 t0 w fun t2 w =>
 xBox Try.prog 53 t1 w fun t3 w =>
 xFieldAddr Try.prog 53 t2 0 w fun t5 w =>
 xLoad Try.prog 26 t5 w fun t6 w =>
 xFieldAddr Try.prog 53 t3 0 w fun t7 w =>
 xLoad Try.prog 26 t7 w fun t8 w =>
 xCall Try.prog (fnv 43) [t6, t8] w fun t9 w =>
 xGuard t9 true (fun w K => xFieldAddr Try.prog 53 t2 1 w K) w fun t11 w =>
 xGuard t9 true (fun w K => xLoad Try.prog 51 t11 w K) w fun t12 w =>
 xGuard t9 true (fun w K => xFieldAddr Try.prog 53 t3 1 w K) w fun t13 w =>
 xGuard t9 true (fun w K => xLoad Try.prog 51 t13 w K) w fun t14 w =>
 xGuard t9 true (fun w K => xCall Try.prog (fnv 44) [t12, t14] w K) w fun t15 w =>
 xPick t9 t15 (.bool false) w fun t16 w =>
 K t16 w
abbrev n_graph_Equal_1 : Nat := 42
def graph_Equal_1_ann : Ann := { loop := fun i => [], wr := fun i => [], told := fun i => [] }
theorem graph_Equal_1_eq (t0 t1 : Value) (w : World) (K : K1) : reads Try.prog graph_Equal_1_ann Try.f42 #[t0, t1] w K = graph_Equal_1 K t0 t1 w := by kernel_rfl
theorem graph_Equal_1_of {t0 t1 : Value} {w : World} {K : K1} (h : graph_Equal_1 K t0 t1 w) : Yld Try.prog n_graph_Equal_1 #[t0, t1] w K :=
  yld_of mixed graph_Equal_1_ann Try.func42 (by kernel_rfl) (graph_Equal_1_eq t0 t1 w K) h

/-! slices.Equal[[]int,int]: function 43 -/
def slices_Equal_int_int_l1 (K : K1) (nxt0 : List Value → World → Prop) (t0 t1 t12 t13 : Value) (w : World) : Prop :=
 xBin Try.prog .lss 3 false t13 false t12 w fun t14_1 w =>
 xIf t14_1
 (xSq w.drew fun w =>
 xPur w (fun w K => K t0 w) fun t16_1 =>
 xPur w (fun w K => K t13 w) fun t17_1 =>
 xPur w (fun w K => xIndexAddr Try.prog 26 t16_1 t17_1 w K) fun t18_1 =>
 xRd w (fun K => xLoad Try.prog 3 t18_1 w K) fun t19_1 =>
 xPur w (fun w K => K t1 w) fun t20_1 =>
 xPur w (fun w K => K t13 w) fun t21_1 =>
 xPur w (fun w K => xIndexAddr Try.prog 26 t20_1 t21_1 w K) fun t22_1 =>
 xRd w (fun K => xLoad Try.prog 3 t22_1 w K) fun t23_1 =>
 xPur w (fun w K => xBin Try.prog .neq 3 false t19_1 false t23_1 w K) fun t24_1 =>
 xIf t24_1
 (K (.bool false) w)
 (xBin Try.prog .add 3 false t13 true (.int .i64 1) w fun t25_1 w =>
 nxt0 [t25_1] w))
 (K (.bool true) w)
def slices_Equal_int_int (K : K1) (t0 t1 : Value) (w : World) : Prop :=
 xBuiltin Try.prog .len #[26] 3 [false] [t0] w fun t7 w =>
 xBuiltin Try.prog .len #[26] 3 [false] [t1] w fun t9 w =>
 xBin Try.prog .neq 3 false t7 false t9 w fun t10 w =>
 xIf t10
 (K (.bool false) w)
 (xBuiltin Try.prog .len #[26] 3 [false] [t0] w fun t12 w =>
 xLoop [(.int .i64 0)] w [13] fun u w nxt0 =>
 slices_Equal_int_int_l1 K nxt0 t0 t1 t12 (u 13) w)
abbrev n_slices_Equal_int_int : Nat := 43
def slices_Equal_int_int_ann : Ann := { loop := fun i => bif Nat.beq i 0 then [13] else [], wr := fun i => bif Nat.beq i 0 then [4, 5, 13, 14, 15, 16, 17, 18, 19, 20, 21, 22, 23, 24, 25] else [], told := fun i => bif Nat.beq i 6 then [(0, false, ⟨0, 65537, some 16⟩), (1, false, ⟨0, 131104, some 17⟩), (2, false, ⟨3, 458752, some 18⟩), (3, false, ⟨4, 786432, some 19⟩), (4, false, ⟨0, 1048578, some 20⟩), (5, false, ⟨0, 2097184, some 21⟩), (6, false, ⟨48, 7340032, some 22⟩), (7, false, ⟨64, 12582912, some 23⟩), (8, false, ⟨136, 25690112, some 24⟩)] else [], sq := fun i => bif Nat.beq i 6 then some (.rd true 0 (.rd true 1 (.rd true 2 (.rd false 3 (.rd true 4 (.rd true 5 (.rd true 6 (.rd false 7 (.rd true 8 .done))))))))) else none }
theorem slices_Equal_int_int_eq (t0 t1 : Value) (w : World) (K : K1) : reads Try.prog slices_Equal_int_int_ann Try.f43 #[t0, t1] w K = slices_Equal_int_int K t0 t1 w := by kernel_rfl
theorem slices_Equal_int_int_of {t0 t1 : Value} {w : World} {K : K1} (h : slices_Equal_int_int K t0 t1 w) : Yld Try.prog n_slices_Equal_int_int #[t0, t1] w K :=
  yld_of mixed slices_Equal_int_int_ann Try.func43 (by kernel_rfl) (slices_Equal_int_int_eq t0 t1 w K) h

/-! bytes.Equal: function 44 -/
def bytes_Equal (K : K1) (t0 t1 : Value) (w : World) : Prop :=
 xConv Try.prog 51 9 t0 w fun t6 w =>
 xConv Try.prog 51 9 t1 w fun t8 w =>
 xBin Try.prog .eql 9 false t6 false t8 w fun t9 w =>
 K t9 w
abbrev n_bytes_Equal : Nat := 44
def bytes_Equal_ann : Ann := { loop := fun i => [], wr := fun i => [], told := fun i => [] }
theorem bytes_Equal_eq (t0 t1 : Value) (w : World) (K : K1) : reads Try.prog bytes_Equal_ann Try.f44 #[t0, t1] w K = bytes_Equal K t0 t1 w := by kernel_rfl
theorem bytes_Equal_of {t0 t1 : Value} {w : World} {K : K1} (h : bytes_Equal K t0 t1 w) : Yld Try.prog n_bytes_Equal #[t0, t1] w K :=
  yld_of mixed bytes_Equal_ann Try.func44 (by kernel_rfl) (bytes_Equal_eq t0 t1 w K) h

/-! slices.Equal[[]loam/graph.Root,loam/graph.Root]: function 45 -/
def slices_Equal_graph_Root_graph_Root_l1 (K : K1) (nxt0 : List Value → World → Prop) (t0 t1 t12 t13 : Value) (w : World) : Prop :=
 xBin Try.prog .lss 3 false t13 false t12 w fun t14_1 w =>
 xIf t14_1
 (xSq w.drew fun w =>
 xPur w (fun w K => K t0 w) fun t16_1 =>
 xPur w (fun w K => K t13 w) fun t17_1 =>
 xPur w (fun w K => xIndexAddr Try.prog 23 t16_1 t17_1 w K) fun t18_1 =>
 xRd w (fun K => xLoad Try.prog 58 t18_1 w K) fun t19_1 =>
 xPur w (fun w K => K t1 w) fun t20_1 =>
 xPur w (fun w K => K t13 w) fun t21_1 =>
 xPur w (fun w K => xIndexAddr Try.prog 23 t20_1 t21_1 w K) fun t22_1 =>
 xRd w (fun K => xLoad Try.prog 58 t22_1 w K) fun t23_1 =>
 xPur w (fun w K => xBin Try.prog .neq 58 false t19_1 false t23_1 w K) fun t24_1 =>
 xIf t24_1
 (K (.bool false) w)
 (xBin Try.prog .add 3 false t13 true (.int .i64 1) w fun t25_1 w =>
 nxt0 [t25_1] w))
 (K (.bool true) w)
def slices_Equal_graph_Root_graph_Root (K : K1) (t0 t1 : Value) (w : World) : Prop :=
 xBuiltin Try.prog .len #[23] 3 [false] [t0] w fun t7 w =>
 xBuiltin Try.prog .len #[23] 3 [false] [t1] w fun t9 w =>
 xBin Try.prog .neq 3 false t7 false t9 w fun t10 w =>
 xIf t10
 (K (.bool false) w)
 (xBuiltin Try.prog .len #[23] 3 [false] [t0] w fun t12 w =>
 xLoop [(.int .i64 0)] w [13] fun u w nxt0 =>
 slices_Equal_graph_Root_graph_Root_l1 K nxt0 t0 t1 t12 (u 13) w)
abbrev n_slices_Equal_graph_Root_graph_Root : Nat := 45
def slices_Equal_graph_Root_graph_Root_ann : Ann := { loop := fun i => bif Nat.beq i 0 then [13] else [], wr := fun i => bif Nat.beq i 0 then [4, 5, 13, 14, 15, 16, 17, 18, 19, 20, 21, 22, 23, 24, 25] else [], told := fun i => bif Nat.beq i 6 then [(0, false, ⟨0, 65537, some 16⟩), (1, false, ⟨0, 131104, some 17⟩), (2, false, ⟨3, 458752, some 18⟩), (3, false, ⟨4, 786432, some 19⟩), (4, false, ⟨0, 1048578, some 20⟩), (5, false, ⟨0, 2097184, some 21⟩), (6, false, ⟨48, 7340032, some 22⟩), (7, false, ⟨64, 12582912, some 23⟩), (8, false, ⟨136, 25690112, some 24⟩)] else [], sq := fun i => bif Nat.beq i 6 then some (.rd true 0 (.rd true 1 (.rd true 2 (.rd false 3 (.rd true 4 (.rd true 5 (.rd true 6 (.rd false 7 (.rd true 8 .done))))))))) else none }
theorem slices_Equal_graph_Root_graph_Root_eq (t0 t1 : Value) (w : World) (K : K1) : reads Try.prog slices_Equal_graph_Root_graph_Root_ann Try.f45 #[t0, t1] w K = slices_Equal_graph_Root_graph_Root K t0 t1 w := by kernel_rfl
theorem slices_Equal_graph_Root_graph_Root_of {t0 t1 : Value} {w : World} {K : K1} (h : slices_Equal_graph_Root_graph_Root K t0 t1 w) : Yld Try.prog n_slices_Equal_graph_Root_graph_Root #[t0, t1] w K :=
  yld_of mixed slices_Equal_graph_Root_graph_Root_ann Try.func45 (by kernel_rfl) (slices_Equal_graph_Root_graph_Root_eq t0 t1 w K) h

/-! strings.Contains: function 46 -/
def strings_Contains (K : K1) (t0 t1 : Value) (w : World) : Prop :=
 xCall Try.prog (fnv 51) [t0, t1] w fun t7 w =>
 xBin Try.prog .geq 3 false t7 true (.int .i64 0) w fun t8 w =>
 K t8 w
abbrev n_strings_Contains : Nat := 46
def strings_Contains_ann : Ann := { loop := fun i => [], wr := fun i => [], told := fun i => [] }
theorem strings_Contains_eq (t0 t1 : Value) (w : World) (K : K1) : reads Try.prog strings_Contains_ann Try.f46 #[t0, t1] w K = strings_Contains K t0 t1 w := by kernel_rfl
theorem strings_Contains_of {t0 t1 : Value} {w : World} {K : K1} (h : strings_Contains K t0 t1 w) : Yld Try.prog n_strings_Contains #[t0, t1] w K :=
  yld_of mixed strings_Contains_ann Try.func46 (by kernel_rfl) (strings_Contains_eq t0 t1 w K) h

/-! slices.Clip[[]byte,byte]: function 47 -/
def slices_Clip_byte_byte (K : K1) (t0 : Value) (w : World) : Prop :=
 xBuiltin Try.prog .len #[51] 3 [false] [t0] w fun t5 w =>
 xBuiltin Try.prog .len #[51] 3 [false] [t0] w fun t7 w =>
 xSlice Try.prog 51 t0 none (some t5) (some t7) w fun t8 w =>
 K t8 w
abbrev n_slices_Clip_byte_byte : Nat := 47
def slices_Clip_byte_byte_ann : Ann := { loop := fun i => [], wr := fun i => [], told := fun i => [] }
theorem slices_Clip_byte_byte_eq (t0 : Value) (w : World) (K : K1) : reads Try.prog slices_Clip_byte_byte_ann Try.f47 #[t0] w K = slices_Clip_byte_byte K t0 w := by kernel_rfl
theorem slices_Clip_byte_byte_of {t0 : Value} {w : World} {K : K1} (h : slices_Clip_byte_byte K t0 w) : Yld Try.prog n_slices_Clip_byte_byte #[t0] w K :=
  yld_of mixed slices_Clip_byte_byte_ann Try.func47 (by kernel_rfl) (slices_Clip_byte_byte_eq t0 w K) h

/-! slices.Clone[[]byte,byte]: function 48 -/
def slices_Clone_byte_byte (K : K1) (t0 : Value) (w : World) : Prop :=
 xBin Try.prog .eql 51 false t0 true (.slice none 0 0) w fun t4 w =>
 xIf t4
 (K (.slice none 0 0) w)
 (xBuildSlice Try.prog 51 0 [] w fun t5 w =>
 xBuiltin Try.prog .append #[51, 51] 51 [false, false] [t5, t0] w fun t7 w =>
 K t7 w)
abbrev n_slices_Clone_byte_byte : Nat := 48
def slices_Clone_byte_byte_ann : Ann := { loop := fun i => [], wr := fun i => [], told := fun i => [] }
theorem slices_Clone_byte_byte_eq (t0 : Value) (w : World) (K : K1) : reads Try.prog slices_Clone_byte_byte_ann Try.f48 #[t0] w K = slices_Clone_byte_byte K t0 w := by kernel_rfl
theorem slices_Clone_byte_byte_of {t0 : Value} {w : World} {K : K1} (h : slices_Clone_byte_byte K t0 w) : Yld Try.prog n_slices_Clone_byte_byte #[t0] w K :=
  yld_of mixed slices_Clone_byte_byte_ann Try.func48 (by kernel_rfl) (slices_Clone_byte_byte_eq t0 w K) h

/-! loam/head.Right: function 49 -/
def head_Right (K : K1) (t0 : Value) (w : World) : Prop :=
 xBox Try.prog 70 t0 w fun t1 w =>
 xFieldAddr Try.prog 70 t1 2 w fun t3 w =>
 xLoad Try.prog 4 t3 w fun t4 w =>
 xIf t4
 (xFieldAddr Try.prog 70 t1 0 w fun t5 w =>
 xLoad Try.prog 3 t5 w fun t6 w =>
 xBin Try.prog .eql 3 false t6 true (.int .i64 0) w fun t7 w =>
 xGuard t7 true (fun w K => xFieldAddr Try.prog 70 t1 1 w K) w fun t9 w =>
 xGuard t7 true (fun w K => xLoad Try.prog 3 t9 w K) w fun t10 w =>
 xGuard t7 true (fun w K => xBin Try.prog .eql 3 false t10 true (.int .i64 0) w K) w fun t11 w =>
 xPick t7 t11 (.bool false) w fun t12 w =>
 xGuard t12 true (fun w K => xFieldAddr Try.prog 70 t1 3 w K) w fun t14 w =>
 xGuard t12 true (fun w K => xLoad Try.prog 3 t14 w K) w fun t15 w =>
 xGuard t12 true (fun w K => xBin Try.prog .geq 3 false t15 true (.int .i64 0) w K) w fun t16 w =>
 xPick t12 t16 (.bool false) w fun t17 w =>
 xGuard t17 true (fun w K => xFieldAddr Try.prog 70 t1 3 w K) w fun t19 w =>
 xGuard t17 true (fun w K => xLoad Try.prog 3 t19 w K) w fun t20 w =>
 xGuard t17 true (fun w K => xBin Try.prog .lss 3 false t20 true (.int .i64 8192) w K) w fun t21 w =>
 xPick t17 t21 (.bool false) w fun t22 w =>
 K t22 w)
 (xFieldAddr Try.prog 70 t1 3 w fun t23 w =>
 xLoad Try.prog 3 t23 w fun t24 w =>
 xBin Try.prog .eql 3 false t24 true (.int .i64 0) w fun t25 w =>
 xGuard t25 true (fun w K => xFieldAddr Try.prog 70 t1 0 w K) w fun t27 w =>
 xGuard t25 true (fun w K => xLoad Try.prog 3 t27 w K) w fun t28 w =>
 xGuard t25 true (fun w K => xBin Try.prog .geq 3 false t28 true (.int .i64 0) w K) w fun t29 w =>
 xPick t25 t29 (.bool false) w fun t30 w =>
 xGuard t30 true (fun w K => xFieldAddr Try.prog 70 t1 0 w K) w fun t32 w =>
 xGuard t30 true (fun w K => xLoad Try.prog 3 t32 w K) w fun t33 w =>
 xGuard t30 true (fun w K => xBin Try.prog .leq 3 false t33 true (.int .i64 64) w K) w fun t34 w =>
 xPick t30 t34 (.bool false) w fun t35 w =>
 xGuard t35 true (fun w K => xFieldAddr Try.prog 70 t1 1 w K) w fun t37 w =>
 xGuard t35 true (fun w K => xLoad Try.prog 3 t37 w K) w fun t38 w =>
 xGuard t35 true (fun w K => xBin Try.prog .geq 3 false t38 true (.int .i64 0) w K) w fun t39 w =>
 xPick t35 t39 (.bool false) w fun t40 w =>
 xGuard t40 true (fun w K => xFieldAddr Try.prog 70 t1 1 w K) w fun t42 w =>
 xGuard t40 true (fun w K => xLoad Try.prog 3 t42 w K) w fun t43 w =>
 xGuard t40 true (fun w K => xBin Try.prog .leq 3 false t43 true (.int .i64 1024) w K) w fun t44 w =>
 xPick t40 t44 (.bool false) w fun t45 w =>
 K t45 w)
abbrev n_head_Right : Nat := 49
def head_Right_ann : Ann := { loop := fun i => [], wr := fun i => [], told := fun i => [] }
theorem head_Right_eq (t0 : Value) (w : World) (K : K1) : reads Try.prog head_Right_ann Try.f49 #[t0] w K = head_Right K t0 w := by kernel_rfl
theorem head_Right_of {t0 : Value} {w : World} {K : K1} (h : head_Right K t0 w) : Yld Try.prog n_head_Right #[t0] w K :=
  yld_of mixed head_Right_ann Try.func49 (by kernel_rfl) (head_Right_eq t0 w K) h

/-! loam/loamref14.Size: function 50 -/
/-! strings.Index: function 51 -/
def strings_Index (K : K1) (t0 t1 : Value) (w : World) : Prop :=
 xCall Try.prog (fnv 53) [t0, t1] w fun t7 w =>
 K t7 w
abbrev n_strings_Index : Nat := 51
def strings_Index_ann : Ann := { loop := fun i => [], wr := fun i => [], told := fun i => [] }
theorem strings_Index_eq (t0 t1 : Value) (w : World) (K : K1) : reads Try.prog strings_Index_ann Try.f51 #[t0, t1] w K = strings_Index K t0 t1 w := by kernel_rfl
theorem strings_Index_of {t0 t1 : Value} {w : World} {K : K1} (h : strings_Index K t0 t1 w) : Yld Try.prog n_strings_Index #[t0, t1] w K :=
  yld_of mixed strings_Index_ann Try.func51 (by kernel_rfl) (strings_Index_eq t0 t1 w K) h

/-! loam/loamref14.Right: function 52 -/
/-! internal/stringslite.Index: function 53 -/
def internal_stringslite_Index_j1 (K : K1) (nxt1 : List Value → World → Prop) (t0 t1 t5 t7 t8 t9 t10 : Value) (w : World) : Prop :=
 xBin Try.prog .add 3 false t8 true (.int .i64 1) w fun t80_1 w =>
 xIndex Try.prog 9 t0 t80_1 w fun t81_1 w =>
 xBin Try.prog .eql 5 false t81_1 false t7 w fun t83_1 w =>
 xGuard t83_1 true (fun w K => K t0 w) w fun t85_1 w =>
 xGuard t83_1 true (fun w K => K t8 w) w fun t86_1 w =>
 xGuard t83_1 true (fun w K => K t8 w) w fun t87_1 w =>
 xGuard t83_1 true (fun w K => K t5 w) w fun t88_1 w =>
 xGuard t83_1 true (fun w K => xBin Try.prog .add 3 false t87_1 false t88_1 w K) w fun t89_1 w =>
 xGuard t83_1 true (fun w K => xSlice Try.prog 9 t85_1 (some t86_1) (some t89_1) none w K) w fun t90_1 w =>
 xGuard t83_1 true (fun w K => K t1 w) w fun t91_1 w =>
 xGuard t83_1 true (fun w K => xBin Try.prog .eql 9 false t90_1 false t91_1 w K) w fun t92_1 w =>
 xPick t83_1 t92_1 (.bool false) w fun t93_1 w =>
 xIf t93_1
 (K t8 w)
 (xBin Try.prog .add 3 false t8 true (.int .i64 1) w fun t96_1 w =>
 xBin Try.prog .add 3 false t10 true (.int .i64 1) w fun t98_1 w =>
 xLoad Try.prog 3 (.pointer (some ⟨0, 0, none⟩)) w fun t100_1 w =>
 xBin Try.prog .leq 3 false t5 false t100_1 w fun t101_1 w =>
 xGuard t101_1 true (fun w K => K t98_1 w) w fun t103_1 w =>
 xGuard t101_1 true (fun w K => K t96_1 w) w fun t104_1 w =>
 xGuard t101_1 true (fun w K => xCall Try.prog (fnv 56) [t104_1] w K) w fun t105_1 w =>
 xGuard t101_1 true (fun w K => xBin Try.prog .gtr 3 false t103_1 false t105_1 w K) w fun t106_1 w =>
 xPick t101_1 t106_1 (.bool false) w fun t107_1 w =>
 xIf t107_1
 (xSlice Try.prog 9 t0 (some t96_1) none none w fun t110_1 w =>
 xCall Try.prog (fnv 55) [t110_1, t1] w fun t112_1 w =>
 xBin Try.prog .geq 3 false t112_1 true (.int .i64 0) w fun t114_1 w =>
 xIf t114_1
 (xBin Try.prog .add 3 false t112_1 false t96_1 w fun t117_1 w =>
 K t117_1 w)
 (K (.int .i64 (-1)) w))
 (xLoad Try.prog 3 (.pointer (some ⟨0, 0, none⟩)) w fun t119_1 w =>
 xBin Try.prog .gtr 3 false t5 false t119_1 w fun t120_1 w =>
 xGuard t120_1 true (fun w K => K t98_1 w) w fun t122_1 w =>
 xGuard t120_1 true (fun w K => K t96_1 w) w fun t123_1 w =>
 xGuard t120_1 true (fun w K => xBin Try.prog .shr 3 false t123_1 true (c64 4) w K) w fun t124_1 w =>
 xGuard t120_1 true (fun w K => xBin Try.prog .add 3 true (.int .i64 4) false t124_1 w K) w fun t125_1 w =>
 xGuard t120_1 true (fun w K => xBin Try.prog .geq 3 false t122_1 false t125_1 w K) w fun t126_1 w =>
 xPick t120_1 t126_1 (.bool false) w fun t127_1 w =>
 xGuard t127_1 true (fun w K => K t96_1 w) w fun t129_1 w =>
 xGuard t127_1 true (fun w K => K t9 w) w fun t130_1 w =>
 xGuard t127_1 true (fun w K => xBin Try.prog .lss 3 false t129_1 false t130_1 w K) w fun t131_1 w =>
 xPick t127_1 t131_1 (.bool false) w fun t132_1 w =>
 xIf t132_1
 (xSlice Try.prog 9 t0 (some t96_1) none none w fun t135_1 w =>
 xCall Try.prog (fnv 57) [t135_1, t1] w fun t137_1 w =>
 xBin Try.prog .lss 3 false t137_1 true (.int .i64 0) w fun t139_1 w =>
 xIf t139_1
 (K (.int .i64 (-1)) w)
 (xBin Try.prog .add 3 false t96_1 false t137_1 w fun t142_1 w =>
 K t142_1 w))
 (nxt1 [t96_1, t98_1] w)))
def internal_stringslite_Index_l1 (K : K1) (nxt1 : List Value → World → Prop) (t0 t1 t5 t6 t7 t8 t9 t10 : Value) (w : World) : Prop :=
 xBin Try.prog .lss 3 false t8 false t9 w fun t59_1 w =>
 xIf t59_1
 (xIndex Try.prog 9 t0 t8 w fun t62_1 w =>
 xBin Try.prog .neq 5 false t62_1 false t6 w fun t64_1 w =>
 xIf t64_1
 (xBin Try.prog .add 3 false t8 true (.int .i64 1) w fun t67_1 w =>
 xSlice Try.prog 9 t0 (some t67_1) (some t9) none w fun t69_1 w =>
 xCall Try.prog (fnv 54) [t69_1, t6] w fun t71_1 w =>
 xBin Try.prog .lss 3 false t71_1 true (.int .i64 0) w fun t73_1 w =>
 xIf t73_1
 (K (.int .i64 (-1)) w)
 (xBin Try.prog .add 3 false t71_1 true (.int .i64 1) w fun t76_1 w =>
 xBin Try.prog .add 3 false t8 false t76_1 w fun t77_1 w =>
 internal_stringslite_Index_j1 K nxt1 t0 t1 t5 t7 t77_1 t9 t10 w))
 (internal_stringslite_Index_j1 K nxt1 t0 t1 t5 t7 t8 t9 t10 w))
 (K (.int .i64 (-1)) w)
def internal_stringslite_Index (K : K1) (t0 t1 : Value) (w : World) : Prop :=
 xBuiltin Try.prog .len #[9] 3 [false] [t1] w fun t15 w =>
 xBin Try.prog .eql 3 false t15 true (.int .i64 0) w fun t18 w =>
 xGuard t18 false (fun w K => K t1 w) w fun t20 w =>
 xGuard t18 false (fun w K => K t0 w) w fun t21 w =>
 xGuard t18 false (fun w K => xBin Try.prog .eql 9 false t20 false t21 w K) w fun t22 w =>
 xPick t18 (.bool true) t22 w fun t23 w =>
 xIf t23
 (K (.int .i64 0) w)
 (xBin Try.prog .eql 3 false t15 true (.int .i64 1) w fun t26 w =>
 xIf t26
 (xIndex Try.prog 9 t1 (.int .i64 0) w fun t29 w =>
 xCall Try.prog (fnv 54) [t0, t29] w fun t30 w =>
 K t30 w)
 (xBuiltin Try.prog .len #[9] 3 [false] [t0] w fun t34 w =>
 xBin Try.prog .geq 3 false t15 false t34 w fun t35 w =>
 xIf t35
 (K (.int .i64 (-1)) w)
 (xLoad Try.prog 3 (.pointer (some ⟨0, 0, none⟩)) w fun t38 w =>
 xBin Try.prog .leq 3 false t15 false t38 w fun t39 w =>
 xGuard t39 true (fun w K => K t0 w) w fun t41 w =>
 xGuard t39 true (fun w K => xBuiltin Try.prog .len #[9] 3 [false] [t41] w K) w fun t42 w =>
 xGuard t39 true (fun w K => xBin Try.prog .leq 3 false t42 true (.int .i64 64) w K) w fun t43 w =>
 xPick t39 t43 (.bool false) w fun t44 w =>
 xIf t44
 (xCall Try.prog (fnv 55) [t0, t1] w fun t47 w =>
 K t47 w)
 (xIndex Try.prog 9 t1 (.int .i64 0) w fun t49 w =>
 xIndex Try.prog 9 t1 (.int .i64 1) w fun t51 w =>
 xBuiltin Try.prog .len #[9] 3 [false] [t0] w fun t53 w =>
 xBin Try.prog .sub 3 false t53 false t15 w fun t55 w =>
 xBin Try.prog .add 3 false t55 true (.int .i64 1) w fun t56 w =>
 xLoop [(.int .i64 0), (.int .i64 0)] w [8, 10] fun u w nxt1 =>
 internal_stringslite_Index_l1 K nxt1 t0 t1 t15 t49 t51 (u 8) t56 (u 10) w))))
abbrev n_internal_stringslite_Index : Nat := 53
def internal_stringslite_Index_ann : Ann := { loop := fun i => bif Nat.beq i 1 then [8, 10] else [], wr := fun i => bif Nat.beq i 1 then [4, 8, 10, 11, 12, 13, 57, 58, 59, 60, 61, 62, 63, 64, 65, 66, 67, 68, 69, 70, 71, 72, 73, 74, 75, 76, 77, 78, 79, 80, 81, 82, 83, 84, 85, 86, 87, 88, 89, 90, 91, 92, 93, 94, 95, 96, 97, 98, 99, 100, 101, 102, 103, 104, 105, 106, 107, 108, 109, 110, 111, 112, 113, 114, 115, 116, 117, 118, 119, 120, 121, 122, 123, 124, 125, 126, 127, 128, 129, 130, 131, 132, 133, 134, 135, 136, 137, 138, 139, 140, 141, 142] else [], told := fun i => [] }
theorem internal_stringslite_Index_eq (t0 t1 : Value) (w : World) (K : K1) : reads Try.prog internal_stringslite_Index_ann Try.f53 #[t0, t1] w K = internal_stringslite_Index K t0 t1 w := by kernel_rfl
theorem internal_stringslite_Index_of {t0 t1 : Value} {w : World} {K : K1} (h : internal_stringslite_Index K t0 t1 w) : Yld Try.prog n_internal_stringslite_Index #[t0, t1] w K :=
  yld_of mixed internal_stringslite_Index_ann Try.func53 (by kernel_rfl) (internal_stringslite_Index_eq t0 t1 w K) h

/-! internal/stringslite.IndexByte: function 54 -/
def internal_stringslite_IndexByte (K : K1) (t0 t1 : Value) (w : World) : Prop :=
 xCall Try.prog (fnv 58) [t0, t1] w fun t7 w =>
 K t7 w
abbrev n_internal_stringslite_IndexByte : Nat := 54
def internal_stringslite_IndexByte_ann : Ann := { loop := fun i => [], wr := fun i => [], told := fun i => [] }
theorem internal_stringslite_IndexByte_eq (t0 t1 : Value) (w : World) (K : K1) : reads Try.prog internal_stringslite_IndexByte_ann Try.f54 #[t0, t1] w K = internal_stringslite_IndexByte K t0 t1 w := by kernel_rfl
theorem internal_stringslite_IndexByte_of {t0 t1 : Value} {w : World} {K : K1} (h : internal_stringslite_IndexByte K t0 t1 w) : Yld Try.prog n_internal_stringslite_IndexByte #[t0, t1] w K :=
  yld_of mixed internal_stringslite_IndexByte_ann Try.func54 (by kernel_rfl) (internal_stringslite_IndexByte_eq t0 t1 w K) h

/-! internal/bytealg.Cutover: function 56 -/
/-! internal/bytealg.IndexRabinKarp[string]: function 57 -/
abbrev n_internal_bytealg_IndexByteString : Nat := 58
/-! internal/bytealg.hashStr[string]: function 59 -/
end Go.Proofs.Ythhcmoknppljpaa
