/- Each function of the set, as it is loaded, read as a statement on values; and that a call gives what the reading asks. -/
import Derived.Test.YtlllabaipfmnjaaBase
set_option linter.unusedVariables false
namespace Go.Proofs.Ytlllabaipfmnjaa
open Go.Sh Go.RowKit
/-! loam/loamlaw5.CodeBack: function 3 -/
def loamlaw5_CodeBack_j1 (K : K1) (nxt0 : List Value → World → Prop) (t4 t5 : Value) (w : World) : Prop :=
 xBin Try.prog .add 3 false t5 true (.int .i64 1) w fun t21_1 w =>
 nxt0 [t4, t21_1] w
def loamlaw5_CodeBack_j2 (K : K1) (nxt3 : List Value → World → Prop) (t7 t8 : Value) (w : World) : Prop :=
 xUn Try.prog .not t8 w fun t158_1 w =>
 xIf t158_1
 (K (.bool false) w)
 (xBin Try.prog .add 3 false t7 true (.int .i64 1) w fun t109_1 w =>
 nxt3 [t109_1] w)
def loamlaw5_CodeBack_l2 (K : K1) (nxt3 : List Value → World → Prop) (t0 t6 t7 : Value) (w : World) : Prop :=
 xBuiltin Try.prog .len #[22] 3 [false] [t0] w fun t106_1 w =>
 xBin Try.prog .lss 3 false t7 false t106_1 w fun t107_1 w =>
 xIf t107_1
 (xIndexAddr Try.prog 22 t0 t7 w fun t112_1 w =>
 xFieldAddr Try.prog 32 t112_1 0 w fun t113_1 w =>
 xLoad Try.prog 3 t113_1 w fun t114_1 w =>
 xBin Try.prog .eql 3 false t114_1 true (.int .i64 1) w fun t116_1 w =>
 xIf t116_1
 (xSq w.drew fun w =>
 xPur w (fun w K => K t6 w) fun t117_1 =>
 xPur w (fun w K => K t0 w) fun t119_1 =>
 xPur w (fun w K => K t7 w) fun t120_1 =>
 xPur w (fun w K => xIndexAddr Try.prog 22 t119_1 t120_1 w K) fun t121_1 =>
 xPur w (fun w K => xFieldAddr Try.prog 32 t121_1 1 w K) fun t122_1 =>
 xRd w (fun K => xLoad Try.prog 29 t122_1 w K) fun t123_1 =>
 xCall Try.prog (fnv 26) [t117_1] w fun t118_1 w =>
 xRe w (fun K => xLoad Try.prog 29 t122_1 w K) t123_1 (
 xPur w (fun w K => xBin Try.prog .eql 29 false t118_1 false t123_1 w K) fun t124_1 =>
 xPur w (fun w K => K t124_1 w) fun t8_1 =>
 loamlaw5_CodeBack_j2 K nxt3 t7 t8_1 w))
 (xBin Try.prog .eql 3 false t114_1 true (.int .i64 2) w fun t126_1 w =>
 xIf t126_1
 (xSq w.drew fun w =>
 xPur w (fun w K => K t6 w) fun t127_1 =>
 xPur w (fun w K => K t0 w) fun t129_1 =>
 xPur w (fun w K => K t7 w) fun t130_1 =>
 xPur w (fun w K => xIndexAddr Try.prog 22 t129_1 t130_1 w K) fun t131_1 =>
 xPur w (fun w K => xFieldAddr Try.prog 32 t131_1 2 w K) fun t132_1 =>
 xRd w (fun K => xLoad Try.prog 2 t132_1 w K) fun t133_1 =>
 xCall Try.prog (fnv 27) [t127_1] w fun t128_1 w =>
 xRe w (fun K => xLoad Try.prog 2 t132_1 w K) t133_1 (
 xPur w (fun w K => xBin Try.prog .eql 2 false t128_1 false t133_1 w K) fun t134_1 =>
 xPur w (fun w K => K t134_1 w) fun t8_1 =>
 loamlaw5_CodeBack_j2 K nxt3 t7 t8_1 w))
 (xBin Try.prog .eql 3 false t114_1 true (.int .i64 3) w fun t136_1 w =>
 xIf t136_1
 (xSq w.drew fun w =>
 xPur w (fun w K => K t6 w) fun t137_1 =>
 xPur w (fun w K => K t0 w) fun t140_1 =>
 xPur w (fun w K => K t7 w) fun t141_1 =>
 xPur w (fun w K => xIndexAddr Try.prog 22 t140_1 t141_1 w K) fun t142_1 =>
 xPur w (fun w K => xFieldAddr Try.prog 32 t142_1 3 w K) fun t143_1 =>
 xRd w (fun K => xLoad Try.prog 26 t143_1 w K) fun t144_1 =>
 xRd w (fun K => xConv Try.prog 26 9 t144_1 w K) fun t145_1 =>
 xCall Try.prog (fnv 28) [t137_1] w fun t138_1 w =>
 xRe w (fun K => xLoad Try.prog 26 t143_1 w K) t144_1 (
 xRe w (fun K => xConv Try.prog 26 9 t144_1 w K) t145_1 (
 xRd w (fun K => xConv Try.prog 26 9 t138_1 w K) fun t139_1 =>
 xPur w (fun w K => xBin Try.prog .eql 9 false t139_1 false t145_1 w K) fun t146_1 =>
 xPur w (fun w K => K t146_1 w) fun t8_1 =>
 loamlaw5_CodeBack_j2 K nxt3 t7 t8_1 w)))
 (xBin Try.prog .eql 3 false t114_1 true (.int .i64 4) w fun t148_1 w =>
 xIf t148_1
 (xSq w.drew fun w =>
 xPur w (fun w K => K t6 w) fun t149_1 =>
 xPur w (fun w K => K t0 w) fun t151_1 =>
 xPur w (fun w K => K t7 w) fun t152_1 =>
 xPur w (fun w K => xIndexAddr Try.prog 22 t151_1 t152_1 w K) fun t153_1 =>
 xPur w (fun w K => xFieldAddr Try.prog 32 t153_1 4 w K) fun t154_1 =>
 xRd w (fun K => xLoad Try.prog 30 t154_1 w K) fun t155_1 =>
 xCall Try.prog (fnv 30) [t149_1] w fun t150_1 w =>
 xRe w (fun K => xLoad Try.prog 30 t154_1 w K) t155_1 (
 xCall Try.prog (fnv 29) [t150_1, t155_1] w fun t156_1 w =>
 xPur w (fun w K => K t156_1 w) fun t8_1 =>
 loamlaw5_CodeBack_j2 K nxt3 t7 t8_1 w))
 (loamlaw5_CodeBack_j2 K nxt3 t7 (.bool true) w)))))
 (xCall Try.prog (fnv 31) [t6] w fun t160 w =>
 xBin Try.prog .eql 3 false t160 true (.int .i64 0) w fun t161 w =>
 xGuard t161 true (fun w K => K t6 w) w fun t163 w =>
 xGuard t161 true (fun w K => xCall Try.prog (fnv 32) [t163] w K) w fun t164 w =>
 xGuard t161 true (fun w K => xBin Try.prog .eql 3 false t164 true (.int .i64 0) w K) w fun t165 w =>
 xPick t161 t165 (.bool false) w fun t166 w =>
 K t166 w)
def loamlaw5_CodeBack_l1 (K : K1) (nxt0 : List Value → World → Prop) (t0 t3 t4 t5 : Value) (w : World) : Prop :=
 xBuiltin Try.prog .len #[22] 3 [false] [t0] w fun t18_1 w =>
 xBin Try.prog .lss 3 false t5 false t18_1 w fun t19_1 w =>
 xIf t19_1
 (xIndexAddr Try.prog 22 t0 t5 w fun t24_1 w =>
 xFieldAddr Try.prog 32 t24_1 0 w fun t25_1 w =>
 xLoad Try.prog 3 t25_1 w fun t26_1 w =>
 xBin Try.prog .eql 3 false t26_1 true (.int .i64 1) w fun t28_1 w =>
 xIf t28_1
 (xIndexAddr Try.prog 22 t0 t5 w fun t32_1 w =>
 xFieldAddr Try.prog 32 t32_1 1 w fun t33_1 w =>
 xLoad Try.prog 29 t33_1 w fun t34_1 w =>
 xCall Try.prog (fnv 16) [t3, t34_1] w fun t35_1 w =>
 xIndexAddr Try.prog 22 t0 t5 w fun t39_1 w =>
 xFieldAddr Try.prog 32 t39_1 1 w fun t40_1 w =>
 xLoad Try.prog 29 t40_1 w fun t41_1 w =>
 xCall Try.prog (fnv 17) [t41_1] w fun t42_1 w =>
 xBuiltin Try.prog .append #[26, 26] 26 [false, false] [t4, t42_1] w fun t43_1 w =>
 loamlaw5_CodeBack_j1 K nxt0 t43_1 t5 w)
 (xBin Try.prog .eql 3 false t26_1 true (.int .i64 2) w fun t45_1 w =>
 xIf t45_1
 (xIndexAddr Try.prog 22 t0 t5 w fun t49_1 w =>
 xFieldAddr Try.prog 32 t49_1 2 w fun t50_1 w =>
 xLoad Try.prog 2 t50_1 w fun t51_1 w =>
 xCall Try.prog (fnv 18) [t3, t51_1] w fun t52_1 w =>
 xIndexAddr Try.prog 22 t0 t5 w fun t56_1 w =>
 xFieldAddr Try.prog 32 t56_1 2 w fun t57_1 w =>
 xLoad Try.prog 2 t57_1 w fun t58_1 w =>
 xCall Try.prog (fnv 19) [t58_1] w fun t59_1 w =>
 xCall Try.prog (fnv 17) [t59_1] w fun t60_1 w =>
 xBuiltin Try.prog .append #[26, 26] 26 [false, false] [t4, t60_1] w fun t61_1 w =>
 loamlaw5_CodeBack_j1 K nxt0 t61_1 t5 w)
 (xBin Try.prog .eql 3 false t26_1 true (.int .i64 3) w fun t63_1 w =>
 xIf t63_1
 (xIndexAddr Try.prog 22 t0 t5 w fun t67_1 w =>
 xFieldAddr Try.prog 32 t67_1 3 w fun t68_1 w =>
 xLoad Try.prog 26 t68_1 w fun t69_1 w =>
 xCall Try.prog (fnv 20) [t3, t69_1] w fun t70_1 w =>
 xIndexAddr Try.prog 22 t0 t5 w fun t74_1 w =>
 xFieldAddr Try.prog 32 t74_1 3 w fun t75_1 w =>
 xLoad Try.prog 26 t75_1 w fun t76_1 w =>
 xCall Try.prog (fnv 21) [t76_1] w fun t77_1 w =>
 xBuiltin Try.prog .append #[26, 26] 26 [false, false] [t4, t77_1] w fun t78_1 w =>
 loamlaw5_CodeBack_j1 K nxt0 t78_1 t5 w)
 (xBin Try.prog .eql 3 false t26_1 true (.int .i64 4) w fun t80_1 w =>
 xIf t80_1
 (xIndexAddr Try.prog 22 t0 t5 w fun t84_1 w =>
 xFieldAddr Try.prog 32 t84_1 4 w fun t85_1 w =>
 xLoad Try.prog 30 t85_1 w fun t86_1 w =>
 xCall Try.prog (fnv 22) [t3, t86_1] w fun t87_1 w =>
 xIndexAddr Try.prog 22 t0 t5 w fun t91_1 w =>
 xFieldAddr Try.prog 32 t91_1 4 w fun t92_1 w =>
 xLoad Try.prog 30 t92_1 w fun t93_1 w =>
 xCall Try.prog (fnv 23) [t93_1] w fun t94_1 w =>
 xBuiltin Try.prog .append #[26, 26] 26 [false, false] [t4, t94_1] w fun t95_1 w =>
 loamlaw5_CodeBack_j1 K nxt0 t95_1 t5 w)
 (loamlaw5_CodeBack_j1 K nxt0 t4 t5 w)))))
 (xSq w.drew fun w =>
 xPur w (fun w K => K t3 w) fun t96 =>
 xPur w (fun w K => K t4 w) fun t99 =>
 xRd w (fun K => xConv Try.prog 26 9 t99 w K) fun t100 =>
 xCall Try.prog (fnv 24) [t96] w fun t97 w =>
 xRe w (fun K => xConv Try.prog 26 9 t99 w K) t100 (
 xRd w (fun K => xConv Try.prog 26 9 t97 w K) fun t98 =>
 xPur w (fun w K => xBin Try.prog .neq 9 false t98 false t100 w K) fun t101 =>
 xIf t101
 (K (.bool false) w)
 (xCall Try.prog (fnv 25) [t4] w fun t103 w =>
 xLoop [(.int .i64 0)] w [7] fun u w nxt3 =>
 loamlaw5_CodeBack_l2 K nxt3 t0 t103 (u 7) w)))
def loamlaw5_CodeBack (K : K1) (t0 : Value) (w : World) : Prop :=
 xCall Try.prog (fnv 14) [] w fun t9 w =>
 xUn Try.prog .not t9 w fun t10 w =>
 xIf t10
 (K (.bool false) w)
 (xCall Try.prog (fnv 15) [t0] w fun t12 w =>
 xUn Try.prog .not t12 w fun t13 w =>
 xIf t13
 (K (.bool true) w)
 (xBuild Try.prog 28 [] w fun t14 w =>
 xBox Try.prog 28 t14 w fun t15 w =>
 xLoop [(.slice none 0 0), (.int .i64 0)] w [4, 5] fun u w nxt0 =>
 loamlaw5_CodeBack_l1 K nxt0 t0 t15 (u 4) (u 5) w))
abbrev n_loamlaw5_CodeBack : Nat := 3
def loamlaw5_CodeBack_ann : Ann := { loop := fun i => bif Nat.beq i 3 then [7] else bif Nat.beq i 0 then [4, 5] else [], wr := fun i => bif Nat.beq i 3 then [2, 7, 8, 104, 105, 106, 107, 108, 109, 110, 111, 112, 113, 114, 115, 116, 117, 118, 119, 120, 121, 122, 123, 124, 125, 126, 127, 128, 129, 130, 131, 132, 133, 134, 135, 136, 137, 138, 139, 140, 141, 142, 143, 144, 145, 146, 147, 148, 149, 150, 151, 152, 153, 154, 155, 156, 157, 158] else bif Nat.beq i 0 then [4, 5, 16, 17, 18, 19, 20, 21, 22, 23, 24, 25, 26, 27, 28, 29, 30, 31, 32, 33, 34, 35, 36, 37, 38, 39, 40, 41, 42, 43, 44, 45, 46, 47, 48, 49, 50, 51, 52, 53, 54, 55, 56, 57, 58, 59, 60, 61, 62, 63, 64, 65, 66, 67, 68, 69, 70, 71, 72, 73, 74, 75, 76, 77, 78, 79, 80, 81, 82, 83, 84, 85, 86, 87, 88, 89, 90, 91, 92, 93, 94, 95] else [], told := fun i => bif Nat.beq i 23 then [(0, false, ⟨0, 79228162514264337593543950344, some 96⟩), (3, false, ⟨0, 633825300114114700748351602704, some 99⟩), (4, false, ⟨8, 1901475900342344102245054808064, some 100⟩), (1, false, ⟨1, 237684487542793012780631851008, some 97⟩), (2, false, ⟨2, 475368975085586025561263702016, some 98⟩), (5, false, ⟨20, 4119864450741745554864285417472, some 101⟩)] else bif Nat.beq i 32 then [(0, false, ⟨0, 166153499473114484112975882535043136, some 117⟩), (2, false, ⟨0, 664613997892457936451903530140172289, some 119⟩), (3, false, ⟨0, 1329227995784915872903807060280344704, some 120⟩), (4, false, ⟨12, 4652297985247205555163324710981206016, some 121⟩), (5, false, ⟨16, 7975367974709495237422842361682067456, some 122⟩), (6, false, ⟨32, 15950735949418990474845684723364134912, some 123⟩), (1, false, ⟨1, 498460498419343452338927647605129216, some 118⟩), (7, false, ⟨66, 32233778897784209917917321211798355968, some 124⟩), (8, false, ⟨255, 21267647932558653966460912964485513472, some 8⟩)] else bif Nat.beq i 34 then [(0, false, ⟨0, 170141183460469231731687303715884105792, some 127⟩), (2, false, ⟨0, 680564733841876926926749214863536422913, some 129⟩), (3, false, ⟨0, 1361129467683753853853498429727072845952, some 130⟩), (4, false, ⟨12, 4763953136893138488487244504044754960384, some 131⟩), (5, false, ⟨16, 8166776806102523123120990578362437074944, some 132⟩), (6, false, ⟨32, 16333553612205046246241981156724874149888, some 133⟩), (1, false, ⟨1, 510423550381407695195061911147652317184, some 128⟩), (7, false, ⟨66, 33007389591331030955947336920881516511232, some 134⟩), (8, false, ⟨255, 21778071482940061661655974875633165533440, some 8⟩)] else bif Nat.beq i 36 then [(0, false, ⟨0, 174224571863520493293247799005065324265536, some 137⟩), (3, false, ⟨0, 1393796574908163946345982392040522594123777, some 140⟩), (4, false, ⟨0, 2787593149816327892691964784081045188247680, some 141⟩), (5, false, ⟨24, 9756576024357147624421876744283658158866432, some 142⟩), (6, false, ⟨32, 16725558898897967356151788704486271129485312, some 143⟩), (7, false, ⟨64, 33451117797795934712303577408972542258970624, some 144⟩), (8, false, ⟨128, 66902235595591869424607154817945084517941248, some 145⟩), (1, false, ⟨1, 522673715590561479879743397015195972796416, some 138⟩), (2, false, ⟨2, 1045347431181122959759486794030391945592832, some 139⟩), (9, false, ⟨260, 134501369478637820822387300831910430332944384, some 146⟩), (10, false, ⟨1023, 89202980794122492566142873090593446023921920, some 8⟩)] else bif Nat.beq i 38 then [(0, false, ⟨0, 713623846352979940529142984724747568191373376, some 149⟩), (2, false, ⟨0, 2854495385411919762116571938898990272765493249, some 151⟩), (3, false, ⟨0, 5708990770823839524233143877797980545530986624, some 152⟩), (4, false, ⟨12, 19981467697883438334816003572292931909358452736, some 153⟩), (5, false, ⟨16, 34253944624943037145398863266787883273185918976, some 154⟩), (6, false, ⟨32, 68507889249886074290797726533575766546371837952, some 155⟩), (1, false, ⟨1, 2140871539058939821587428954174242704574119936, some 150⟩), (7, false, ⟨66, 138443026192478108462653739036601028229126422528, some 156⟩), (8, false, ⟨255, 91343852333181432387730302044767688728495784192, some 8⟩)] else [], sq := fun i => bif Nat.beq i 23 then some (.rd true 0 (.rd true 3 (.rd false 4 (.ef 1 [4] (.rd false 2 (.rd true 5 .done)))))) else bif Nat.beq i 32 then some (.rd true 0 (.rd true 2 (.rd true 3 (.rd true 4 (.rd true 5 (.rd false 6 (.ef 1 [6] (.rd true 7 (.rd true 8 .done))))))))) else bif Nat.beq i 34 then some (.rd true 0 (.rd true 2 (.rd true 3 (.rd true 4 (.rd true 5 (.rd false 6 (.ef 1 [6] (.rd true 7 (.rd true 8 .done))))))))) else bif Nat.beq i 36 then some (.rd true 0 (.rd true 3 (.rd true 4 (.rd true 5 (.rd true 6 (.rd false 7 (.rd false 8 (.ef 1 [7, 8] (.rd false 2 (.rd true 9 (.rd true 10 .done))))))))))) else bif Nat.beq i 38 then some (.rd true 0 (.rd true 2 (.rd true 3 (.rd true 4 (.rd true 5 (.rd false 6 (.ef 1 [6] (.ef 7 [] (.rd true 8 .done))))))))) else none }
theorem loamlaw5_CodeBack_eq (t0 : Value) (w : World) (K : K1) : reads Try.prog loamlaw5_CodeBack_ann Try.f3 #[t0] w K = loamlaw5_CodeBack K t0 w := by kernel_rfl
theorem loamlaw5_CodeBack_of {t0 : Value} {w : World} {K : K1} (h : loamlaw5_CodeBack K t0 w) : Yld Try.prog n_loamlaw5_CodeBack #[t0] w K :=
  yld_of mixed loamlaw5_CodeBack_ann Try.func3 (by kernel_rfl) (loamlaw5_CodeBack_eq t0 w K) h

/-! loam/loamlaw5.CodeShort: function 4 -/
def loamlaw5_CodeShort_l1 (K : K1) (nxt0 : List Value → World → Prop) (t1 t6 t7 t8 : Value) (w : World) : Prop :=
 xBin Try.prog .gtr 29 false t8 true (c64 0) w fun t24_1 w =>
 xIf t24_1
 (xBin Try.prog .add 3 false t7 true (.int .i64 1) w fun t28_1 w =>
 xBin Try.prog .shr 29 false t8 true (c64 7) w fun t26_1 w =>
 nxt0 [t28_1, t26_1] w)
 (xBuiltin Try.prog .len #[26] 3 [false] [t6] w fun t30 w =>
 xBin Try.prog .neq 3 false t30 false t7 w fun t32 w =>
 xGuard t32 false (fun w K => K t1 w) w fun t34 w =>
 xGuard t32 false (fun w K => xBin Try.prog .lss 3 false t34 true (.int .i64 0) w K) w fun t35 w =>
 xPick t32 (.bool true) t35 w fun t36 w =>
 xIf t36
 (xBuiltin Try.prog .len #[26] 3 [false] [t6] w fun t38 w =>
 xBin Try.prog .eql 3 false t38 false t7 w fun t40 w =>
 K t40 w)
 (xBin Try.prog .rem 3 false t1 false t7 w fun t44 w =>
 xSlice Try.prog 26 t6 none (some t44) none w fun t45 w =>
 xCall Try.prog (fnv 25) [t45] w fun t46 w =>
 xCall Try.prog (fnv 26) [t46] w fun t48 w =>
 xCall Try.prog (fnv 27) [t46] w fun t50 w =>
 xBin Try.prog .eql 29 false t48 true (c64 0) w fun t52 w =>
 xGuard t52 true (fun w K => K t50 w) w fun t54 w =>
 xGuard t52 true (fun w K => xBin Try.prog .eql 2 false t54 true (.int .i64 0) w K) w fun t55 w =>
 xPick t52 t55 (.bool false) w fun t56 w =>
 xGuard t56 true (fun w K => K t46 w) w fun t58 w =>
 xGuard t56 true (fun w K => xCall Try.prog (fnv 32) [t58] w K) w fun t59 w =>
 xGuard t56 true (fun w K => xBin Try.prog .eql 3 false t59 true (.int .i64 3) w K) w fun t60 w =>
 xPick t56 t60 (.bool false) w fun t61 w =>
 xGuard t61 true (fun w K => K t46 w) w fun t63 w =>
 xGuard t61 true (fun w K => xCall Try.prog (fnv 31) [t63] w K) w fun t64 w =>
 xGuard t61 true (fun w K => xBin Try.prog .eql 3 false t64 true (.int .i64 0) w K) w fun t65 w =>
 xPick t61 t65 (.bool false) w fun t66 w =>
 K t66 w))
def loamlaw5_CodeShort (K : K1) (t0 t1 : Value) (w : World) : Prop :=
 xCall Try.prog (fnv 14) [] w fun t12 w =>
 xUn Try.prog .not t12 w fun t13 w =>
 xIf t13
 (K (.bool false) w)
 (xBuild Try.prog 28 [] w fun t14 w =>
 xBox Try.prog 28 t14 w fun t15 w =>
 xCall Try.prog (fnv 16) [t15, t0] w fun t18 w =>
 xCall Try.prog (fnv 24) [t15] w fun t20 w =>
 xBin Try.prog .shr 29 false t0 true (c64 7) w fun t22 w =>
 xLoop [(.int .i64 1), t22] w [7, 8] fun u w nxt0 =>
 loamlaw5_CodeShort_l1 K nxt0 t1 t20 (u 7) (u 8) w)
abbrev n_loamlaw5_CodeShort : Nat := 4
def loamlaw5_CodeShort_ann : Ann := { loop := fun i => bif Nat.beq i 0 then [7, 8] else [], wr := fun i => bif Nat.beq i 0 then [7, 8, 23, 24, 25, 26, 27, 28] else [], told := fun i => [] }
theorem loamlaw5_CodeShort_eq (t0 t1 : Value) (w : World) (K : K1) : reads Try.prog loamlaw5_CodeShort_ann Try.f4 #[t0, t1] w K = loamlaw5_CodeShort K t0 t1 w := by kernel_rfl
theorem loamlaw5_CodeShort_of {t0 t1 : Value} {w : World} {K : K1} (h : loamlaw5_CodeShort K t0 t1 w) : Yld Try.prog n_loamlaw5_CodeShort #[t0, t1] w K :=
  yld_of mixed loamlaw5_CodeShort_ann Try.func4 (by kernel_rfl) (loamlaw5_CodeShort_eq t0 t1 w K) h

/-! loam/loamlaw5.CodeSigns: function 5 -/
def loamlaw5_CodeSigns (K : K1) (t0 : Value) (w : World) : Prop :=
 xCall Try.prog (fnv 14) [] w fun t5 w =>
 xUn Try.prog .not t5 w fun t6 w =>
 xIf t6
 (K (.bool false) w)
 (xBuild Try.prog 28 [] w fun t7 w =>
 xBox Try.prog 28 t7 w fun t8 w =>
 xCall Try.prog (fnv 18) [t8, t0] w fun t11 w =>
 xCall Try.prog (fnv 24) [t8] w fun t13 w =>
 xCall Try.prog (fnv 25) [t13] w fun t14 w =>
 xCall Try.prog (fnv 27) [t14] w fun t16 w =>
 xBin Try.prog .eql 2 false t16 false t0 w fun t18 w =>
 xGuard t18 true (fun w K => K t14 w) w fun t20 w =>
 xGuard t18 true (fun w K => xCall Try.prog (fnv 31) [t20] w K) w fun t21 w =>
 xGuard t18 true (fun w K => xBin Try.prog .eql 3 false t21 true (.int .i64 0) w K) w fun t22 w =>
 xPick t18 t22 (.bool false) w fun t23 w =>
 xGuard t23 true (fun w K => K t0 w) w fun t25 w =>
 xGuard t23 true (fun w K => xBin Try.prog .lss 2 false t25 true (.int .i64 (-64)) w K) w fun t26 w =>
 xGuard t23 true (fun w K => K t26 w) w fun t27 w =>
 xGuard t27 false (fun w K => K t0 w) w fun t28 w =>
 xGuard t27 false (fun w K => xBin Try.prog .gtr 2 false t28 true (.int .i64 63) w K) w fun t29 w =>
 xGuard t23 true (fun w K => xPick t27 (.bool true) t29 w K) w fun t30 w =>
 xGuard t23 true (fun w K => K t30 w) w fun t31 w =>
 xGuard t31 false (fun w K => K t8 w) w fun t32 w =>
 xGuard t31 false (fun w K => xCall Try.prog (fnv 24) [t32] w K) w fun t33 w =>
 xGuard t31 false (fun w K => xBuiltin Try.prog .len #[26] 3 [false] [t33] w K) w fun t34 w =>
 xGuard t31 false (fun w K => xBin Try.prog .eql 3 false t34 true (.int .i64 1) w K) w fun t35 w =>
 xGuard t23 true (fun w K => xPick t31 (.bool true) t35 w K) w fun t36 w =>
 xPick t23 t36 (.bool false) w fun t37 w =>
 xGuard t37 true (fun w K => K t0 w) w fun t39 w =>
 xGuard t37 true (fun w K => xCall Try.prog (fnv 19) [t39] w K) w fun t40 w =>
 xGuard t37 true (fun w K => xCall Try.prog (fnv 33) [t40] w K) w fun t41 w =>
 xGuard t37 true (fun w K => K t0 w) w fun t42 w =>
 xGuard t37 true (fun w K => xBin Try.prog .eql 2 false t41 false t42 w K) w fun t43 w =>
 xPick t37 t43 (.bool false) w fun t44 w =>
 K t44 w)
abbrev n_loamlaw5_CodeSigns : Nat := 5
def loamlaw5_CodeSigns_ann : Ann := { loop := fun i => [], wr := fun i => [], told := fun i => [] }
theorem loamlaw5_CodeSigns_eq (t0 : Value) (w : World) (K : K1) : reads Try.prog loamlaw5_CodeSigns_ann Try.f5 #[t0] w K = loamlaw5_CodeSigns K t0 w := by kernel_rfl
theorem loamlaw5_CodeSigns_of {t0 : Value} {w : World} {K : K1} (h : loamlaw5_CodeSigns K t0 w) : Yld Try.prog n_loamlaw5_CodeSigns #[t0] w K :=
  yld_of mixed loamlaw5_CodeSigns_ann Try.func5 (by kernel_rfl) (loamlaw5_CodeSigns_eq t0 w K) h

/-! loam/loamlaw6.SuperBack: function 6 -/
def loamlaw6_SuperBack (K : K1) (t0 t1 : Value) (w : World) : Prop :=
 xBox Try.prog 58 t0 w fun t2 w =>
 xCall Try.prog (fnv 34) [] w fun t12 w =>
 xUn Try.prog .not t12 w fun t13 w =>
 xIf t13
 (K (.bool false) w)
 (xFieldAddr Try.prog 58 t2 1 w fun t14 w =>
 xLoad Try.prog 56 t14 w fun t15 w =>
 xCall Try.prog (fnv 35) [t15] w fun t16 w =>
 xUn Try.prog .not t16 w fun t17 w =>
 xIf t17
 (K (.bool true) w)
 (xLoad Try.prog 58 t2 w fun t19 w =>
 xCall Try.prog (fnv 36) [t19] w fun t20 w =>
 xExtract Try.prog t20 0 w fun t21 w =>
 xExtract Try.prog t20 1 w fun t22 w =>
 xLoad Try.prog 58 t2 w fun t24 w =>
 xCall Try.prog (fnv 38) [t24] w fun t25 w =>
 xCall Try.prog (fnv 37) [t25] w fun t26 w =>
 xExtract Try.prog t26 0 w fun t27 w =>
 xExtract Try.prog t26 1 w fun t28 w =>
 xBin Try.prog .neq 3 false t22 false t28 w fun t31 w =>
 xGuard t31 false (fun w K => K t21 w) w fun t33 w =>
 xGuard t31 false (fun w K => xConv Try.prog 26 9 t33 w K) w fun t34 w =>
 xGuard t31 false (fun w K => K t27 w) w fun t35 w =>
 xGuard t31 false (fun w K => xConv Try.prog 26 9 t35 w K) w fun t36 w =>
 xGuard t31 false (fun w K => xBin Try.prog .neq 9 false t34 false t36 w K) w fun t37 w =>
 xPick t31 (.bool true) t37 w fun t38 w =>
 xIf t38
 (K (.bool false) w)
 (xBuild Try.prog 58 [(0, t1)] w fun t40 w =>
 xAlloc Try.prog 58 w fun t9 w =>
 xStore Try.prog 58 t9 t40 w fun _ w =>
 xSq w.drew fun w =>
 xRd w (fun K => xLoad Try.prog 58 t2 w K) fun t41 =>
 xRd w (fun K => xLoad Try.prog 58 t9 w K) fun t42 =>
 xPur w (fun w K => xFieldAddr Try.prog 58 t2 0 w K) fun t44 =>
 xRd w (fun K => xLoad Try.prog 29 t44 w K) fun t45 =>
 xPur w (fun w K => K t1 w) fun t46 =>
 xPur w (fun w K => xBin Try.prog .gtr 29 false t45 false t46 w K) fun t47 =>
 xCall Try.prog (fnv 39) [t41, t42] w fun t43 w =>
 xRe w (fun K => xLoad Try.prog 29 t44 w K) t45 (
 xPur w (fun w K => xBin Try.prog .neq 4 false t43 false t47 w K) fun t48 =>
 xPur w (fun w K => K t48 w) fun t49 =>
 xPur w (fun w K => xGuard t49 false (fun w K => xFieldAddr Try.prog 58 t2 0 w K) w K) fun t50 =>
 xRd w (fun K => xGuard t49 false (fun w K => xLoad Try.prog 29 t50 w K) w K) fun t51 =>
 xPur w (fun w K => xGuard t49 false (fun w K => xFieldAddr Try.prog 58 t2 0 w K) w K) fun t53 =>
 xRd w (fun K => xGuard t49 false (fun w K => xLoad Try.prog 29 t53 w K) w K) fun t54 =>
 xPur w (fun w K => xGuard t49 false (fun w K => xBin Try.prog .rem 29 false t54 true (c64 2) w K) w K) fun t55 =>
 xPur w (fun w K => xGuard t49 false (fun w K => xConv Try.prog 29 3 t55 w K) w K) fun t56 =>
 xGuard t49 false (fun w K => xCall Try.prog (fnv 40) [t51] w K) w fun t52 w =>
 xRe w (fun K => xGuard t49 false (fun w K => xLoad Try.prog 29 t53 w K) w K) t54 (
 xPur w (fun w K => xGuard t49 false (fun w K => xBin Try.prog .neq 3 false t52 false t56 w K) w K) fun t57 =>
 xPur w (fun w K => xPick t49 (.bool true) t57 w K) fun t58 =>
 xIf t58
 (K (.bool false) w)
 (xBin Try.prog .neq 3 false t28 true (.int .i64 0) w fun t60 w =>
 xIf t60
 (K (.bool true) w)
 (xCall Try.prog (fnv 41) [t21] w fun t63 w =>
 xExtract Try.prog t63 0 w fun t64 w =>
 xExtract Try.prog t63 1 w fun t65 w =>
 xAlloc Try.prog 58 w fun t10 w =>
 xStore Try.prog 58 t10 t64 w fun _ w =>
 xBin Try.prog .eql 3 false t65 true (.int .i64 0) w fun t67 w =>
 xGuard t67 true (fun w K => xLoad Try.prog 58 t10 w K) w fun t69 w =>
 xGuard t67 true (fun w K => xLoad Try.prog 58 t2 w K) w fun t70 w =>
 xGuard t67 true (fun w K => xBin Try.prog .eql 58 false t69 false t70 w K) w fun t71 w =>
 xPick t67 t71 (.bool false) w fun t72 w =>
 K t72 w)))))))
abbrev n_loamlaw6_SuperBack : Nat := 6
def loamlaw6_SuperBack_ann : Ann := { loop := fun i => [], wr := fun i => [], told := fun i => bif Nat.beq i 10 then [(0, false, ⟨0, 2199023255556, some 41⟩), (1, false, ⟨0, 4398046511616, some 42⟩), (3, false, ⟨0, 17592186044420, some 44⟩), (4, false, ⟨8, 52776558133248, some 45⟩), (5, false, ⟨0, 70368744177666, some 46⟩), (6, false, ⟨48, 246290604621824, some 47⟩), (2, false, ⟨3, 15393162788864, some 43⟩), (7, false, ⟨68, 431008558088192, some 48⟩), (8, false, ⟨132, 844424930131968, some 49⟩), (9, false, ⟨256, 1688849860263940, some 50⟩), (10, false, ⟨768, 3940649673949184, some 51⟩), (12, false, ⟨256, 9570149208162308, some 53⟩), (13, false, ⟨4352, 27584547717644288, some 54⟩), (14, false, ⟨8448, 54606145481867264, some 55⟩), (15, false, ⟨16640, 108649341010313216, some 56⟩), (11, false, ⟨1280, 7318349394477056, some 52⟩), (16, false, ⟨35072, 221239331694575616, some 57⟩), (17, false, ⟨65792, 432908514180988928, some 58⟩)] else [], sq := fun i => bif Nat.beq i 10 then some (.rd false 0 (.rd false 1 (.rd true 3 (.rd false 4 (.rd true 5 (.rd true 6 (.ef 2 [4] (.rd true 7 (.rd true 8 (.rd true 9 (.rd false 10 (.rd true 12 (.rd false 13 (.rd true 14 (.rd true 15 (.ef 11 [13] (.rd true 16 (.rd true 17 .done)))))))))))))))))) else none }
theorem loamlaw6_SuperBack_eq (t0 t1 : Value) (w : World) (K : K1) : reads Try.prog loamlaw6_SuperBack_ann Try.f6 #[t0, t1] w K = loamlaw6_SuperBack K t0 t1 w := by kernel_rfl
theorem loamlaw6_SuperBack_of {t0 t1 : Value} {w : World} {K : K1} (h : loamlaw6_SuperBack K t0 t1 w) : Yld Try.prog n_loamlaw6_SuperBack #[t0, t1] w K :=
  yld_of mixed loamlaw6_SuperBack_ann Try.func6 (by kernel_rfl) (loamlaw6_SuperBack_eq t0 t1 w K) h

/-! loam/loamlaw6.SuperBytes: function 7 -/
def loamlaw6_SuperBytes (K : K1) (t0 : Value) (w : World) : Prop :=
 xCall Try.prog (fnv 34) [] w fun t7 w =>
 xUn Try.prog .not t7 w fun t8 w =>
 xIf t8
 (K (.bool false) w)
 (xBuiltin Try.prog .len #[26] 3 [false] [t0] w fun t10 w =>
 xBin Try.prog .gtr 3 false t10 true (.int .i64 1100) w fun t11 w =>
 xIf t11
 (K (.bool true) w)
 (xCall Try.prog (fnv 41) [t0] w fun t14 w =>
 xExtract Try.prog t14 0 w fun t15 w =>
 xExtract Try.prog t14 1 w fun t16 w =>
 xAlloc Try.prog 58 w fun t3 w =>
 xStore Try.prog 58 t3 t15 w fun _ w =>
 xCall Try.prog (fnv 42) [t0] w fun t19 w =>
 xExtract Try.prog t19 0 w fun t20 w =>
 xExtract Try.prog t19 1 w fun t21 w =>
 xAlloc Try.prog 66 w fun t5 w =>
 xStore Try.prog 66 t5 t20 w fun _ w =>
 xSq w.drew fun w =>
 xPur w (fun w K => K t16 w) fun t22 =>
 xPur w (fun w K => K t21 w) fun t23 =>
 xPur w (fun w K => xBin Try.prog .eql 3 false t22 false t23 w K) fun t24 =>
 xPur w (fun w K => K t24 w) fun t25 =>
 xRd w (fun K => xGuard t25 true (fun w K => xLoad Try.prog 58 t3 w K) w K) fun t26 =>
 xRd w (fun K => xGuard t25 true (fun w K => xLoad Try.prog 66 t5 w K) w K) fun t28 =>
 xGuard t25 true (fun w K => xCall Try.prog (fnv 38) [t26] w K) w fun t27 w =>
 xRe w (fun K => xGuard t25 true (fun w K => xLoad Try.prog 66 t5 w K) w K) t28 (
 xPur w (fun w K => xGuard t25 true (fun w K => xBin Try.prog .eql 66 false t27 false t28 w K) w K) fun t29 =>
 xPur w (fun w K => xPick t25 t29 (.bool false) w K) fun t30 =>
 xPur w (fun w K => K t30 w) fun t2 =>
 K t2 w)))
abbrev n_loamlaw6_SuperBytes : Nat := 7
def loamlaw6_SuperBytes_ann : Ann := { loop := fun i => [], wr := fun i => [], told := fun i => bif Nat.beq i 7 then [(0, false, ⟨0, 4194320, some 22⟩), (1, false, ⟨0, 8388672, some 23⟩), (2, false, ⟨3, 29360128, some 24⟩), (3, false, ⟨4, 50331648, some 25⟩), (4, false, ⟨8, 100663304, some 26⟩), (6, false, ⟨8, 301989920, some 28⟩), (5, false, ⟨24, 234881024, some 27⟩), (7, false, ⟨104, 973078528, some 29⟩), (8, false, ⟨136, 1644167168, some 30⟩), (9, false, ⟨511, 1073741828, some 2⟩)] else [], sq := fun i => bif Nat.beq i 7 then some (.rd true 0 (.rd true 1 (.rd true 2 (.rd true 3 (.rd false 4 (.rd false 6 (.ef 5 [6] (.rd true 7 (.rd true 8 (.rd true 9 .done)))))))))) else none }
theorem loamlaw6_SuperBytes_eq (t0 : Value) (w : World) (K : K1) : reads Try.prog loamlaw6_SuperBytes_ann Try.f7 #[t0] w K = loamlaw6_SuperBytes K t0 w := by kernel_rfl
theorem loamlaw6_SuperBytes_of {t0 : Value} {w : World} {K : K1} (h : loamlaw6_SuperBytes K t0 w) : Yld Try.prog n_loamlaw6_SuperBytes #[t0] w K :=
  yld_of mixed loamlaw6_SuperBytes_ann Try.func7 (by kernel_rfl) (loamlaw6_SuperBytes_eq t0 w K) h

/-! loam/loamlaw6.SuperLimits: function 8 -/
def loamlaw6_SuperLimits (K : K1) (t0 t1 t2 : Value) (w : World) : Prop :=
 xBox Try.prog 56 t0 w fun t3 w =>
 xCall Try.prog (fnv 34) [] w fun t10 w =>
 xUn Try.prog .not t10 w fun t11 w =>
 xIf t11
 (K (.bool false) w)
 (xLoad Try.prog 56 t3 w fun t12 w =>
 xCall Try.prog (fnv 35) [t12] w fun t13 w =>
 xUn Try.prog .not t13 w fun t14 w =>
 xIf t14
 (K (.bool true) w)
 (xLoad Try.prog 56 t3 w fun t16 w =>
 xBuild Try.prog 58 [(1, t16), (3, t1), (2, t2)] w fun t19 w =>
 xCall Try.prog (fnv 36) [t19] w fun t20 w =>
 xExtract Try.prog t20 0 w fun t21 w =>
 xExtract Try.prog t20 1 w fun t22 w =>
 xLoad Try.prog 56 t3 w fun t23 w =>
 xCall Try.prog (fnv 44) [t23] w fun t24 w =>
 xCall Try.prog (fnv 43) [t24] w fun t25 w =>
 xBin Try.prog .eql 3 false t25 true (.int .i64 0) w fun t26 w =>
 xGuard t26 true (fun w K => K t1 w) w fun t28 w =>
 xGuard t26 true (fun w K => xBin Try.prog .geq 3 false t28 true (.int .i64 0) w K) w fun t29 w =>
 xPick t26 t29 (.bool false) w fun t30 w =>
 xGuard t30 true (fun w K => K t1 w) w fun t32 w =>
 xGuard t30 true (fun w K => xFieldAddr Try.prog 56 t3 2 w K) w fun t33 w =>
 xGuard t30 true (fun w K => xLoad Try.prog 3 t33 w K) w fun t34 w =>
 xGuard t30 true (fun w K => xBin Try.prog .leq 3 false t32 false t34 w K) w fun t35 w =>
 xPick t30 t35 (.bool false) w fun t36 w =>
 xGuard t36 true (fun w K => K t2 w) w fun t38 w =>
 xGuard t36 true (fun w K => xBin Try.prog .eql 3 false t38 true (.int .i64 0) w K) w fun t39 w =>
 xGuard t36 true (fun w K => K t39 w) w fun t40 w =>
 xGuard t40 false (fun w K => K t2 w) w fun t41 w =>
 xGuard t40 false (fun w K => xBin Try.prog .eql 3 false t41 true (.int .i64 1) w K) w fun t42 w =>
 xGuard t36 true (fun w K => xPick t40 (.bool true) t42 w K) w fun t43 w =>
 xPick t36 t43 (.bool false) w fun t44 w =>
 xBin Try.prog .eql 3 false t22 true (.int .i64 0) w fun t46 w =>
 xBin Try.prog .eql 4 false t46 false t44 w fun t48 w =>
 xGuard t48 true (fun w K => K t44 w) w fun t50 w =>
 xGuard t48 true (fun w K => K t50 w) w fun t51 w =>
 xGuard t51 true (fun w K => K t21 w) w fun t52 w =>
 xGuard t51 true (fun w K => xBuiltin Try.prog .len #[26] 3 [false] [t52] w K) w fun t53 w =>
 xGuard t51 true (fun w K => xFieldAddr Try.prog 56 t3 0 w K) w fun t54 w =>
 xGuard t51 true (fun w K => xLoad Try.prog 3 t54 w K) w fun t55 w =>
 xGuard t51 true (fun w K => xBin Try.prog .eql 3 false t53 false t55 w K) w fun t56 w =>
 xGuard t48 true (fun w K => xPick t51 t56 (.bool false) w K) w fun t57 w =>
 xGuard t48 true (fun w K => K t57 w) w fun t58 w =>
 xGuard t58 false (fun w K => K t44 w) w fun t59 w =>
 xGuard t58 false (fun w K => xUn Try.prog .not t59 w K) w fun t60 w =>
 xGuard t58 false (fun w K => K t60 w) w fun t61 w =>
 xGuard t61 true (fun w K => K t22 w) w fun t62 w =>
 xGuard t61 true (fun w K => xBin Try.prog .eql 3 false t62 true (.int .i64 1) w K) w fun t63 w =>
 xGuard t58 false (fun w K => xPick t61 t63 (.bool false) w K) w fun t64 w =>
 xGuard t58 false (fun w K => K t64 w) w fun t65 w =>
 xGuard t65 true (fun w K => K t21 w) w fun t66 w =>
 xGuard t65 true (fun w K => xBuiltin Try.prog .len #[26] 3 [false] [t66] w K) w fun t67 w =>
 xGuard t65 true (fun w K => xBin Try.prog .eql 3 false t67 true (.int .i64 0) w K) w fun t68 w =>
 xGuard t58 false (fun w K => xPick t65 t68 (.bool false) w K) w fun t69 w =>
 xGuard t48 true (fun w K => xPick t58 (.bool true) t69 w K) w fun t70 w =>
 xPick t48 t70 (.bool false) w fun t71 w =>
 K t71 w))
abbrev n_loamlaw6_SuperLimits : Nat := 8
def loamlaw6_SuperLimits_ann : Ann := { loop := fun i => [], wr := fun i => [], told := fun i => [] }
theorem loamlaw6_SuperLimits_eq (t0 t1 t2 : Value) (w : World) (K : K1) : reads Try.prog loamlaw6_SuperLimits_ann Try.f8 #[t0, t1, t2] w K = loamlaw6_SuperLimits K t0 t1 t2 w := by kernel_rfl
theorem loamlaw6_SuperLimits_of {t0 t1 t2 : Value} {w : World} {K : K1} (h : loamlaw6_SuperLimits K t0 t1 t2 w) : Yld Try.prog n_loamlaw6_SuperLimits #[t0, t1, t2] w K :=
  yld_of mixed loamlaw6_SuperLimits_ann Try.func8 (by kernel_rfl) (loamlaw6_SuperLimits_eq t0 t1 t2 w K) h

/-! loam/loamlaw6.SuperUnlike: function 9 -/
def loamlaw6_SuperUnlike (K : K1) (t0 t1 : Value) (w : World) : Prop :=
 xBox Try.prog 58 t0 w fun t2 w =>
 xBox Try.prog 58 t1 w fun t3 w =>
 xCall Try.prog (fnv 34) [] w fun t9 w =>
 xUn Try.prog .not t9 w fun t10 w =>
 xIf t10
 (K (.bool false) w)
 (xFieldAddr Try.prog 58 t2 1 w fun t11 w =>
 xLoad Try.prog 56 t11 w fun t12 w =>
 xCall Try.prog (fnv 35) [t12] w fun t13 w =>
 xUn Try.prog .not t13 w fun t14 w =>
 xGuard t14 false (fun w K => xFieldAddr Try.prog 58 t3 1 w K) w fun t16 w =>
 xGuard t14 false (fun w K => xLoad Try.prog 56 t16 w K) w fun t17 w =>
 xGuard t14 false (fun w K => xCall Try.prog (fnv 35) [t17] w K) w fun t18 w =>
 xGuard t14 false (fun w K => xUn Try.prog .not t18 w K) w fun t19 w =>
 xPick t14 (.bool true) t19 w fun t20 w =>
 xIf t20
 (K (.bool true) w)
 (xLoad Try.prog 58 t2 w fun t22 w =>
 xCall Try.prog (fnv 36) [t22] w fun t23 w =>
 xExtract Try.prog t23 0 w fun t24 w =>
 xExtract Try.prog t23 1 w fun t25 w =>
 xLoad Try.prog 58 t3 w fun t27 w =>
 xCall Try.prog (fnv 36) [t27] w fun t28 w =>
 xExtract Try.prog t28 0 w fun t29 w =>
 xExtract Try.prog t28 1 w fun t30 w =>
 xBin Try.prog .add 3 false t25 false t30 w fun t33 w =>
 xBin Try.prog .neq 3 false t33 true (.int .i64 0) w fun t34 w =>
 xIf t34
 (K (.bool true) w)
 (xSq w.drew fun w =>
 xPur w (fun w K => K t24 w) fun t35 =>
 xRd w (fun K => xConv Try.prog 26 9 t35 w K) fun t36 =>
 xPur w (fun w K => K t29 w) fun t37 =>
 xRd w (fun K => xConv Try.prog 26 9 t37 w K) fun t38 =>
 xPur w (fun w K => xBin Try.prog .eql 9 false t36 false t38 w K) fun t39 =>
 xRd w (fun K => xLoad Try.prog 58 t2 w K) fun t40 =>
 xRd w (fun K => xLoad Try.prog 58 t3 w K) fun t41 =>
 xPur w (fun w K => xBin Try.prog .eql 58 false t40 false t41 w K) fun t42 =>
 xPur w (fun w K => xBin Try.prog .eql 4 false t39 false t42 w K) fun t43 =>
 xPur w (fun w K => K t43 w) fun t4 =>
 K t4 w)))
abbrev n_loamlaw6_SuperUnlike : Nat := 9
def loamlaw6_SuperUnlike_ann : Ann := { loop := fun i => [], wr := fun i => [], told := fun i => bif Nat.beq i 9 then [(0, false, ⟨0, 34359738400, some 35⟩), (1, false, ⟨1, 103079215104, some 36⟩), (2, false, ⟨0, 137438953600, some 37⟩), (3, false, ⟨4, 412316860416, some 38⟩), (4, false, ⟨10, 893353197568, some 39⟩), (5, false, ⟨0, 1099511627780, some 40⟩), (6, false, ⟨0, 2199023255560, some 41⟩), (7, false, ⟨96, 7696581394432, some 42⟩), (8, false, ⟨144, 13743895347200, some 43⟩), (9, false, ⟨511, 8796093022224, some 4⟩)] else [], sq := fun i => bif Nat.beq i 9 then some (.rd true 0 (.rd false 1 (.rd true 2 (.rd false 3 (.rd true 4 (.rd false 5 (.rd false 6 (.rd true 7 (.rd true 8 (.rd true 9 .done)))))))))) else none }
theorem loamlaw6_SuperUnlike_eq (t0 t1 : Value) (w : World) (K : K1) : reads Try.prog loamlaw6_SuperUnlike_ann Try.f9 #[t0, t1] w K = loamlaw6_SuperUnlike K t0 t1 w := by kernel_rfl
theorem loamlaw6_SuperUnlike_of {t0 t1 : Value} {w : World} {K : K1} (h : loamlaw6_SuperUnlike K t0 t1 w) : Yld Try.prog n_loamlaw6_SuperUnlike #[t0, t1] w K :=
  yld_of mixed loamlaw6_SuperUnlike_ann Try.func9 (by kernel_rfl) (loamlaw6_SuperUnlike_eq t0 t1 w K) h

/-! loam/loamlaw15.SpaceFills: function 10 -/
def loamlaw15_SpaceFills_l2 (K : K1) (nxt0 : List Value → World → Prop) (nxt2 : List Value → World → Prop) (t2 t7 t8 t11 t13 t14 : Value) (w : World) : Prop :=
 xConv Try.prog 5 3 t2 w fun t57_1 w =>
 xBin Try.prog .quo 3 false t57_1 false t8 w fun t59_1 w =>
 xBin Try.prog .lss 3 false t14 false t59_1 w fun t60_1 w =>
 xIf t60_1
 (xLoad Try.prog 80 t7 w fun t65_1 w =>
 xCall Try.prog (fnv 48) [t11, t65_1] w fun t66_1 w =>
 xExtract Try.prog t66_1 0 w fun t67_1 w =>
 xExtract Try.prog t66_1 1 w fun t68_1 w =>
 xBin Try.prog .neq 3 false t68_1 true (.int .i64 0) w fun t70_1 w =>
 xGuard t70_1 false (fun w K => K t67_1 w) w fun t72_1 w =>
 xGuard t70_1 false (fun w K => K t14 w) w fun t73_1 w =>
 xGuard t70_1 false (fun w K => K t8 w) w fun t74_1 w =>
 xGuard t70_1 false (fun w K => xBin Try.prog .mul 3 false t73_1 false t74_1 w K) w fun t75_1 w =>
 xGuard t70_1 false (fun w K => xBin Try.prog .add 3 true (.int .i64 5) false t75_1 w K) w fun t76_1 w =>
 xGuard t70_1 false (fun w K => xBin Try.prog .neq 3 false t72_1 false t76_1 w K) w fun t77_1 w =>
 xPick t70_1 (.bool true) t77_1 w fun t78_1 w =>
 xIf t78_1
 (K (.bool false) w)
 (xBin Try.prog .add 3 false t14 true (.int .i64 1) w fun t62_1 w =>
 nxt2 [t62_1] w))
 (xLoad Try.prog 80 t7 w fun t81_1 w =>
 xCall Try.prog (fnv 48) [t11, t81_1] w fun t82_1 w =>
 xExtract Try.prog t82_1 0 w fun t83_1 w =>
 xExtract Try.prog t82_1 1 w fun t84_1 w =>
 xSq w.drew fun w =>
 xPur w (fun w K => K t84_1 w) fun t85_1 =>
 xPur w (fun w K => xBin Try.prog .neq 3 false t85_1 true (.int .i64 6) w K) fun t86_1 =>
 xPur w (fun w K => K t86_1 w) fun t87_1 =>
 xPur w (fun w K => xGuard t87_1 false (fun w K => K t11 w) w K) fun t88_1 =>
 xPur w (fun w K => xGuard t87_1 false (fun w K => K t2 w) w K) fun t90_1 =>
 xPur w (fun w K => xGuard t87_1 false (fun w K => xConv Try.prog 5 3 t90_1 w K) w K) fun t91_1 =>
 xPur w (fun w K => xGuard t87_1 false (fun w K => K t8 w) w K) fun t92_1 =>
 xPur w (fun w K => xGuard t87_1 false (fun w K => xBin Try.prog .rem 3 false t91_1 false t92_1 w K) w K) fun t93_1 =>
 xGuard t87_1 false (fun w K => xCall Try.prog (fnv 49) [t88_1] w K) w fun t89_1 w =>
 xPur w (fun w K => xGuard t87_1 false (fun w K => xBin Try.prog .neq 3 false t89_1 false t93_1 w K) w K) fun t94_1 =>
 xPur w (fun w K => xPick t87_1 (.bool true) t94_1 w K) fun t95_1 =>
 xIf t95_1
 (K (.bool false) w)
 (xCall Try.prog (fnv 50) [t11] w fun t98_1 w =>
 xExtract Try.prog t98_1 0 w fun t99_1 w =>
 xExtract Try.prog t98_1 1 w fun t100_1 w =>
 xBin Try.prog .neq 3 false t100_1 true (.int .i64 0) w fun t102_1 w =>
 xGuard t102_1 false (fun w K => K t99_1 w) w fun t104_1 w =>
 xGuard t102_1 false (fun w K => xBuiltin Try.prog .len #[89] 3 [false] [t104_1] w K) w fun t105_1 w =>
 xGuard t102_1 false (fun w K => K t2 w) w fun t106_1 w =>
 xGuard t102_1 false (fun w K => xConv Try.prog 5 3 t106_1 w K) w fun t107_1 w =>
 xGuard t102_1 false (fun w K => K t8 w) w fun t108_1 w =>
 xGuard t102_1 false (fun w K => xBin Try.prog .quo 3 false t107_1 false t108_1 w K) w fun t109_1 w =>
 xGuard t102_1 false (fun w K => xBin Try.prog .neq 3 false t105_1 false t109_1 w K) w fun t110_1 w =>
 xPick t102_1 (.bool true) t110_1 w fun t111_1 w =>
 xIf t111_1
 (K (.bool false) w)
 (xCall Try.prog (fnv 51) [t11] w fun t113_1 w =>
 xBin Try.prog .add 3 false t13 true (.int .i64 1) w fun t54_1 w =>
 nxt0 [t54_1] w)))
def loamlaw15_SpaceFills_l1 (K : K1) (nxt0 : List Value → World → Prop) (t2 t7 t8 t11 t13 : Value) (w : World) : Prop :=
 xBin Try.prog .lss 3 false t13 true (.int .i64 2) w fun t52_1 w =>
 xIf t52_1
 (xLoop [(.int .i64 0)] w [14] fun u w nxt2 =>
 loamlaw15_SpaceFills_l2 K nxt0 nxt2 t2 t7 t8 t11 t13 (u 14) w)
 (xCall Try.prog (fnv 52) [t11] w fun t115 w =>
 xBin Try.prog .eql 3 false t115 true (.int .i64 0) w fun t116 w =>
 K t116 w)
def loamlaw15_SpaceFills (K : K1) (t0 t1 t2 : Value) (w : World) : Prop :=
 xCall Try.prog (fnv 45) [] w fun t21 w =>
 xUn Try.prog .not t21 w fun t22 w =>
 xIf t22
 (K (.bool false) w)
 (xBin Try.prog .rem 5 false t0 true (c8 65) w fun t24 w =>
 xConv Try.prog 5 3 t24 w fun t25 w =>
 xConv Try.prog 5 3 t1 w fun t27 w =>
 xBuild Try.prog 80 [(0, t25), (1, t27)] w fun t28 w =>
 xAlloc Try.prog 80 w fun t7 w =>
 xStore Try.prog 80 t7 t28 w fun _ w =>
 xFieldAddr Try.prog 80 t7 0 w fun t29 w =>
 xLoad Try.prog 3 t29 w fun t30 w =>
 xBin Try.prog .add 3 true (.int .i64 1) false t30 w fun t31 w =>
 xFieldAddr Try.prog 80 t7 1 w fun t32 w =>
 xLoad Try.prog 3 t32 w fun t33 w =>
 xBin Try.prog .add 3 false t33 true (.int .i64 7) w fun t34 w =>
 xBin Try.prog .quo 3 false t34 true (.int .i64 8) w fun t35 w =>
 xBin Try.prog .add 3 false t31 false t35 w fun t36 w =>
 xCall Try.prog (fnv 46) [(.int .i64 300)] w fun t38 w =>
 xExtract Try.prog t38 0 w fun t39 w =>
 xExtract Try.prog t38 1 w fun t40 w =>
 xConv Try.prog 5 3 t2 w fun t44 w =>
 xBin Try.prog .add 3 true (.int .i64 5) false t44 w fun t45 w =>
 xCall Try.prog (fnv 47) [t39, (.int .i64 5), t45] w fun t46 w =>
 xExtract Try.prog t46 0 w fun t47 w =>
 xExtract Try.prog t46 1 w fun t48 w =>
 xBin Try.prog .neq 3 false t48 true (.int .i64 0) w fun t50 w =>
 xIf t50
 (K (.bool false) w)
 (xLoop [(.int .i64 0)] w [13] fun u w nxt0 =>
 loamlaw15_SpaceFills_l1 K nxt0 t2 t7 t36 t47 (u 13) w))
abbrev n_loamlaw15_SpaceFills : Nat := 10
def loamlaw15_SpaceFills_ann : Ann := { loop := fun i => bif Nat.beq i 2 then [14] else bif Nat.beq i 0 then [13] else [], wr := fun i => bif Nat.beq i 2 then [6, 14, 15, 16, 55, 56, 57, 58, 59, 60, 61, 62, 63, 64, 65, 66, 67, 68, 69, 70, 71, 72, 73, 74, 75, 76, 77, 78] else bif Nat.beq i 0 then [6, 13, 14, 15, 16, 17, 18, 19, 20, 51, 52, 53, 54, 55, 56, 57, 58, 59, 60, 61, 62, 63, 64, 65, 66, 67, 68, 69, 70, 71, 72, 73, 74, 75, 76, 77, 78, 79, 80, 81, 82, 83, 84, 85, 86, 87, 88, 89, 90, 91, 92, 93, 94, 95, 96, 97, 98, 99, 100, 101, 102, 103, 104, 105, 106, 107, 108, 109, 110, 111, 112, 113] else [], told := fun i => bif Nat.beq i 19 then [(0, false, ⟨0, 38685626227668133590859776, some 85⟩), (1, false, ⟨1, 116056878683004400771792896, some 86⟩), (2, false, ⟨2, 232113757366008801543585792, some 87⟩), (3, false, ⟨4, 464227514732017603087173632, some 88⟩), (5, false, ⟨4, 1392682544196052809261514756, some 90⟩), (6, false, ⟨36, 3868562622766813359059763200, some 91⟩), (7, false, ⟨4, 5106502662052193633958887680, some 92⟩), (8, false, ⟨196, 17485903054905996382950129664, some 93⟩), (4, false, ⟨12, 1083197534374707740536733696, some 89⟩), (9, false, ⟨276, 30484273467402489269390934016, some 94⟩), (10, false, ⟨516, 59575864390608925729520353280, some 95⟩)] else [], sq := fun i => bif Nat.beq i 19 then some (.rd true 0 (.rd true 1 (.rd true 2 (.rd true 3 (.rd true 5 (.rd true 6 (.rd true 7 (.rd true 8 (.ef 4 [] (.rd true 9 (.rd true 10 .done))))))))))) else none }
theorem loamlaw15_SpaceFills_eq (t0 t1 t2 : Value) (w : World) (K : K1) : reads Try.prog loamlaw15_SpaceFills_ann Try.f10 #[t0, t1, t2] w K = loamlaw15_SpaceFills K t0 t1 t2 w := by kernel_rfl
theorem loamlaw15_SpaceFills_of {t0 t1 t2 : Value} {w : World} {K : K1} (h : loamlaw15_SpaceFills K t0 t1 t2 w) : Yld Try.prog n_loamlaw15_SpaceFills #[t0, t1, t2] w K :=
  yld_of mixed loamlaw15_SpaceFills_ann Try.func10 (by kernel_rfl) (loamlaw15_SpaceFills_eq t0 t1 t2 w K) h

/-! loam/loamlaw15.SpaceClears: function 11 -/
def loamlaw15_SpaceClears_j1 (K : K1) (nxt2 : List Value → World → Prop) (t13 t14 t15 t16 : Value) (w : World) : Prop :=
 xBin Try.prog .neq 3 false t15 true (.int .i64 0) w fun t85_1 w =>
 xGuard t85_1 false (fun w K => K t14 w) w fun t87_1 w =>
 xGuard t85_1 false (fun w K => K t16 w) w fun t88_1 w =>
 xGuard t85_1 false (fun w K => xBin Try.prog .neq 29 false t87_1 false t88_1 w K) w fun t89_1 w =>
 xPick t85_1 (.bool true) t89_1 w fun t90_1 w =>
 xIf t90_1
 (K (.bool false) w)
 (xBin Try.prog .add 3 false t13 true (.int .i64 1) w fun t69_1 w =>
 nxt2 [t69_1] w)
def loamlaw15_SpaceClears_l2 (K : K1) (nxt2 : List Value → World → Prop) (t0 t3 t9 t13 : Value) (w : World) : Prop :=
 xBin Try.prog .lss 3 false t13 true (.int .i64 300) w fun t67_1 w =>
 xIf t67_1
 (xNilCheck t9 w fun t72_1 w =>
 xFieldAddr Try.prog 98 t72_1 0 w fun t73_1 w =>
 xLoad Try.prog 81 t73_1 w fun t74_1 w =>
 xCall Try.prog (fnv 55) [t74_1, t13] w fun t76_1 w =>
 xExtract Try.prog t76_1 0 w fun t77_1 w =>
 xExtract Try.prog t76_1 1 w fun t78_1 w =>
 xLoad Try.prog 80 t3 w fun t81_1 w =>
 xCall Try.prog (fnv 56) [t81_1] w fun t82_1 w =>
 xBin Try.prog .lss 3 false t13 false t82_1 w fun t83_1 w =>
 xIf t83_1
 (loamlaw15_SpaceClears_j1 K nxt2 t13 t77_1 t78_1 (c64 0) w)
 (loamlaw15_SpaceClears_j1 K nxt2 t13 t77_1 t78_1 t0 w))
 (K (.bool true) w)
def loamlaw15_SpaceClears_l1 (K : K1) (nxt0 : List Value → World → Prop) (t0 t3 t5 t6 : Value) (w : World) : Prop :=
 xBuiltin Try.prog .len #[30] 3 [false] [t5] w fun t22_1 w =>
 xBin Try.prog .lss 3 false t6 false t22_1 w fun t23_1 w =>
 xIf t23_1
 (xIndexAddr Try.prog 30 t5 t6 w fun t29_1 w =>
 xStore Try.prog 29 t29_1 t0 w fun _ w =>
 xBin Try.prog .add 3 false t6 true (.int .i64 1) w fun t25_1 w =>
 nxt0 [t25_1] w)
 (xCall Try.prog (fnv 53) [t5] w fun t32 w =>
 xExtract Try.prog t32 0 w fun t33 w =>
 xExtract Try.prog t32 1 w fun t34 w =>
 xCall Try.prog (fnv 47) [t33, (.int .i64 0), (.int .i64 300)] w fun t37 w =>
 xExtract Try.prog t37 0 w fun t38 w =>
 xExtract Try.prog t37 1 w fun t39 w =>
 xLoad Try.prog 80 t3 w fun t42 w =>
 xCall Try.prog (fnv 48) [t38, t42] w fun t43 w =>
 xExtract Try.prog t43 0 w fun t44 w =>
 xExtract Try.prog t43 1 w fun t45 w =>
 xLoad Try.prog 80 t3 w fun t46 w =>
 xCall Try.prog (fnv 54) [t46] w fun t47 w =>
 xUn Try.prog .not t47 w fun t48 w =>
 xGuard t48 false (fun w K => xFieldAddr Try.prog 80 t3 2 w K) w fun t50 w =>
 xGuard t48 false (fun w K => xLoad Try.prog 4 t50 w K) w fun t51 w =>
 xPick t48 (.bool true) t51 w fun t52 w =>
 xIf t52
 (xBin Try.prog .eql 3 false t45 true (.int .i64 1) w fun t54 w =>
 xGuard t54 true (fun w K => K t38 w) w fun t56 w =>
 xGuard t54 true (fun w K => xCall Try.prog (fnv 52) [t56] w K) w fun t57 w =>
 xGuard t54 true (fun w K => xBin Try.prog .eql 3 false t57 true (.int .i64 0) w K) w fun t58 w =>
 xPick t54 t58 (.bool false) w fun t59 w =>
 K t59 w)
 (xBin Try.prog .neq 3 false t45 true (.int .i64 0) w fun t61 w =>
 xGuard t61 false (fun w K => K t44 w) w fun t63 w =>
 xGuard t61 false (fun w K => xBin Try.prog .neq 3 false t63 true (.int .i64 0) w K) w fun t64 w =>
 xPick t61 (.bool true) t64 w fun t65 w =>
 xIf t65
 (K (.bool false) w)
 (xLoop [(.int .i64 1)] w [13] fun u w nxt2 =>
 loamlaw15_SpaceClears_l2 K nxt2 t0 t3 t38 (u 13) w)))
def loamlaw15_SpaceClears (K : K1) (t0 t1 : Value) (w : World) : Prop :=
 xBox Try.prog 80 t1 w fun t3 w =>
 xCall Try.prog (fnv 45) [] w fun t17 w =>
 xUn Try.prog .not t17 w fun t18 w =>
 xIf t18
 (K (.bool false) w)
 (xMakeSlice Try.prog 30 (.int .i64 300) (.int .i64 300) w fun t19 w =>
 xLoop [(.int .i64 0)] w [6] fun u w nxt0 =>
 loamlaw15_SpaceClears_l1 K nxt0 t0 t3 t19 (u 6) w)
abbrev n_loamlaw15_SpaceClears : Nat := 11
def loamlaw15_SpaceClears_ann : Ann := { loop := fun i => bif Nat.beq i 2 then [13] else bif Nat.beq i 0 then [6] else [], wr := fun i => bif Nat.beq i 2 then [4, 13, 14, 15, 16, 66, 67, 68, 69, 70, 71, 72, 73, 74, 75, 76, 77, 78, 79, 80, 81, 82, 83, 84, 85, 86, 87, 88, 89, 90] else bif Nat.beq i 0 then [6, 20, 21, 22, 23, 24, 25, 26, 27, 28, 29] else [], told := fun i => [] }
theorem loamlaw15_SpaceClears_eq (t0 t1 : Value) (w : World) (K : K1) : reads Try.prog loamlaw15_SpaceClears_ann Try.f11 #[t0, t1] w K = loamlaw15_SpaceClears K t0 t1 w := by kernel_rfl
theorem loamlaw15_SpaceClears_of {t0 t1 : Value} {w : World} {K : K1} (h : loamlaw15_SpaceClears K t0 t1 w) : Yld Try.prog n_loamlaw15_SpaceClears #[t0, t1] w K :=
  yld_of mixed loamlaw15_SpaceClears_ann Try.func11 (by kernel_rfl) (loamlaw15_SpaceClears_eq t0 t1 w K) h

/-! loam/loamlaw15.SpacePlays: function 12 -/
def loamlaw15_SpacePlays_l3 (K : K1) (nxt4 : List Value → World → Prop) (t1 t2 t9 t12 t27 t28 : Value) (w : World) : Prop :=
 xBin Try.prog .lss 3 false t28 false t2 w fun t185_1 w =>
 xIf t185_1
 (xNilCheck t9 w fun t190_1 w =>
 xFieldAddr Try.prog 98 t190_1 0 w fun t191_1 w =>
 xLoad Try.prog 81 t191_1 w fun t192_1 w =>
 xCall Try.prog (fnv 55) [t192_1, t28] w fun t194_1 w =>
 xExtract Try.prog t194_1 0 w fun t195_1 w =>
 xExtract Try.prog t194_1 1 w fun t196_1 w =>
 xBin Try.prog .neq 29 false t195_1 true (c64 0) w fun t198_1 w =>
 xGuard t198_1 false (fun w K => K t196_1 w) w fun t200_1 w =>
 xGuard t198_1 false (fun w K => xBin Try.prog .neq 3 false t200_1 true (.int .i64 0) w K) w fun t201_1 w =>
 xPick t198_1 (.bool true) t201_1 w fun t202_1 w =>
 xIf t202_1
 (K (.bool false) w)
 (xBin Try.prog .add 3 false t28 true (.int .i64 1) w fun t187_1 w =>
 nxt4 [t187_1] w))
 (xNilCheck t9 w fun t204 w =>
 xFieldAddr Try.prog 98 t204 2 w fun t205 w =>
 xLoad Try.prog 3 t205 w fun t206 w =>
 xBin Try.prog .eql 3 false t206 false t1 w fun t208 w =>
 xGuard t208 true (fun w K => K t27 w) w fun t210 w =>
 xGuard t208 true (fun w K => K t12 w) w fun t211 w =>
 xGuard t208 true (fun w K => xCall Try.prog (fnv 60) [t210, t211] w K) w fun t212 w =>
 xPick t208 t212 (.bool false) w fun t213 w =>
 K t213 w)
def loamlaw15_SpacePlays_l2 (K : K1) (nxt2 : List Value → World → Prop) (t1 t2 t9 t12 t22 : Value) (w : World) : Prop :=
 xNilCheck t12 w fun t149_1 w =>
 xFieldAddr Try.prog 105 t149_1 2 w fun t150_1 w =>
 xLoad Try.prog 3 t150_1 w fun t151_1 w =>
 xBin Try.prog .leq 3 false t22 false t151_1 w fun t152_1 w =>
 xIf t152_1
 (xCall Try.prog (fnv 63) [t9, t22] w fun t158_1 w =>
 xExtract Try.prog t158_1 0 w fun t159_1 w =>
 xExtract Try.prog t158_1 1 w fun t160_1 w =>
 xAlloc Try.prog 80 w fun t23_1 w =>
 xStore Try.prog 80 t23_1 t159_1 w fun _ w =>
 xCall Try.prog (fnv 64) [t12, t22] w fun t164_1 w =>
 xExtract Try.prog t164_1 0 w fun t165_1 w =>
 xExtract Try.prog t164_1 1 w fun t166_1 w =>
 xAlloc Try.prog 108 w fun t25_1 w =>
 xStore Try.prog 108 t25_1 t165_1 w fun _ w =>
 xSq w.drew fun w =>
 xRd w (fun K => xLoad Try.prog 80 t23_1 w K) fun t167_1 =>
 xRd w (fun K => xLoad Try.prog 108 t25_1 w K) fun t169_1 =>
 xCall Try.prog (fnv 59) [t167_1] w fun t168_1 w =>
 xRe w (fun K => xLoad Try.prog 108 t25_1 w K) t169_1 (
 xPur w (fun w K => xBin Try.prog .neq 108 false t168_1 false t169_1 w K) fun t170_1 =>
 xPur w (fun w K => K t170_1 w) fun t171_1 =>
 xPur w (fun w K => xGuard t171_1 false (fun w K => K t160_1 w) w K) fun t172_1 =>
 xPur w (fun w K => xGuard t171_1 false (fun w K => K t166_1 w) w K) fun t173_1 =>
 xPur w (fun w K => xGuard t171_1 false (fun w K => xBin Try.prog .neq 3 false t172_1 false t173_1 w K) w K) fun t174_1 =>
 xPur w (fun w K => xPick t171_1 (.bool true) t174_1 w K) fun t175_1 =>
 xIf t175_1
 (K (.bool false) w)
 (xBin Try.prog .add 3 false t22 true (.int .i64 1) w fun t154_1 w =>
 nxt2 [t154_1] w)))
 (xCall Try.prog (fnv 65) [t9] w fun t177 w =>
 xBin Try.prog .eql 84 false t177 true (.pointer none) w fun t179 w =>
 xIf t179
 (K (.bool false) w)
 (xCall Try.prog (fnv 51) [t9] w fun t181 w =>
 xLoop [t1] w [28] fun u w nxt4 =>
 loamlaw15_SpacePlays_l3 K nxt4 t1 t2 t9 t12 t177 (u 28) w))
def loamlaw15_SpacePlays_l1 (K : K1) (nxt0 : List Value → World → Prop) (t1 t2 t3 t9 t12 t13 : Value) (w : World) : Prop :=
 xBuiltin Try.prog .len #[101] 3 [false] [t3] w fun t86_1 w =>
 xBin Try.prog .lss 3 false t13 false t86_1 w fun t87_1 w =>
 xIf t87_1
 (xIndexAddr Try.prog 101 t3 t13 w fun t94_1 w =>
 xLoad Try.prog 80 t94_1 w fun t95_1 w =>
 xCall Try.prog (fnv 48) [t9, t95_1] w fun t96_1 w =>
 xExtract Try.prog t96_1 0 w fun t97_1 w =>
 xExtract Try.prog t96_1 1 w fun t98_1 w =>
 xIndexAddr Try.prog 101 t3 t13 w fun t103_1 w =>
 xLoad Try.prog 80 t103_1 w fun t104_1 w =>
 xCall Try.prog (fnv 59) [t104_1] w fun t105_1 w =>
 xCall Try.prog (fnv 58) [t12, t105_1] w fun t106_1 w =>
 xExtract Try.prog t106_1 0 w fun t107_1 w =>
 xExtract Try.prog t106_1 1 w fun t108_1 w =>
 xBin Try.prog .neq 3 false t97_1 false t107_1 w fun t111_1 w =>
 xGuard t111_1 false (fun w K => K t98_1 w) w fun t113_1 w =>
 xGuard t111_1 false (fun w K => K t108_1 w) w fun t114_1 w =>
 xGuard t111_1 false (fun w K => xBin Try.prog .neq 3 false t113_1 false t114_1 w K) w fun t115_1 w =>
 xPick t111_1 (.bool true) t115_1 w fun t116_1 w =>
 xGuard t116_1 false (fun w K => K t9 w) w fun t118_1 w =>
 xGuard t116_1 false (fun w K => K t12 w) w fun t119_1 w =>
 xGuard t116_1 false (fun w K => xCall Try.prog (fnv 60) [t118_1, t119_1] w K) w fun t120_1 w =>
 xGuard t116_1 false (fun w K => xUn Try.prog .not t120_1 w K) w fun t121_1 w =>
 xPick t116_1 (.bool true) t121_1 w fun t122_1 w =>
 xIf t122_1
 (K (.bool false) w)
 (xBin Try.prog .add 3 false t13 true (.int .i64 1) w fun t89_1 w =>
 nxt0 [t89_1] w))
 (xCall Try.prog (fnv 50) [t9] w fun t125 w =>
 xExtract Try.prog t125 0 w fun t126 w =>
 xExtract Try.prog t125 1 w fun t127 w =>
 xCall Try.prog (fnv 61) [t12] w fun t130 w =>
 xExtract Try.prog t130 0 w fun t131 w =>
 xExtract Try.prog t130 1 w fun t132 w =>
 xBin Try.prog .neq 3 false t127 true (.int .i64 0) w fun t134 w =>
 xGuard t134 false (fun w K => K t132 w) w fun t136 w =>
 xGuard t134 false (fun w K => xUn Try.prog .not t136 w K) w fun t137 w =>
 xPick t134 (.bool true) t137 w fun t138 w =>
 xGuard t138 false (fun w K => K t126 w) w fun t140 w =>
 xGuard t138 false (fun w K => K t131 w) w fun t141 w =>
 xGuard t138 false (fun w K => xCall Try.prog (fnv 62) [t140, t141] w K) w fun t142 w =>
 xGuard t138 false (fun w K => xUn Try.prog .not t142 w K) w fun t143 w =>
 xPick t138 (.bool true) t143 w fun t144 w =>
 xIf t144
 (K (.bool false) w)
 (xBin Try.prog .sub 3 false t1 true (.int .i64 1) w fun t146 w =>
 xLoop [t146] w [22] fun u w nxt2 =>
 loamlaw15_SpacePlays_l2 K nxt2 t1 t2 t9 t12 (u 22) w))
def loamlaw15_SpacePlays (K : K1) (t0 t1 t2 t3 : Value) (w : World) : Prop :=
 xCall Try.prog (fnv 45) [] w fun t31 w =>
 xUn Try.prog .not t31 w fun t32 w =>
 xIf t32
 (K (.bool false) w)
 (xBuiltin Try.prog .len #[30] 3 [false] [t0] w fun t34 w =>
 xBin Try.prog .gtr 3 false t34 true (.int .i64 400) w fun t35 w =>
 xGuard t35 false (fun w K => K t3 w) w fun t37 w =>
 xGuard t35 false (fun w K => xBuiltin Try.prog .len #[101] 3 [false] [t37] w K) w fun t38 w =>
 xGuard t35 false (fun w K => xBin Try.prog .gtr 3 false t38 true (.int .i64 60) w K) w fun t39 w =>
 xPick t35 (.bool true) t39 w fun t40 w =>
 xIf t40
 (K (.bool true) w)
 (xCall Try.prog (fnv 57) [t0] w fun t43 w =>
 xCall Try.prog (fnv 47) [t43, t1, t2] w fun t46 w =>
 xExtract Try.prog t46 0 w fun t47 w =>
 xExtract Try.prog t46 1 w fun t48 w =>
 xBin Try.prog .geq 3 false t1 true (.int .i64 0) w fun t50 w =>
 xGuard t50 true (fun w K => K t2 w) w fun t52 w =>
 xGuard t50 true (fun w K => K t1 w) w fun t53 w =>
 xGuard t50 true (fun w K => xBin Try.prog .geq 3 false t52 false t53 w K) w fun t54 w =>
 xPick t50 t54 (.bool false) w fun t55 w =>
 xGuard t55 true (fun w K => K t2 w) w fun t57 w =>
 xGuard t55 true (fun w K => K t0 w) w fun t58 w =>
 xGuard t55 true (fun w K => xBuiltin Try.prog .len #[30] 3 [false] [t58] w K) w fun t59 w =>
 xGuard t55 true (fun w K => xBin Try.prog .leq 3 false t57 false t59 w K) w fun t60 w =>
 xPick t55 t60 (.bool false) w fun t61 w =>
 xBin Try.prog .eql 3 false t48 true (.int .i64 0) w fun t63 w =>
 xBin Try.prog .neq 4 false t63 false t61 w fun t65 w =>
 xGuard t65 false (fun w K => K t47 w) w fun t67 w =>
 xGuard t65 false (fun w K => xBin Try.prog .neq 84 false t67 true (.pointer none) w K) w fun t68 w =>
 xGuard t65 false (fun w K => K t61 w) w fun t69 w =>
 xGuard t65 false (fun w K => xBin Try.prog .neq 4 false t68 false t69 w K) w fun t70 w =>
 xPick t65 (.bool true) t70 w fun t71 w =>
 xIf t71
 (K (.bool false) w)
 (xUn Try.prog .not t61 w fun t73 w =>
 xIf t73
 (xBin Try.prog .eql 3 false t48 true (.int .i64 1) w fun t75 w =>
 K t75 w)
 (xBuildSlice Try.prog 30 0 [] w fun t76 w =>
 xBuiltin Try.prog .append #[30, 30] 30 [false, false] [t76, t0] w fun t78 w =>
 xBuild Try.prog 105 [(0, t78), (1, t1), (2, t1), (3, t2)] w fun t82 w =>
 xBox Try.prog 105 t82 w fun t83 w =>
 xLoop [(.int .i64 0)] w [13] fun u w nxt0 =>
 loamlaw15_SpacePlays_l1 K nxt0 t1 t2 t3 t47 t83 (u 13) w))))
abbrev n_loamlaw15_SpacePlays : Nat := 12
def loamlaw15_SpacePlays_ann : Ann := { loop := fun i => bif Nat.beq i 4 then [28] else bif Nat.beq i 2 then [22] else bif Nat.beq i 0 then [13] else [], wr := fun i => bif Nat.beq i 4 then [8, 28, 29, 30, 183, 184, 185, 186, 187, 188, 189, 190, 191, 192, 193, 194, 195, 196, 197, 198, 199, 200, 201, 202] else bif Nat.beq i 2 then [8, 22, 23, 24, 25, 26, 147, 148, 149, 150, 151, 152, 153, 154, 155, 156, 157, 158, 159, 160, 161, 162, 163, 164, 165, 166, 167, 168, 169, 170, 171, 172, 173, 174, 175] else bif Nat.beq i 0 then [8, 13, 14, 15, 16, 17, 84, 85, 86, 87, 88, 89, 90, 91, 92, 93, 94, 95, 96, 97, 98, 99, 100, 101, 102, 103, 104, 105, 106, 107, 108, 109, 110, 111, 112, 113, 114, 115, 116, 117, 118, 119, 120, 121, 122] else [], told := fun i => bif Nat.beq i 28 then [(0, false, ⟨0, 187072209578355573530071658587684226515959373889536, some 167⟩), (2, false, ⟨0, 748288838313422294120286634350736906063837495558144, some 169⟩), (1, false, ⟨1, 561216628735066720590214975763052679547878096502784, some 168⟩), (3, false, ⟨6, 2619010934096978029421003220227579171223431117012992, some 170⟩), (4, false, ⟨10, 4489733029880533764721719806104421436383024772022272, some 171⟩), (5, false, ⟨16, 8979466059761067529443439612208842872766049560821760, some 172⟩), (6, false, ⟨16, 14965776766268445882405732687014738121276749307183104, some 173⟩), (7, false, ⟨112, 44897330298805337647217198061044214363830247720222720, some 174⟩), (8, false, ⟨144, 74828883831342229412028663435073690606383746200371200, some 175⟩)] else [], sq := fun i => bif Nat.beq i 28 then some (.rd false 0 (.rd false 2 (.ef 1 [2] (.rd true 3 (.rd true 4 (.rd true 5 (.rd true 6 (.rd true 7 (.rd true 8 .done))))))))) else none }
theorem loamlaw15_SpacePlays_eq (t0 t1 t2 t3 : Value) (w : World) (K : K1) : reads Try.prog loamlaw15_SpacePlays_ann Try.f12 #[t0, t1, t2, t3] w K = loamlaw15_SpacePlays K t0 t1 t2 t3 w := by kernel_rfl
theorem loamlaw15_SpacePlays_of {t0 t1 t2 t3 : Value} {w : World} {K : K1} (h : loamlaw15_SpacePlays K t0 t1 t2 t3 w) : Yld Try.prog n_loamlaw15_SpacePlays #[t0, t1, t2, t3] w K :=
  yld_of mixed loamlaw15_SpacePlays_ann Try.func12 (by kernel_rfl) (loamlaw15_SpacePlays_eq t0 t1 t2 t3 w K) h

/-! loam/loamlaw15.SpaceWords: function 13 -/
def loamlaw15_SpaceWords (K : K1) (t0 t1 t2 t3 : Value) (w : World) : Prop :=
 xCall Try.prog (fnv 45) [] w fun t16 w =>
 xUn Try.prog .not t16 w fun t17 w =>
 xIf t17
 (K (.bool false) w)
 (xBuiltin Try.prog .len #[30] 3 [false] [t0] w fun t19 w =>
 xBin Try.prog .gtr 3 false t19 true (.int .i64 400) w fun t20 w =>
 xIf t20
 (K (.bool true) w)
 (xCall Try.prog (fnv 57) [t0] w fun t23 w =>
 xCall Try.prog (fnv 66) [t23, t1, t2, t3] w fun t27 w =>
 xExtract Try.prog t27 0 w fun t28 w =>
 xExtract Try.prog t27 1 w fun t29 w =>
 xBin Try.prog .lss 3 false t1 true (.int .i64 0) w fun t31 w =>
 xGuard t31 false (fun w K => K t2 w) w fun t33 w =>
 xGuard t31 false (fun w K => K t1 w) w fun t34 w =>
 xGuard t31 false (fun w K => xBin Try.prog .lss 3 false t33 false t34 w K) w fun t35 w =>
 xPick t31 (.bool true) t35 w fun t36 w =>
 xGuard t36 false (fun w K => K t3 w) w fun t38 w =>
 xGuard t36 false (fun w K => K t2 w) w fun t39 w =>
 xGuard t36 false (fun w K => xBin Try.prog .lss 3 false t38 false t39 w K) w fun t40 w =>
 xPick t36 (.bool true) t40 w fun t41 w =>
 xGuard t41 false (fun w K => K t3 w) w fun t43 w =>
 xGuard t41 false (fun w K => K t0 w) w fun t44 w =>
 xGuard t41 false (fun w K => xBuiltin Try.prog .len #[30] 3 [false] [t44] w K) w fun t45 w =>
 xGuard t41 false (fun w K => xBin Try.prog .gtr 3 false t43 false t45 w K) w fun t46 w =>
 xPick t41 (.bool true) t46 w fun t47 w =>
 xIf t47
 (xBin Try.prog .eql 3 false t29 true (.int .i64 1) w fun t49 w =>
 xGuard t49 true (fun w K => K t28 w) w fun t51 w =>
 xGuard t49 true (fun w K => xBin Try.prog .eql 84 false t51 true (.pointer none) w K) w fun t52 w =>
 xPick t49 t52 (.bool false) w fun t53 w =>
 K t53 w)
 (xBuild Try.prog 105 [(0, t0), (1, t1), (2, t2), (3, t3)] w fun t58 w =>
 xBox Try.prog 105 t58 w fun t59 w =>
 xCall Try.prog (fnv 61) [t59] w fun t62 w =>
 xExtract Try.prog t62 0 w fun t63 w =>
 xExtract Try.prog t62 1 w fun t64 w =>
 xUn Try.prog .not t64 w fun t66 w =>
 xIf t66
 (xBin Try.prog .eql 3 false t29 true (.int .i64 2) w fun t68 w =>
 xGuard t68 true (fun w K => K t28 w) w fun t70 w =>
 xGuard t68 true (fun w K => xBin Try.prog .eql 84 false t70 true (.pointer none) w K) w fun t71 w =>
 xPick t68 t71 (.bool false) w fun t72 w =>
 K t72 w)
 (xBin Try.prog .neq 3 false t29 true (.int .i64 0) w fun t74 w =>
 xGuard t74 false (fun w K => K t28 w) w fun t76 w =>
 xGuard t74 false (fun w K => xBin Try.prog .eql 84 false t76 true (.pointer none) w K) w fun t77 w =>
 xPick t74 (.bool true) t77 w fun t78 w =>
 xIf t78
 (K (.bool false) w)
 (xCall Try.prog (fnv 50) [t28] w fun t81 w =>
 xExtract Try.prog t81 0 w fun t82 w =>
 xExtract Try.prog t81 1 w fun t83 w =>
 xBin Try.prog .eql 3 false t83 true (.int .i64 0) w fun t85 w =>
 xGuard t85 true (fun w K => K t82 w) w fun t87 w =>
 xGuard t85 true (fun w K => K t63 w) w fun t88 w =>
 xGuard t85 true (fun w K => xCall Try.prog (fnv 62) [t87, t88] w K) w fun t89 w =>
 xPick t85 t89 (.bool false) w fun t90 w =>
 xGuard t90 true (fun w K => K t28 w) w fun t92 w =>
 xGuard t90 true (fun w K => K t59 w) w fun t93 w =>
 xGuard t90 true (fun w K => xCall Try.prog (fnv 60) [t92, t93] w K) w fun t94 w =>
 xPick t90 t94 (.bool false) w fun t95 w =>
 K t95 w)))))
abbrev n_loamlaw15_SpaceWords : Nat := 13
def loamlaw15_SpaceWords_ann : Ann := { loop := fun i => [], wr := fun i => [], told := fun i => [] }
theorem loamlaw15_SpaceWords_eq (t0 t1 t2 t3 : Value) (w : World) (K : K1) : reads Try.prog loamlaw15_SpaceWords_ann Try.f13 #[t0, t1, t2, t3] w K = loamlaw15_SpaceWords K t0 t1 t2 t3 w := by kernel_rfl
theorem loamlaw15_SpaceWords_of {t0 t1 t2 t3 : Value} {w : World} {K : K1} (h : loamlaw15_SpaceWords K t0 t1 t2 t3 w) : Yld Try.prog n_loamlaw15_SpaceWords #[t0, t1, t2, t3] w K :=
  yld_of mixed loamlaw15_SpaceWords_ann Try.func13 (by kernel_rfl) (loamlaw15_SpaceWords_eq t0 t1 t2 t3 w K) h

/-! loam/loamlaw5.known: function 14 -/
def loamlaw5_known (K : K1) (w : World) : Prop :=
 xBuild Try.prog 28 [] w fun t7 w =>
 xBox Try.prog 28 t7 w fun t8 w =>
 xCall Try.prog (fnv 16) [t8, (c64 300)] w fun t10 w =>
 xCall Try.prog (fnv 18) [t8, (.int .i64 (-1))] w fun t12 w =>
 xBuildSlice Try.prog 26 2 [(0, (c8 97)), (1, (c8 98))] w fun t14 w =>
 xConv Try.prog 26 26 t14 w fun t15 w =>
 xCall Try.prog (fnv 20) [t8, t15] w fun t16 w =>
 xBuildSlice Try.prog 30 1 [(0, (c64 5))] w fun t18 w =>
 xCall Try.prog (fnv 22) [t8, t18] w fun t19 w =>
 xCall Try.prog (fnv 24) [t8] w fun t21 w =>
 xCall Try.prog (fnv 25) [t21] w fun t22 w =>
 xBin Try.prog .eql 42 false t22 true (.pointer none) w fun t24 w =>
 xIf t24
 (K (.bool false) w)
 (xCall Try.prog (fnv 26) [t22] w fun t26 w =>
 xCall Try.prog (fnv 27) [t22] w fun t28 w =>
 xCall Try.prog (fnv 28) [t22] w fun t30 w =>
 xCall Try.prog (fnv 30) [t22] w fun t32 w =>
 xCall Try.prog (fnv 24) [t8] w fun t34 w =>
 xConv Try.prog 26 9 t34 w fun t35 w =>
 xBin Try.prog .eql 9 false t35 true (.string { data := #[172, 2, 1, 2, 97, 98, 1, 5, 0, 0, 0, 0, 0, 0, 0] }) w fun t36 w =>
 xGuard t36 true (fun w K => K t26 w) w fun t38 w =>
 xGuard t36 true (fun w K => xBin Try.prog .eql 29 false t38 true (c64 300) w K) w fun t39 w =>
 xPick t36 t39 (.bool false) w fun t40 w =>
 xGuard t40 true (fun w K => K t28 w) w fun t42 w =>
 xGuard t40 true (fun w K => xBin Try.prog .eql 2 false t42 true (.int .i64 (-1)) w K) w fun t43 w =>
 xPick t40 t43 (.bool false) w fun t44 w =>
 xGuard t44 true (fun w K => K t30 w) w fun t46 w =>
 xGuard t44 true (fun w K => xConv Try.prog 26 9 t46 w K) w fun t47 w =>
 xGuard t44 true (fun w K => xBin Try.prog .eql 9 false t47 true (.string { data := #[97, 98] }) w K) w fun t48 w =>
 xPick t44 t48 (.bool false) w fun t49 w =>
 xGuard t49 true (fun w K => K t32 w) w fun t51 w =>
 xGuard t49 true (fun w K => xBuiltin Try.prog .len #[30] 3 [false] [t51] w K) w fun t52 w =>
 xGuard t49 true (fun w K => xBin Try.prog .eql 3 false t52 true (.int .i64 1) w K) w fun t53 w =>
 xPick t49 t53 (.bool false) w fun t54 w =>
 xGuard t54 true (fun w K => K t32 w) w fun t56 w =>
 xGuard t54 true (fun w K => xIndexAddr Try.prog 30 t56 (.int .i64 0) w K) w fun t57 w =>
 xGuard t54 true (fun w K => xLoad Try.prog 29 t57 w K) w fun t58 w =>
 xGuard t54 true (fun w K => xBin Try.prog .eql 29 false t58 true (c64 5) w K) w fun t59 w =>
 xPick t54 t59 (.bool false) w fun t60 w =>
 xGuard t60 true (fun w K => K t22 w) w fun t62 w =>
 xGuard t60 true (fun w K => xCall Try.prog (fnv 31) [t62] w K) w fun t63 w =>
 xGuard t60 true (fun w K => xBin Try.prog .eql 3 false t63 true (.int .i64 0) w K) w fun t64 w =>
 xPick t60 t64 (.bool false) w fun t65 w =>
 xGuard t65 true (fun w K => K t22 w) w fun t67 w =>
 xGuard t65 true (fun w K => xCall Try.prog (fnv 32) [t67] w K) w fun t68 w =>
 xGuard t65 true (fun w K => xBin Try.prog .eql 3 false t68 true (.int .i64 0) w K) w fun t69 w =>
 xPick t65 t69 (.bool false) w fun t70 w =>
 K t70 w)
abbrev n_loamlaw5_known : Nat := 14
def loamlaw5_known_ann : Ann := { loop := fun i => [], wr := fun i => [], told := fun i => [] }
theorem loamlaw5_known_eq (w : World) (K : K1) : reads Try.prog loamlaw5_known_ann Try.f14 #[] w K = loamlaw5_known K  w := by kernel_rfl
theorem loamlaw5_known_of {w : World} {K : K1} (h : loamlaw5_known K w) : Yld Try.prog n_loamlaw5_known #[] w K :=
  yld_of mixed loamlaw5_known_ann Try.func14 (by kernel_rfl) (loamlaw5_known_eq  w K) h

/-! loam/loamlaw5.few: function 15 -/
def loamlaw5_few_l1 (K : K1) (nxt0 : List Value → World → Prop) (t0 t3 : Value) (w : World) : Prop :=
 xBuiltin Try.prog .len #[22] 3 [false] [t0] w fun t9_1 w =>
 xBin Try.prog .lss 3 false t3 false t9_1 w fun t10_1 w =>
 xIf t10_1
 (xIndexAddr Try.prog 22 t0 t3 w fun t15_1 w =>
 xFieldAddr Try.prog 32 t15_1 3 w fun t16_1 w =>
 xLoad Try.prog 26 t16_1 w fun t17_1 w =>
 xBuiltin Try.prog .len #[26] 3 [false] [t17_1] w fun t18_1 w =>
 xBin Try.prog .gtr 3 false t18_1 true (.int .i64 500) w fun t19_1 w =>
 xGuard t19_1 false (fun w K => K t0 w) w fun t21_1 w =>
 xGuard t19_1 false (fun w K => K t3 w) w fun t22_1 w =>
 xGuard t19_1 false (fun w K => xIndexAddr Try.prog 22 t21_1 t22_1 w K) w fun t23_1 w =>
 xGuard t19_1 false (fun w K => xFieldAddr Try.prog 32 t23_1 4 w K) w fun t24_1 w =>
 xGuard t19_1 false (fun w K => xLoad Try.prog 30 t24_1 w K) w fun t25_1 w =>
 xGuard t19_1 false (fun w K => xBuiltin Try.prog .len #[30] 3 [false] [t25_1] w K) w fun t26_1 w =>
 xGuard t19_1 false (fun w K => xBin Try.prog .gtr 3 false t26_1 true (.int .i64 100) w K) w fun t27_1 w =>
 xPick t19_1 (.bool true) t27_1 w fun t28_1 w =>
 xIf t28_1
 (K (.bool false) w)
 (xBin Try.prog .add 3 false t3 true (.int .i64 1) w fun t12_1 w =>
 nxt0 [t12_1] w))
 (K (.bool true) w)
def loamlaw5_few (K : K1) (t0 : Value) (w : World) : Prop :=
 xBuiltin Try.prog .len #[22] 3 [false] [t0] w fun t5 w =>
 xBin Try.prog .gtr 3 false t5 true (.int .i64 60) w fun t6 w =>
 xIf t6
 (K (.bool false) w)
 (xLoop [(.int .i64 0)] w [3] fun u w nxt0 =>
 loamlaw5_few_l1 K nxt0 t0 (u 3) w)
abbrev n_loamlaw5_few : Nat := 15
def loamlaw5_few_ann : Ann := { loop := fun i => bif Nat.beq i 0 then [3] else [], wr := fun i => bif Nat.beq i 0 then [2, 3, 7, 8, 9, 10, 11, 12, 13, 14, 15, 16, 17, 18, 19, 20, 21, 22, 23, 24, 25, 26, 27, 28] else [], told := fun i => [] }
theorem loamlaw5_few_eq (t0 : Value) (w : World) (K : K1) : reads Try.prog loamlaw5_few_ann Try.f15 #[t0] w K = loamlaw5_few K t0 w := by kernel_rfl
theorem loamlaw5_few_of {t0 : Value} {w : World} {K : K1} (h : loamlaw5_few K t0 w) : Yld Try.prog n_loamlaw5_few #[t0] w K :=
  yld_of mixed loamlaw5_few_ann Try.func15 (by kernel_rfl) (loamlaw5_few_eq t0 w K) h

/-! (*loam/codec.Enc).Uint: function 16 -/
def codec_Enc_Uint_l1 (K : K1) (nxt0 : List Value → World → Prop) (t0 t1 : Value) (w : World) : Prop :=
 xBin Try.prog .geq 29 false t1 true (c64 128) w fun t5_1 w =>
 xIf t5_1
 (xNilCheck t0 w fun t8_1 w =>
 xFieldAddr Try.prog 28 t8_1 0 w fun t9_1 w =>
 xLoad Try.prog 26 t9_1 w fun t10_1 w =>
 xBin Try.prog .and 29 false t1 true (c64 127) w fun t12_1 w =>
 xConv Try.prog 29 5 t12_1 w fun t13_1 w =>
 xBin Try.prog .or 5 false t13_1 true (c8 128) w fun t14_1 w =>
 xBuildSlice Try.prog 26 1 [(0, t14_1)] w fun t15_1 w =>
 xBuiltin Try.prog .append #[26, 26] 26 [false, false] [t10_1, t15_1] w fun t16_1 w =>
 xNilCheck t0 w fun t17_1 w =>
 xFieldAddr Try.prog 28 t17_1 0 w fun t18_1 w =>
 xStore Try.prog 26 t18_1 t16_1 w fun _ w =>
 xBin Try.prog .shr 29 false t1 true (c64 7) w fun t20_1 w =>
 nxt0 [t20_1] w)
 (xNilCheck t0 w fun t23 w =>
 xFieldAddr Try.prog 28 t23 0 w fun t24 w =>
 xLoad Try.prog 26 t24 w fun t25 w =>
 xConv Try.prog 29 5 t1 w fun t27 w =>
 xBuildSlice Try.prog 26 1 [(0, t27)] w fun t28 w =>
 xBuiltin Try.prog .append #[26, 26] 26 [false, false] [t25, t28] w fun t29 w =>
 xNilCheck t0 w fun t30 w =>
 xFieldAddr Try.prog 28 t30 0 w fun t31 w =>
 xStore Try.prog 26 t31 t29 w fun _ w =>
 K (.tuple #[]) w)
def codec_Enc_Uint (K : K1) (t0 t1 : Value) (w : World) : Prop :=
 xLoop [t1] w [1] fun u w nxt0 =>
 codec_Enc_Uint_l1 K nxt0 t0 (u 1) w
abbrev n_codec_Enc_Uint : Nat := 16
def codec_Enc_Uint_ann : Ann := { loop := fun i => bif Nat.beq i 0 then [1] else [], wr := fun i => bif Nat.beq i 0 then [1, 4, 5, 6, 7, 8, 9, 10, 11, 12, 13, 14, 15, 16, 17, 18, 19, 20] else [], told := fun i => [] }
theorem codec_Enc_Uint_eq (t0 t1 : Value) (w : World) (K : K1) : reads Try.prog codec_Enc_Uint_ann Try.f16 #[t0, t1] w K = codec_Enc_Uint K t0 t1 w := by kernel_rfl
theorem codec_Enc_Uint_of {t0 t1 : Value} {w : World} {K : K1} (h : codec_Enc_Uint K t0 t1 w) : Yld Try.prog n_codec_Enc_Uint #[t0, t1] w K :=
  yld_of mixed codec_Enc_Uint_ann Try.func16 (by kernel_rfl) (codec_Enc_Uint_eq t0 t1 w K) h

/-! loam/loamref5.Uint: function 17 -/
def loamref5_Uint_l1 (K : K1) (nxt0 : List Value → World → Prop) (t0 t3 : Value) (w : World) : Prop :=
 xBin Try.prog .geq 29 false t0 true (c64 128) w fun t5_1 w =>
 xIf t5_1
 (xBin Try.prog .and 29 false t0 true (c64 127) w fun t8_1 w =>
 xBin Try.prog .or 29 false t8_1 true (c64 128) w fun t9_1 w =>
 xConv Try.prog 29 5 t9_1 w fun t10_1 w =>
 xBuildSlice Try.prog 26 1 [(0, t10_1)] w fun t11_1 w =>
 xBuiltin Try.prog .append #[26, 26] 26 [false, false] [t3, t11_1] w fun t12_1 w =>
 xBin Try.prog .shr 29 false t0 true (c64 7) w fun t14_1 w =>
 nxt0 [t14_1, t12_1] w)
 (xConv Try.prog 29 5 t0 w fun t17 w =>
 xBuildSlice Try.prog 26 1 [(0, t17)] w fun t18 w =>
 xBuiltin Try.prog .append #[26, 26] 26 [false, false] [t3, t18] w fun t19 w =>
 K t19 w)
def loamref5_Uint (K : K1) (t0 : Value) (w : World) : Prop :=
 xLoop [t0, (.slice none 0 0)] w [0, 3] fun u w nxt0 =>
 loamref5_Uint_l1 K nxt0 (u 0) (u 3) w
abbrev n_loamref5_Uint : Nat := 17
def loamref5_Uint_ann : Ann := { loop := fun i => bif Nat.beq i 0 then [0, 3] else [], wr := fun i => bif Nat.beq i 0 then [0, 3, 4, 5, 6, 7, 8, 9, 10, 11, 12, 13, 14] else [], told := fun i => [] }
theorem loamref5_Uint_eq (t0 : Value) (w : World) (K : K1) : reads Try.prog loamref5_Uint_ann Try.f17 #[t0] w K = loamref5_Uint K t0 w := by kernel_rfl
theorem loamref5_Uint_of {t0 : Value} {w : World} {K : K1} (h : loamref5_Uint K t0 w) : Yld Try.prog n_loamref5_Uint #[t0] w K :=
  yld_of mixed loamref5_Uint_ann Try.func17 (by kernel_rfl) (loamref5_Uint_eq t0 w K) h

/-! (*loam/codec.Enc).Int: function 18 -/
def codec_Enc_Int (K : K1) (t0 t1 : Value) (w : World) : Prop :=
 xConv Try.prog 2 29 t1 w fun t6 w =>
 xBin Try.prog .shl 29 false t6 true (c64 1) w fun t7 w =>
 xBin Try.prog .shr 2 false t1 true (c64 63) w fun t9 w =>
 xConv Try.prog 2 29 t9 w fun t10 w =>
 xBin Try.prog .xor 29 false t7 false t10 w fun t11 w =>
 xCall Try.prog (fnv 16) [t0, t11] w fun t12 w =>
 K (.tuple #[]) w
abbrev n_codec_Enc_Int : Nat := 18
def codec_Enc_Int_ann : Ann := { loop := fun i => [], wr := fun i => [], told := fun i => [] }
theorem codec_Enc_Int_eq (t0 t1 : Value) (w : World) (K : K1) : reads Try.prog codec_Enc_Int_ann Try.f18 #[t0, t1] w K = codec_Enc_Int K t0 t1 w := by kernel_rfl
theorem codec_Enc_Int_of {t0 t1 : Value} {w : World} {K : K1} (h : codec_Enc_Int K t0 t1 w) : Yld Try.prog n_codec_Enc_Int #[t0, t1] w K :=
  yld_of mixed codec_Enc_Int_ann Try.func18 (by kernel_rfl) (codec_Enc_Int_eq t0 t1 w K) h

/-! loam/loamref5.Zig: function 19 -/
def loamref5_Zig (K : K1) (t0 : Value) (w : World) : Prop :=
 xBin Try.prog .lss 2 false t0 true (.int .i64 0) w fun t4 w =>
 xIf t4
 (xBin Try.prog .add 2 false t0 true (.int .i64 1) w fun t6 w =>
 xBin Try.prog .sub 2 true (.int .i64 0) false t6 w fun t7 w =>
 xConv Try.prog 2 29 t7 w fun t8 w =>
 xBin Try.prog .shl 29 false t8 true (c64 1) w fun t9 w =>
 xBin Try.prog .or 29 false t9 true (c64 1) w fun t10 w =>
 K t10 w)
 (xConv Try.prog 2 29 t0 w fun t12 w =>
 xBin Try.prog .shl 29 false t12 true (c64 1) w fun t13 w =>
 K t13 w)
abbrev n_loamref5_Zig : Nat := 19
def loamref5_Zig_ann : Ann := { loop := fun i => [], wr := fun i => [], told := fun i => [] }
theorem loamref5_Zig_eq (t0 : Value) (w : World) (K : K1) : reads Try.prog loamref5_Zig_ann Try.f19 #[t0] w K = loamref5_Zig K t0 w := by kernel_rfl
theorem loamref5_Zig_of {t0 : Value} {w : World} {K : K1} (h : loamref5_Zig K t0 w) : Yld Try.prog n_loamref5_Zig #[t0] w K :=
  yld_of mixed loamref5_Zig_ann Try.func19 (by kernel_rfl) (loamref5_Zig_eq t0 w K) h

/-! (*loam/codec.Enc).Raw: function 20 -/
def codec_Enc_Raw (K : K1) (t0 t1 : Value) (w : World) : Prop :=
 xBuiltin Try.prog .len #[26] 3 [false] [t1] w fun t6 w =>
 xConv Try.prog 3 29 t6 w fun t7 w =>
 xCall Try.prog (fnv 16) [t0, t7] w fun t8 w =>
 xNilCheck t0 w fun t11 w =>
 xFieldAddr Try.prog 28 t11 0 w fun t12 w =>
 xLoad Try.prog 26 t12 w fun t13 w =>
 xBuiltin Try.prog .append #[26, 26] 26 [false, false] [t13, t1] w fun t15 w =>
 xNilCheck t0 w fun t16 w =>
 xFieldAddr Try.prog 28 t16 0 w fun t17 w =>
 xStore Try.prog 26 t17 t15 w fun _ w =>
 K (.tuple #[]) w
abbrev n_codec_Enc_Raw : Nat := 20
def codec_Enc_Raw_ann : Ann := { loop := fun i => [], wr := fun i => [], told := fun i => [] }
theorem codec_Enc_Raw_eq (t0 t1 : Value) (w : World) (K : K1) : reads Try.prog codec_Enc_Raw_ann Try.f20 #[t0, t1] w K = codec_Enc_Raw K t0 t1 w := by kernel_rfl
theorem codec_Enc_Raw_of {t0 t1 : Value} {w : World} {K : K1} (h : codec_Enc_Raw K t0 t1 w) : Yld Try.prog n_codec_Enc_Raw #[t0, t1] w K :=
  yld_of mixed codec_Enc_Raw_ann Try.func20 (by kernel_rfl) (codec_Enc_Raw_eq t0 t1 w K) h

/-! loam/loamref5.Raw: function 21 -/
def loamref5_Raw (K : K1) (t0 : Value) (w : World) : Prop :=
 xBuiltin Try.prog .len #[26] 3 [false] [t0] w fun t4 w =>
 xConv Try.prog 3 29 t4 w fun t5 w =>
 xCall Try.prog (fnv 17) [t5] w fun t6 w =>
 xBuiltin Try.prog .append #[26, 26] 26 [false, false] [t6, t0] w fun t8 w =>
 K t8 w
abbrev n_loamref5_Raw : Nat := 21
def loamref5_Raw_ann : Ann := { loop := fun i => [], wr := fun i => [], told := fun i => [] }
theorem loamref5_Raw_eq (t0 : Value) (w : World) (K : K1) : reads Try.prog loamref5_Raw_ann Try.f21 #[t0] w K = loamref5_Raw K t0 w := by kernel_rfl
theorem loamref5_Raw_of {t0 : Value} {w : World} {K : K1} (h : loamref5_Raw K t0 w) : Yld Try.prog n_loamref5_Raw #[t0] w K :=
  yld_of mixed loamref5_Raw_ann Try.func21 (by kernel_rfl) (loamref5_Raw_eq t0 w K) h

/-! (*loam/codec.Enc).Words: function 22 -/
def codec_Enc_Words_l2 (K : K1) (nxt0 : List Value → World → Prop) (nxt2 : List Value → World → Prop) (t0 t5 t14 t18 : Value) (w : World) : Prop :=
 xBin Try.prog .lss 3 false t18 true (.int .i64 8) w fun t19_1 w =>
 xIf t19_1
 (xDraw w.drew fun le H =>
 xDet le (H) (fun w K => K t0 w) fun t21_1 =>
 xDet le (H) (fun w K => K t0 w) fun t22_1 =>
 xDet le (H) (fun w K => xNilCheck t22_1 w K) fun t23_1 =>
 xDet le (H) (fun w K => xFieldAddr Try.prog 28 t23_1 0 w K) fun t24_1 =>
 xDet le (H) (fun w K => xLoad Try.prog 26 t24_1 w K) fun t25_1 =>
 xDet le (H) (fun w K => K t5 w) fun t26_1 =>
 xDet le (H) (fun w K => K t18 w) fun t27_1 =>
 xDet le (H) (fun w K => xBin Try.prog .mul 3 true (.int .i64 8) false t27_1 w K) fun t28_1 =>
 xDet le (H) (fun w K => xBin Try.prog .shr 29 false t26_1 false t28_1 w K) fun t29_1 =>
 xDet le (H) (fun w K => xConv Try.prog 29 5 t29_1 w K) fun t30_1 =>
 xNon le (H) (fun w K => xBuildSlice Try.prog 26 1 [(0, t30_1)] w K) fun t31_1 h10 =>
 xNon le (fun w => H w ∧ h10 w) (fun w K => xBuiltin Try.prog .append #[26, 26] 26 [false, false] [t25_1, t31_1] w K) fun t32_1 h11 =>
 xDet le (fun w => (H w ∧ h10 w) ∧ h11 w) (fun w K => xNilCheck t21_1 w K) fun t33_1 =>
 xDet le (fun w => (H w ∧ h10 w) ∧ h11 w) (fun w K => xFieldAddr Try.prog 28 t33_1 0 w K) fun t34_1 =>
 xEnd (fun w => (H w ∧ h10 w) ∧ h11 w) fun w =>
 xStore Try.prog 26 t34_1 t32_1 w fun _x14 w =>
 xBin Try.prog .add 3 false t18 true (.int .i64 1) w fun t35_1 w =>
 nxt2 [t35_1] w)
 (xBin Try.prog .add 3 false t14 true (.int .i64 1) w fun t36_1 w =>
 nxt0 [t36_1] w)
def codec_Enc_Words_l1 (K : K1) (nxt0 : List Value → World → Prop) (t0 t12 t13 t14 : Value) (w : World) : Prop :=
 xBin Try.prog .lss 3 false t14 false t13 w fun t15_1 w =>
 xIf t15_1
 (xIndexAddr Try.prog 30 t12 t14 w fun t16_1 w =>
 xLoad Try.prog 29 t16_1 w fun t17_1 w =>
 xLoop [(.int .i64 0)] w [18] fun u w nxt2 =>
 codec_Enc_Words_l2 K nxt0 nxt2 t0 t17_1 t14 (u 18) w)
 (K (.tuple #[]) w)
def codec_Enc_Words (K : K1) (t0 t1 : Value) (w : World) : Prop :=
 xBuiltin Try.prog .len #[30] 3 [false] [t1] w fun t9 w =>
 xConv Try.prog 3 29 t9 w fun t10 w =>
 xCall Try.prog (fnv 16) [t0, t10] w fun t11 w =>
 xBuiltin Try.prog .len #[30] 3 [false] [t1] w fun t13 w =>
 xLoop [(.int .i64 0)] w [14] fun u w nxt0 =>
 codec_Enc_Words_l1 K nxt0 t0 t1 t13 (u 14) w
abbrev n_codec_Enc_Words : Nat := 22
def codec_Enc_Words_ann : Ann := { loop := fun i => bif Nat.beq i 2 then [18] else bif Nat.beq i 0 then [14] else [], wr := fun i => bif Nat.beq i 2 then [6, 18, 19, 20, 21, 22, 23, 24, 25, 26, 27, 28, 29, 30, 31, 32, 33, 34, 35] else bif Nat.beq i 0 then [5, 6, 14, 15, 16, 17, 18, 19, 20, 21, 22, 23, 24, 25, 26, 27, 28, 29, 30, 31, 32, 33, 34, 35, 36] else [], told := fun i => bif Nat.beq i 7 then [(0, false, ⟨0, 2097153, some 21⟩), (1, false, ⟨0, 4194305, some 22⟩), (2, false, ⟨2, 12582912, some 23⟩), (3, false, ⟨4, 25165824, some 24⟩), (4, false, ⟨8, 50331648, some 25⟩), (5, false, ⟨0, 67108896, some 26⟩), (6, false, ⟨0, 134217792, some 27⟩), (7, false, ⟨64, 402653184, some 28⟩), (8, false, ⟨160, 872415232, some 29⟩), (9, false, ⟨256, 1610612736, some 30⟩), (10, true, ⟨512, 3221225472, some 31⟩), (11, true, ⟨1040, 6476005376, some 32⟩), (12, false, ⟨4095, 8592031744, some 33⟩), (13, false, ⟨8191, 25769803776, some 34⟩), (14, true, ⟨12287, 21474836480, none⟩)] else [] }
theorem codec_Enc_Words_eq (t0 t1 : Value) (w : World) (K : K1) : reads Try.prog codec_Enc_Words_ann Try.f22 #[t0, t1] w K = codec_Enc_Words K t0 t1 w := by kernel_rfl
theorem codec_Enc_Words_of {t0 t1 : Value} {w : World} {K : K1} (h : codec_Enc_Words K t0 t1 w) : Yld Try.prog n_codec_Enc_Words #[t0, t1] w K :=
  yld_of mixed codec_Enc_Words_ann Try.func22 (by kernel_rfl) (codec_Enc_Words_eq t0 t1 w K) h

/-! loam/loamref5.Words: function 23 -/
def loamref5_Words_l1 (K : K1) (nxt0 : List Value → World → Prop) (t0 t3 t4 : Value) (w : World) : Prop :=
 xBuiltin Try.prog .len #[30] 3 [false] [t0] w fun t11_1 w =>
 xBin Try.prog .lss 3 false t4 false t11_1 w fun t12_1 w =>
 xIf t12_1
 (xIndexAddr Try.prog 30 t0 t4 w fun t18_1 w =>
 xLoad Try.prog 29 t18_1 w fun t19_1 w =>
 xCall Try.prog (fnv 67) [t19_1, (.int .i64 8)] w fun t20_1 w =>
 xBuiltin Try.prog .append #[26, 26] 26 [false, false] [t3, t20_1] w fun t21_1 w =>
 xBin Try.prog .add 3 false t4 true (.int .i64 1) w fun t14_1 w =>
 nxt0 [t21_1, t14_1] w)
 (K t3 w)
def loamref5_Words (K : K1) (t0 : Value) (w : World) : Prop :=
 xBuiltin Try.prog .len #[30] 3 [false] [t0] w fun t6 w =>
 xConv Try.prog 3 29 t6 w fun t7 w =>
 xCall Try.prog (fnv 17) [t7] w fun t8 w =>
 xLoop [t8, (.int .i64 0)] w [3, 4] fun u w nxt0 =>
 loamref5_Words_l1 K nxt0 t0 (u 3) (u 4) w
abbrev n_loamref5_Words : Nat := 23
def loamref5_Words_ann : Ann := { loop := fun i => bif Nat.beq i 0 then [3, 4] else [], wr := fun i => bif Nat.beq i 0 then [3, 4, 9, 10, 11, 12, 13, 14, 15, 16, 17, 18, 19, 20, 21] else [], told := fun i => [] }
theorem loamref5_Words_eq (t0 : Value) (w : World) (K : K1) : reads Try.prog loamref5_Words_ann Try.f23 #[t0] w K = loamref5_Words K t0 w := by kernel_rfl
theorem loamref5_Words_of {t0 : Value} {w : World} {K : K1} (h : loamref5_Words K t0 w) : Yld Try.prog n_loamref5_Words #[t0] w K :=
  yld_of mixed loamref5_Words_ann Try.func23 (by kernel_rfl) (loamref5_Words_eq t0 w K) h

/-! (*loam/codec.Enc).Bytes: function 24 -/
def codec_Enc_Bytes (K : K1) (t0 : Value) (w : World) : Prop :=
 xNilCheck t0 w fun t4 w =>
 xFieldAddr Try.prog 28 t4 0 w fun t5 w =>
 xLoad Try.prog 26 t5 w fun t6 w =>
 xCall Try.prog (fnv 69) [t6] w fun t7 w =>
 xCall Try.prog (fnv 68) [t7] w fun t8 w =>
 K t8 w
abbrev n_codec_Enc_Bytes : Nat := 24
def codec_Enc_Bytes_ann : Ann := { loop := fun i => [], wr := fun i => [], told := fun i => [] }
theorem codec_Enc_Bytes_eq (t0 : Value) (w : World) (K : K1) : reads Try.prog codec_Enc_Bytes_ann Try.f24 #[t0] w K = codec_Enc_Bytes K t0 w := by kernel_rfl
theorem codec_Enc_Bytes_of {t0 : Value} {w : World} {K : K1} (h : codec_Enc_Bytes K t0 w) : Yld Try.prog n_codec_Enc_Bytes #[t0] w K :=
  yld_of mixed codec_Enc_Bytes_ann Try.func24 (by kernel_rfl) (codec_Enc_Bytes_eq t0 w K) h

/-! loam/codec.Of: function 25 -/
def codec_Of (K : K1) (t0 : Value) (w : World) : Prop :=
 xCall Try.prog (fnv 69) [t0] w fun t4 w =>
 xBuild Try.prog 124 [(0, t4)] w fun t5 w =>
 xBox Try.prog 124 t5 w fun t6 w =>
 K t6 w
abbrev n_codec_Of : Nat := 25
def codec_Of_ann : Ann := { loop := fun i => [], wr := fun i => [], told := fun i => [] }
theorem codec_Of_eq (t0 : Value) (w : World) (K : K1) : reads Try.prog codec_Of_ann Try.f25 #[t0] w K = codec_Of K t0 w := by kernel_rfl
theorem codec_Of_of {t0 : Value} {w : World} {K : K1} (h : codec_Of K t0 w) : Yld Try.prog n_codec_Of #[t0] w K :=
  yld_of mixed codec_Of_ann Try.func25 (by kernel_rfl) (codec_Of_eq t0 w K) h

/-! (*loam/codec.Dec).Uint: function 26 -/
def codec_Dec_Uint_j1 (K : K1) (t0 : Value) (w : World) : Prop :=
 xCall Try.prog (fnv 70) [t0, (.int .i64 2)] w fun t65_1 w =>
 K (c64 0) w
def codec_Dec_Uint_l1 (K : K1) (nxt0 : List Value → World → Prop) (t0 t3 t6 : Value) (w : World) : Prop :=
 xBin Try.prog .lss 3 false t6 true (.int .i64 10) w fun t7_1 w =>
 xIf t7_1
 (xNilCheck t0 w fun t11_1 w =>
 xFieldAddr Try.prog 124 t11_1 0 w fun t12_1 w =>
 xLoad Try.prog 26 t12_1 w fun t13_1 w =>
 xBuiltin Try.prog .len #[26] 3 [false] [t13_1] w fun t14_1 w =>
 xBin Try.prog .geq 3 false t6 false t14_1 w fun t15_1 w =>
 xIf t15_1
 (xNilCheck t0 w fun t17_1 w =>
 xFieldAddr Try.prog 124 t17_1 1 w fun t18_1 w =>
 xLoad Try.prog 49 t18_1 w fun t19_1 w =>
 xBin Try.prog .eql 49 false t19_1 true (.int .i64 0) w fun t20_1 w =>
 xIf t20_1
 (xCall Try.prog (fnv 70) [t0, (.int .i64 3)] w fun t22_1 w =>
 K (c64 0) w)
 (K (c64 0) w))
 (xNilCheck t0 w fun t24_1 w =>
 xFieldAddr Try.prog 124 t24_1 0 w fun t25_1 w =>
 xLoad Try.prog 26 t25_1 w fun t26_1 w =>
 xIndexAddr Try.prog 26 t26_1 t6 w fun t28_1 w =>
 xLoad Try.prog 5 t28_1 w fun t29_1 w =>
 xBin Try.prog .eql 3 false t6 true (.int .i64 9) w fun t31_1 w =>
 xGuard t31_1 true (fun w K => K t29_1 w) w fun t33_1 w =>
 xGuard t31_1 true (fun w K => xBin Try.prog .gtr 5 false t33_1 true (c8 1) w K) w fun t34_1 w =>
 xPick t31_1 t34_1 (.bool false) w fun t35_1 w =>
 xIf t35_1
 (codec_Dec_Uint_j1 K t0 w)
 (xBin Try.prog .and 5 false t29_1 true (c8 127) w fun t38_1 w =>
 xConv Try.prog 5 29 t38_1 w fun t39_1 w =>
 xBin Try.prog .mul 3 true (.int .i64 7) false t6 w fun t41_1 w =>
 xBin Try.prog .shl 29 false t39_1 false t41_1 w fun t42_1 w =>
 xBin Try.prog .or 29 false t3 false t42_1 w fun t43_1 w =>
 xBin Try.prog .lss 5 false t29_1 true (c8 128) w fun t45_1 w =>
 xIf t45_1
 (xBin Try.prog .eql 5 false t29_1 true (c8 0) w fun t47_1 w =>
 xGuard t47_1 true (fun w K => K t6 w) w fun t49_1 w =>
 xGuard t47_1 true (fun w K => xBin Try.prog .gtr 3 false t49_1 true (.int .i64 0) w K) w fun t50_1 w =>
 xPick t47_1 t50_1 (.bool false) w fun t51_1 w =>
 xIf t51_1
 (codec_Dec_Uint_j1 K t0 w)
 (xNilCheck t0 w fun t54_1 w =>
 xFieldAddr Try.prog 124 t54_1 0 w fun t55_1 w =>
 xLoad Try.prog 26 t55_1 w fun t56_1 w =>
 xBin Try.prog .add 3 false t6 true (.int .i64 1) w fun t58_1 w =>
 xSlice Try.prog 26 t56_1 (some t58_1) none none w fun t59_1 w =>
 xNilCheck t0 w fun t60_1 w =>
 xFieldAddr Try.prog 124 t60_1 0 w fun t61_1 w =>
 xStore Try.prog 26 t61_1 t59_1 w fun _ w =>
 K t43_1 w))
 (xBin Try.prog .add 3 false t6 true (.int .i64 1) w fun t63_1 w =>
 nxt0 [t43_1, t63_1] w))))
 (codec_Dec_Uint_j1 K t0 w)
def codec_Dec_Uint (K : K1) (t0 : Value) (w : World) : Prop :=
 xLoop [(c64 0), (.int .i64 0)] w [3, 6] fun u w nxt0 =>
 codec_Dec_Uint_l1 K nxt0 t0 (u 3) (u 6) w
abbrev n_codec_Dec_Uint : Nat := 26
def codec_Dec_Uint_ann : Ann := { loop := fun i => bif Nat.beq i 0 then [3, 6] else [], wr := fun i => bif Nat.beq i 0 then [2, 3, 4, 5, 6, 7, 8, 9, 10, 11, 12, 13, 14, 15, 16, 17, 18, 19, 20, 21, 22, 23, 24, 25, 26, 27, 28, 29, 30, 31, 32, 33, 34, 35, 36, 37, 38, 39, 40, 41, 42, 43, 44, 45, 46, 47, 48, 49, 50, 51, 52, 53, 54, 55, 56, 57, 58, 59, 60, 61, 62, 63] else [], told := fun i => [] }
theorem codec_Dec_Uint_eq (t0 : Value) (w : World) (K : K1) : reads Try.prog codec_Dec_Uint_ann Try.f26 #[t0] w K = codec_Dec_Uint K t0 w := by kernel_rfl
theorem codec_Dec_Uint_of {t0 : Value} {w : World} {K : K1} (h : codec_Dec_Uint K t0 w) : Yld Try.prog n_codec_Dec_Uint #[t0] w K :=
  yld_of mixed codec_Dec_Uint_ann Try.func26 (by kernel_rfl) (codec_Dec_Uint_eq t0 w K) h

/-! (*loam/codec.Dec).Int: function 27 -/
def codec_Dec_Int (K : K1) (t0 : Value) (w : World) : Prop :=
 xCall Try.prog (fnv 26) [t0] w fun t5 w =>
 xBin Try.prog .shr 29 false t5 true (c64 1) w fun t7 w =>
 xConv Try.prog 29 2 t7 w fun t8 w =>
 xBin Try.prog .and 29 false t5 true (c64 1) w fun t10 w =>
 xConv Try.prog 29 2 t10 w fun t11 w =>
 xUn Try.prog .neg t11 w fun t12 w =>
 xBin Try.prog .xor 2 false t8 false t12 w fun t13 w =>
 K t13 w
abbrev n_codec_Dec_Int : Nat := 27
def codec_Dec_Int_ann : Ann := { loop := fun i => [], wr := fun i => [], told := fun i => [] }
theorem codec_Dec_Int_eq (t0 : Value) (w : World) (K : K1) : reads Try.prog codec_Dec_Int_ann Try.f27 #[t0] w K = codec_Dec_Int K t0 w := by kernel_rfl
theorem codec_Dec_Int_of {t0 : Value} {w : World} {K : K1} (h : codec_Dec_Int K t0 w) : Yld Try.prog n_codec_Dec_Int #[t0] w K :=
  yld_of mixed codec_Dec_Int_ann Try.func27 (by kernel_rfl) (codec_Dec_Int_eq t0 w K) h

/-! (*loam/codec.Dec).Raw: function 28 -/
def codec_Dec_Raw (K : K1) (t0 : Value) (w : World) : Prop :=
 xCall Try.prog (fnv 26) [t0] w fun t5 w =>
 xCall Try.prog (fnv 71) [t0, t5, (.int .i64 1)] w fun t6 w =>
 K t6 w
abbrev n_codec_Dec_Raw : Nat := 28
def codec_Dec_Raw_ann : Ann := { loop := fun i => [], wr := fun i => [], told := fun i => [] }
theorem codec_Dec_Raw_eq (t0 : Value) (w : World) (K : K1) : reads Try.prog codec_Dec_Raw_ann Try.f28 #[t0] w K = codec_Dec_Raw K t0 w := by kernel_rfl
theorem codec_Dec_Raw_of {t0 : Value} {w : World} {K : K1} (h : codec_Dec_Raw K t0 w) : Yld Try.prog n_codec_Dec_Raw #[t0] w K :=
  yld_of mixed codec_Dec_Raw_ann Try.func28 (by kernel_rfl) (codec_Dec_Raw_eq t0 w K) h

/-! loam/loamlaw5.words: function 29 -/
def loamlaw5_words_l1 (K : K1) (nxt0 : List Value → World → Prop) (t0 t1 t5 : Value) (w : World) : Prop :=
 xBuiltin Try.prog .len #[30] 3 [false] [t0] w fun t13_1 w =>
 xBin Try.prog .lss 3 false t5 false t13_1 w fun t14_1 w =>
 xIf t14_1
 (xSq w.drew fun w =>
 xPur w (fun w K => K t0 w) fun t17_1 =>
 xPur w (fun w K => K t5 w) fun t18_1 =>
 xPur w (fun w K => xIndexAddr Try.prog 30 t17_1 t18_1 w K) fun t19_1 =>
 xRd w (fun K => xLoad Try.prog 29 t19_1 w K) fun t20_1 =>
 xPur w (fun w K => K t1 w) fun t21_1 =>
 xPur w (fun w K => K t5 w) fun t22_1 =>
 xPur w (fun w K => xIndexAddr Try.prog 30 t21_1 t22_1 w K) fun t23_1 =>
 xRd w (fun K => xLoad Try.prog 29 t23_1 w K) fun t24_1 =>
 xPur w (fun w K => xBin Try.prog .neq 29 false t20_1 false t24_1 w K) fun t25_1 =>
 xIf t25_1
 (K (.bool false) w)
 (xBin Try.prog .add 3 false t5 true (.int .i64 1) w fun t16_1 w =>
 nxt0 [t16_1] w))
 (K (.bool true) w)
def loamlaw5_words (K : K1) (t0 t1 : Value) (w : World) : Prop :=
 xBuiltin Try.prog .len #[30] 3 [false] [t0] w fun t7 w =>
 xBuiltin Try.prog .len #[30] 3 [false] [t1] w fun t9 w =>
 xBin Try.prog .neq 3 false t7 false t9 w fun t10 w =>
 xIf t10
 (K (.bool false) w)
 (xLoop [(.int .i64 0)] w [5] fun u w nxt0 =>
 loamlaw5_words_l1 K nxt0 t0 t1 (u 5) w)
abbrev n_loamlaw5_words : Nat := 29
def loamlaw5_words_ann : Ann := { loop := fun i => bif Nat.beq i 0 then [5] else [], wr := fun i => bif Nat.beq i 0 then [4, 5, 11, 12, 13, 14, 15, 16, 17, 18, 19, 20, 21, 22, 23, 24, 25] else [], told := fun i => bif Nat.beq i 6 then [(0, false, ⟨0, 131073, some 17⟩), (1, false, ⟨0, 262176, some 18⟩), (2, false, ⟨3, 917504, some 19⟩), (3, false, ⟨4, 1572864, some 20⟩), (4, false, ⟨0, 2097154, some 21⟩), (5, false, ⟨0, 4194336, some 22⟩), (6, false, ⟨48, 14680064, some 23⟩), (7, false, ⟨64, 25165824, some 24⟩), (8, false, ⟨136, 51380224, some 25⟩)] else [], sq := fun i => bif Nat.beq i 6 then some (.rd true 0 (.rd true 1 (.rd true 2 (.rd false 3 (.rd true 4 (.rd true 5 (.rd true 6 (.rd false 7 (.rd true 8 .done))))))))) else none }
theorem loamlaw5_words_eq (t0 t1 : Value) (w : World) (K : K1) : reads Try.prog loamlaw5_words_ann Try.f29 #[t0, t1] w K = loamlaw5_words K t0 t1 w := by kernel_rfl
theorem loamlaw5_words_of {t0 t1 : Value} {w : World} {K : K1} (h : loamlaw5_words K t0 t1 w) : Yld Try.prog n_loamlaw5_words #[t0, t1] w K :=
  yld_of mixed loamlaw5_words_ann Try.func29 (by kernel_rfl) (loamlaw5_words_eq t0 t1 w K) h

/-! (*loam/codec.Dec).Words: function 30 -/
def codec_Dec_Words_l1 (K : K1) (nxt0 : List Value → World → Prop) (t3 t4 t5 : Value) (w : World) : Prop :=
 xBuiltin Try.prog .len #[26] 3 [false] [t3] w fun t14_1 w =>
 xBin Try.prog .lss 3 false t5 false t14_1 w fun t15_1 w =>
 xIf t15_1
 (xCall Try.prog (fnv 72) [t3, t5, (.int .i64 8)] w fun t21_1 w =>
 xExtract Try.prog t21_1 0 w fun t22_1 w =>
 xExtract Try.prog t21_1 1 w fun t23_1 w =>
 xBuildSlice Try.prog 30 1 [(0, t22_1)] w fun t26_1 w =>
 xBuiltin Try.prog .append #[30, 30] 30 [false, false] [t4, t26_1] w fun t27_1 w =>
 xBin Try.prog .add 3 false t5 true (.int .i64 8) w fun t17_1 w =>
 nxt0 [t27_1, t17_1] w)
 (xCall Try.prog (fnv 73) [t4] w fun t29 w =>
 K t29 w)
def codec_Dec_Words (K : K1) (t0 : Value) (w : World) : Prop :=
 xCall Try.prog (fnv 26) [t0] w fun t10 w =>
 xCall Try.prog (fnv 71) [t0, t10, (.int .i64 8)] w fun t11 w =>
 xLoop [(.slice none 0 0), (.int .i64 0)] w [4, 5] fun u w nxt0 =>
 codec_Dec_Words_l1 K nxt0 t11 (u 4) (u 5) w
abbrev n_codec_Dec_Words : Nat := 30
def codec_Dec_Words_ann : Ann := { loop := fun i => bif Nat.beq i 0 then [4, 5] else [], wr := fun i => bif Nat.beq i 0 then [4, 5, 6, 7, 12, 13, 14, 15, 16, 17, 18, 19, 20, 21, 22, 23, 24, 25, 26, 27] else [], told := fun i => [] }
theorem codec_Dec_Words_eq (t0 : Value) (w : World) (K : K1) : reads Try.prog codec_Dec_Words_ann Try.f30 #[t0] w K = codec_Dec_Words K t0 w := by kernel_rfl
theorem codec_Dec_Words_of {t0 : Value} {w : World} {K : K1} (h : codec_Dec_Words K t0 w) : Yld Try.prog n_codec_Dec_Words #[t0] w K :=
  yld_of mixed codec_Dec_Words_ann Try.func30 (by kernel_rfl) (codec_Dec_Words_eq t0 w K) h

/-! (*loam/codec.Dec).Left: function 31 -/
def codec_Dec_Left (K : K1) (t0 : Value) (w : World) : Prop :=
 xNilCheck t0 w fun t4 w =>
 xFieldAddr Try.prog 124 t4 0 w fun t5 w =>
 xLoad Try.prog 26 t5 w fun t6 w =>
 xBuiltin Try.prog .len #[26] 3 [false] [t6] w fun t7 w =>
 K t7 w
abbrev n_codec_Dec_Left : Nat := 31
def codec_Dec_Left_ann : Ann := { loop := fun i => [], wr := fun i => [], told := fun i => [] }
theorem codec_Dec_Left_eq (t0 : Value) (w : World) (K : K1) : reads Try.prog codec_Dec_Left_ann Try.f31 #[t0] w K = codec_Dec_Left K t0 w := by kernel_rfl
theorem codec_Dec_Left_of {t0 : Value} {w : World} {K : K1} (h : codec_Dec_Left K t0 w) : Yld Try.prog n_codec_Dec_Left #[t0] w K :=
  yld_of mixed codec_Dec_Left_ann Try.func31 (by kernel_rfl) (codec_Dec_Left_eq t0 w K) h

/-! (*loam/codec.Dec).Err: function 32 -/
def codec_Dec_Err (K : K1) (t0 : Value) (w : World) : Prop :=
 xNilCheck t0 w fun t4 w =>
 xFieldAddr Try.prog 124 t4 1 w fun t5 w =>
 xLoad Try.prog 49 t5 w fun t6 w =>
 K t6 w
abbrev n_codec_Dec_Err : Nat := 32
def codec_Dec_Err_ann : Ann := { loop := fun i => [], wr := fun i => [], told := fun i => [] }
theorem codec_Dec_Err_eq (t0 : Value) (w : World) (K : K1) : reads Try.prog codec_Dec_Err_ann Try.f32 #[t0] w K = codec_Dec_Err K t0 w := by kernel_rfl
theorem codec_Dec_Err_of {t0 : Value} {w : World} {K : K1} (h : codec_Dec_Err K t0 w) : Yld Try.prog n_codec_Dec_Err #[t0] w K :=
  yld_of mixed codec_Dec_Err_ann Try.func32 (by kernel_rfl) (codec_Dec_Err_eq t0 w K) h

/-! loam/loamref5.Zag: function 33 -/
def loamref5_Zag (K : K1) (t0 : Value) (w : World) : Prop :=
 xBin Try.prog .shr 29 false t0 true (c64 1) w fun t5 w =>
 xConv Try.prog 29 2 t5 w fun t6 w =>
 xBin Try.prog .and 29 false t0 true (c64 1) w fun t8 w =>
 xBin Try.prog .eql 29 false t8 true (c64 1) w fun t9 w =>
 xIf t9
 (xBin Try.prog .sub 2 true (.int .i64 0) false t6 w fun t11 w =>
 xBin Try.prog .sub 2 false t11 true (.int .i64 1) w fun t12 w =>
 K t12 w)
 (K t6 w)
abbrev n_loamref5_Zag : Nat := 33
def loamref5_Zag_ann : Ann := { loop := fun i => [], wr := fun i => [], told := fun i => [] }
theorem loamref5_Zag_eq (t0 : Value) (w : World) (K : K1) : reads Try.prog loamref5_Zag_ann Try.f33 #[t0] w K = loamref5_Zag K t0 w := by kernel_rfl
theorem loamref5_Zag_of {t0 : Value} {w : World} {K : K1} (h : loamref5_Zag K t0 w) : Yld Try.prog n_loamref5_Zag #[t0] w K :=
  yld_of mixed loamref5_Zag_ann Try.func33 (by kernel_rfl) (loamref5_Zag_eq t0 w K) h

/-! loam/loamlaw6.known: function 34 -/
def loamlaw6_known (K : K1) (w : World) : Prop :=
 xBuild Try.prog 56 [(0, (.int .i64 64)), (1, (.int .i64 8)), (2, (.int .i64 64))] w fun t10 w =>
 xBuild Try.prog 58 [(0, (c64 3)), (1, t10), (2, (.int .i64 1)), (3, (.int .i64 9)), (4, (c64 4))] w fun t11 w =>
 xAlloc Try.prog 58 w fun t1 w =>
 xStore Try.prog 58 t1 t11 w fun _ w =>
 xLoad Try.prog 58 t1 w fun t13 w =>
 xCall Try.prog (fnv 36) [t13] w fun t14 w =>
 xExtract Try.prog t14 0 w fun t15 w =>
 xExtract Try.prog t14 1 w fun t16 w =>
 xCall Try.prog (fnv 41) [t15] w fun t19 w =>
 xExtract Try.prog t19 0 w fun t20 w =>
 xExtract Try.prog t19 1 w fun t21 w =>
 xAlloc Try.prog 58 w fun t4 w =>
 xStore Try.prog 58 t4 t20 w fun _ w =>
 xBuild Try.prog 58 [] w fun t23 w =>
 xCall Try.prog (fnv 36) [t23] w fun t24 w =>
 xExtract Try.prog t24 0 w fun t25 w =>
 xExtract Try.prog t24 1 w fun t26 w =>
 xCall Try.prog (fnv 41) [(.slice none 0 0)] w fun t28 w =>
 xExtract Try.prog t28 0 w fun t29 w =>
 xExtract Try.prog t28 1 w fun t30 w =>
 xAlloc Try.prog 58 w fun t8 w =>
 xStore Try.prog 58 t8 t29 w fun _ w =>
 xBin Try.prog .add 3 false t16 false t21 w fun t33 w =>
 xBin Try.prog .eql 3 false t33 true (.int .i64 0) w fun t34 w =>
 xGuard t34 true (fun w K => K t15 w) w fun t36 w =>
 xGuard t34 true (fun w K => xBuiltin Try.prog .len #[26] 3 [false] [t36] w K) w fun t37 w =>
 xGuard t34 true (fun w K => xBin Try.prog .eql 3 false t37 true (.int .i64 64) w K) w fun t38 w =>
 xPick t34 t38 (.bool false) w fun t39 w =>
 xGuard t39 true (fun w K => K t15 w) w fun t41 w =>
 xGuard t39 true (fun w K => xSlice Try.prog 26 t41 none (some (.int .i64 4)) none w K) w fun t42 w =>
 xGuard t39 true (fun w K => xConv Try.prog 26 9 t42 w K) w fun t43 w =>
 xGuard t39 true (fun w K => xBin Try.prog .eql 9 false t43 true (.string { data := #[76, 79, 65, 77] }) w K) w fun t44 w =>
 xPick t39 t44 (.bool false) w fun t45 w =>
 xGuard t45 true (fun w K => xLoad Try.prog 58 t4 w K) w fun t47 w =>
 xGuard t45 true (fun w K => xLoad Try.prog 58 t1 w K) w fun t48 w =>
 xGuard t45 true (fun w K => xBin Try.prog .eql 58 false t47 false t48 w K) w fun t49 w =>
 xPick t45 t49 (.bool false) w fun t50 w =>
 xGuard t50 true (fun w K => K t26 w) w fun t52 w =>
 xGuard t50 true (fun w K => xBin Try.prog .eql 3 false t52 true (.int .i64 1) w K) w fun t53 w =>
 xPick t50 t53 (.bool false) w fun t54 w =>
 xGuard t54 true (fun w K => K t30 w) w fun t56 w =>
 xGuard t54 true (fun w K => xBin Try.prog .eql 3 false t56 true (.int .i64 2) w K) w fun t57 w =>
 xPick t54 t57 (.bool false) w fun t58 w =>
 xGuard t58 true (fun w K => xLoad Try.prog 58 t1 w K) w fun t60 w =>
 xGuard t58 true (fun w K => xBuild Try.prog 58 [(0, (c64 2))] w K) w fun t61 w =>
 xGuard t58 true (fun w K => xCall Try.prog (fnv 39) [t60, t61] w K) w fun t62 w =>
 xPick t58 t62 (.bool false) w fun t63 w =>
 xGuard t63 true (fun w K => xCall Try.prog (fnv 40) [(c64 3)] w K) w fun t65 w =>
 xGuard t63 true (fun w K => xBin Try.prog .eql 3 false t65 true (.int .i64 1) w K) w fun t66 w =>
 xPick t63 t66 (.bool false) w fun t67 w =>
 K t67 w
abbrev n_loamlaw6_known : Nat := 34
def loamlaw6_known_ann : Ann := { loop := fun i => [], wr := fun i => [], told := fun i => [] }
theorem loamlaw6_known_eq (w : World) (K : K1) : reads Try.prog loamlaw6_known_ann Try.f34 #[] w K = loamlaw6_known K  w := by kernel_rfl
theorem loamlaw6_known_of {w : World} {K : K1} (h : loamlaw6_known K w) : Yld Try.prog n_loamlaw6_known #[] w K :=
  yld_of mixed loamlaw6_known_ann Try.func34 (by kernel_rfl) (loamlaw6_known_eq  w K) h

/-! loam/loamlaw6.Few: function 35 -/
def loamlaw6_Few (K : K1) (t0 : Value) (w : World) : Prop :=
 xBox Try.prog 56 t0 w fun t1 w =>
 xFieldAddr Try.prog 56 t1 0 w fun t3 w =>
 xLoad Try.prog 3 t3 w fun t4 w =>
 xBin Try.prog .geq 3 false t4 true (.int .i64 8) w fun t5 w =>
 xGuard t5 true (fun w K => xFieldAddr Try.prog 56 t1 0 w K) w fun t7 w =>
 xGuard t5 true (fun w K => xLoad Try.prog 3 t7 w K) w fun t8 w =>
 xGuard t5 true (fun w K => xBin Try.prog .leq 3 false t8 true (.int .i64 1048576) w K) w fun t9 w =>
 xPick t5 t9 (.bool false) w fun t10 w =>
 xGuard t10 true (fun w K => xFieldAddr Try.prog 56 t1 2 w K) w fun t12 w =>
 xGuard t10 true (fun w K => xLoad Try.prog 3 t12 w K) w fun t13 w =>
 xGuard t10 true (fun w K => xBin Try.prog .geq 3 false t13 true (.int .i64 (-1048576)) w K) w fun t14 w =>
 xPick t10 t14 (.bool false) w fun t15 w =>
 xGuard t15 true (fun w K => xFieldAddr Try.prog 56 t1 2 w K) w fun t17 w =>
 xGuard t15 true (fun w K => xLoad Try.prog 3 t17 w K) w fun t18 w =>
 xGuard t15 true (fun w K => xBin Try.prog .leq 3 false t18 true (.int .i64 1048576) w K) w fun t19 w =>
 xPick t15 t19 (.bool false) w fun t20 w =>
 xGuard t20 true (fun w K => xFieldAddr Try.prog 56 t1 1 w K) w fun t22 w =>
 xGuard t20 true (fun w K => xLoad Try.prog 3 t22 w K) w fun t23 w =>
 xGuard t20 true (fun w K => xBin Try.prog .geq 3 false t23 true (.int .i64 (-1048576)) w K) w fun t24 w =>
 xPick t20 t24 (.bool false) w fun t25 w =>
 xGuard t25 true (fun w K => xFieldAddr Try.prog 56 t1 1 w K) w fun t27 w =>
 xGuard t25 true (fun w K => xLoad Try.prog 3 t27 w K) w fun t28 w =>
 xGuard t25 true (fun w K => xBin Try.prog .leq 3 false t28 true (.int .i64 1048576) w K) w fun t29 w =>
 xPick t25 t29 (.bool false) w fun t30 w =>
 K t30 w
abbrev n_loamlaw6_Few : Nat := 35
def loamlaw6_Few_ann : Ann := { loop := fun i => [], wr := fun i => [], told := fun i => [] }
theorem loamlaw6_Few_eq (t0 : Value) (w : World) (K : K1) : reads Try.prog loamlaw6_Few_ann Try.f35 #[t0] w K = loamlaw6_Few K t0 w := by kernel_rfl
theorem loamlaw6_Few_of {t0 : Value} {w : World} {K : K1} (h : loamlaw6_Few K t0 w) : Yld Try.prog n_loamlaw6_Few #[t0] w K :=
  yld_of mixed loamlaw6_Few_ann Try.func35 (by kernel_rfl) (loamlaw6_Few_eq t0 w K) h

/-! loam/sup.Encode: function 36 -/
def sup_Encode_l1 (K : K1) (nxt0 : List Value → World → Prop) (t5 t43 t44 t45 : Value) (w : World) : Prop :=
 xBin Try.prog .lss 3 false t45 false t44 w fun t46_1 w =>
 xIf t46_1
 (xIndexAddr Try.prog 129 t43 t45 w fun t47_1 w =>
 xLoad Try.prog 132 t47_1 w fun t48_1 w =>
 xAlloc Try.prog 132 w fun t7_1 w =>
 xStore Try.prog 132 t7_1 t48_1 w fun _ w =>
 xFieldAddr Try.prog 132 t7_1 0 w fun t51_1 w =>
 xLoad Try.prog 3 t51_1 w fun t52_1 w =>
 xFieldAddr Try.prog 132 t7_1 1 w fun t53_1 w =>
 xLoad Try.prog 3 t53_1 w fun t54_1 w =>
 xFieldAddr Try.prog 132 t7_1 2 w fun t55_1 w =>
 xLoad Try.prog 29 t55_1 w fun t56_1 w =>
 xCall Try.prog (fnv 76) [t5, t52_1, t54_1, t56_1] w fun t57_1 w =>
 xExtract Try.prog t57_1 0 w fun t58_1 w =>
 xExtract Try.prog t57_1 1 w fun t59_1 w =>
 xBin Try.prog .add 3 false t45 true (.int .i64 1) w fun t60_1 w =>
 nxt0 [t58_1, t60_1] w)
 (xCall Try.prog (fnv 77) [t5] w fun t62 w =>
 K (.tuple #[t62, (.int .i64 0)]) w)
def sup_Encode (K : K1) (t0 : Value) (w : World) : Prop :=
 xBox Try.prog 58 t0 w fun t1 w =>
 xFieldAddr Try.prog 58 t1 1 w fun t8 w =>
 xLoad Try.prog 56 t8 w fun t9 w =>
 xCall Try.prog (fnv 74) [t9] w fun t10 w =>
 xBin Try.prog .neq 49 false t10 true (.int .i64 0) w fun t12 w =>
 xIf t12
 (K (.tuple #[(.slice none 0 0), t10]) w)
 (xFieldAddr Try.prog 58 t1 2 w fun t14 w =>
 xLoad Try.prog 3 t14 w fun t15 w =>
 xBin Try.prog .lss 3 false t15 true (.int .i64 0) w fun t16 w =>
 xGuard t16 false (fun w K => xFieldAddr Try.prog 58 t1 2 w K) w fun t18 w =>
 xGuard t16 false (fun w K => xLoad Try.prog 3 t18 w K) w fun t19 w =>
 xGuard t16 false (fun w K => xBin Try.prog .gtr 3 false t19 true (.int .i64 1) w K) w fun t20 w =>
 xPick t16 (.bool true) t20 w fun t21 w =>
 xGuard t21 false (fun w K => xFieldAddr Try.prog 58 t1 3 w K) w fun t23 w =>
 xGuard t21 false (fun w K => xLoad Try.prog 3 t23 w K) w fun t24 w =>
 xGuard t21 false (fun w K => xBin Try.prog .lss 3 false t24 true (.int .i64 0) w K) w fun t25 w =>
 xPick t21 (.bool true) t25 w fun t26 w =>
 xGuard t26 false (fun w K => xFieldAddr Try.prog 58 t1 3 w K) w fun t28 w =>
 xGuard t26 false (fun w K => xLoad Try.prog 3 t28 w K) w fun t29 w =>
 xGuard t26 false (fun w K => xFieldAddr Try.prog 58 t1 1 w K) w fun t30 w =>
 xGuard t26 false (fun w K => xFieldAddr Try.prog 56 t30 2 w K) w fun t31 w =>
 xGuard t26 false (fun w K => xLoad Try.prog 3 t31 w K) w fun t32 w =>
 xGuard t26 false (fun w K => xBin Try.prog .gtr 3 false t29 false t32 w K) w fun t33 w =>
 xPick t26 (.bool true) t33 w fun t34 w =>
 xIf t34
 (K (.tuple #[(.slice none 0 0), (.int .i64 1)]) w)
 (xFieldAddr Try.prog 58 t1 1 w fun t35 w =>
 xFieldAddr Try.prog 56 t35 0 w fun t36 w =>
 xLoad Try.prog 3 t36 w fun t37 w =>
 xBin Try.prog .sub 3 false t37 true (.int .i64 4) w fun t38 w =>
 xMakeSlice Try.prog 26 t38 t38 w fun t39 w =>
 xBuiltin Try.prog .copy #[26, 9] 3 [false, true] [t39, (.string { data := #[76, 79, 65, 77] })] w fun t41 w =>
 xLoad Try.prog 58 t1 w fun t42 w =>
 xCall Try.prog (fnv 75) [t42] w fun t43 w =>
 xBuiltin Try.prog .len #[129] 3 [false] [t43] w fun t44 w =>
 xLoop [t39, (.int .i64 0)] w [5, 45] fun u w nxt0 =>
 sup_Encode_l1 K nxt0 (u 5) t43 t44 (u 45) w))
abbrev n_sup_Encode : Nat := 36
def sup_Encode_ann : Ann := { loop := fun i => bif Nat.beq i 0 then [5, 45] else [], wr := fun i => bif Nat.beq i 0 then [5, 7, 45, 46, 47, 48, 49, 50, 51, 52, 53, 54, 55, 56, 57, 58, 59, 60] else [], told := fun i => [] }
theorem sup_Encode_eq (t0 : Value) (w : World) (K : K1) : reads Try.prog sup_Encode_ann Try.f36 #[t0] w K = sup_Encode K t0 w := by kernel_rfl
theorem sup_Encode_of {t0 : Value} {w : World} {K : K1} (h : sup_Encode K t0 w) : Yld Try.prog n_sup_Encode #[t0] w K :=
  yld_of mixed sup_Encode_ann Try.func36 (by kernel_rfl) (sup_Encode_eq t0 w K) h

/-! loam/loamref6.Encode: function 37 -/
def loamref6_Encode_l1 (K : K1) (nxt0 : List Value → World → Prop) (t1 t4 : Value) (w : World) : Prop :=
 xBuiltin Try.prog .len #[26] 3 [false] [t4] w fun t80_1 w =>
 xFieldAddr Try.prog 66 t1 1 w fun t81_1 w =>
 xFieldAddr Try.prog 64 t81_1 0 w fun t82_1 w =>
 xLoad Try.prog 3 t82_1 w fun t83_1 w =>
 xBin Try.prog .sub 3 false t83_1 true (.int .i64 4) w fun t84_1 w =>
 xBin Try.prog .lss 3 false t80_1 false t84_1 w fun t85_1 w =>
 xIf t85_1
 (xBuildSlice Try.prog 26 1 [(0, (c8 0))] w fun t87_1 w =>
 xBuiltin Try.prog .append #[26, 26] 26 [false, false] [t4, t87_1] w fun t88_1 w =>
 nxt0 [t88_1] w)
 (xCall Try.prog (fnv 78) [t4] w fun t90 w =>
 K (.tuple #[t90, (.int .i64 0)]) w)
def loamref6_Encode (K : K1) (t0 : Value) (w : World) : Prop :=
 xBox Try.prog 66 t0 w fun t1 w =>
 xFieldAddr Try.prog 66 t1 1 w fun t5 w =>
 xLoad Try.prog 64 t5 w fun t6 w =>
 xCall Try.prog (fnv 43) [t6] w fun t7 w =>
 xBin Try.prog .neq 3 false t7 true (.int .i64 0) w fun t8 w =>
 xGuard t8 false (fun w K => xFieldAddr Try.prog 66 t1 2 w K) w fun t10 w =>
 xGuard t8 false (fun w K => xLoad Try.prog 3 t10 w K) w fun t11 w =>
 xGuard t8 false (fun w K => xBin Try.prog .neq 3 false t11 true (.int .i64 0) w K) w fun t12 w =>
 xGuard t8 false (fun w K => K t12 w) w fun t13 w =>
 xGuard t13 true (fun w K => xFieldAddr Try.prog 66 t1 2 w K) w fun t14 w =>
 xGuard t13 true (fun w K => xLoad Try.prog 3 t14 w K) w fun t15 w =>
 xGuard t13 true (fun w K => xBin Try.prog .neq 3 false t15 true (.int .i64 1) w K) w fun t16 w =>
 xGuard t8 false (fun w K => xPick t13 t16 (.bool false) w K) w fun t17 w =>
 xPick t8 (.bool true) t17 w fun t18 w =>
 xGuard t18 false (fun w K => xFieldAddr Try.prog 66 t1 3 w K) w fun t20 w =>
 xGuard t18 false (fun w K => xLoad Try.prog 3 t20 w K) w fun t21 w =>
 xGuard t18 false (fun w K => xBin Try.prog .lss 3 false t21 true (.int .i64 0) w K) w fun t22 w =>
 xPick t18 (.bool true) t22 w fun t23 w =>
 xGuard t23 false (fun w K => xFieldAddr Try.prog 66 t1 3 w K) w fun t25 w =>
 xGuard t23 false (fun w K => xLoad Try.prog 3 t25 w K) w fun t26 w =>
 xGuard t23 false (fun w K => xFieldAddr Try.prog 66 t1 1 w K) w fun t27 w =>
 xGuard t23 false (fun w K => xFieldAddr Try.prog 64 t27 2 w K) w fun t28 w =>
 xGuard t23 false (fun w K => xLoad Try.prog 3 t28 w K) w fun t29 w =>
 xGuard t23 false (fun w K => xBin Try.prog .gtr 3 false t26 false t29 w K) w fun t30 w =>
 xPick t23 (.bool true) t30 w fun t31 w =>
 xIf t31
 (K (.tuple #[(.slice none 0 0), (.int .i64 1)]) w)
 (xBuildSlice Try.prog 26 4 [(0, (c8 76)), (1, (c8 79)), (2, (c8 65)), (3, (c8 77))] w fun t32 w =>
 xConv Try.prog 26 26 t32 w fun t33 w =>
 xBuildSlice Try.prog 26 4 [(0, (c8 1)), (1, (c8 0)), (2, (c8 0)), (3, (c8 0))] w fun t34 w =>
 xBuiltin Try.prog .append #[26, 26] 26 [false, false] [t33, t34] w fun t35 w =>
 xFieldAddr Try.prog 66 t1 0 w fun t37 w =>
 xLoad Try.prog 29 t37 w fun t38 w =>
 xCall Try.prog (fnv 67) [t38, (.int .i64 8)] w fun t39 w =>
 xBuiltin Try.prog .append #[26, 26] 26 [false, false] [t35, t39] w fun t40 w =>
 xFieldAddr Try.prog 66 t1 1 w fun t42 w =>
 xFieldAddr Try.prog 64 t42 0 w fun t43 w =>
 xLoad Try.prog 3 t43 w fun t44 w =>
 xConv Try.prog 3 29 t44 w fun t45 w =>
 xCall Try.prog (fnv 67) [t45, (.int .i64 4)] w fun t46 w =>
 xBuiltin Try.prog .append #[26, 26] 26 [false, false] [t40, t46] w fun t47 w =>
 xFieldAddr Try.prog 66 t1 1 w fun t49 w =>
 xFieldAddr Try.prog 64 t49 1 w fun t50 w =>
 xLoad Try.prog 3 t50 w fun t51 w =>
 xConv Try.prog 3 29 t51 w fun t52 w =>
 xCall Try.prog (fnv 67) [t52, (.int .i64 4)] w fun t53 w =>
 xBuiltin Try.prog .append #[26, 26] 26 [false, false] [t47, t53] w fun t54 w =>
 xFieldAddr Try.prog 66 t1 1 w fun t56 w =>
 xFieldAddr Try.prog 64 t56 2 w fun t57 w =>
 xLoad Try.prog 3 t57 w fun t58 w =>
 xConv Try.prog 3 29 t58 w fun t59 w =>
 xCall Try.prog (fnv 67) [t59, (.int .i64 4)] w fun t60 w =>
 xBuiltin Try.prog .append #[26, 26] 26 [false, false] [t54, t60] w fun t61 w =>
 xFieldAddr Try.prog 66 t1 2 w fun t63 w =>
 xLoad Try.prog 3 t63 w fun t64 w =>
 xConv Try.prog 3 29 t64 w fun t65 w =>
 xCall Try.prog (fnv 67) [t65, (.int .i64 4)] w fun t66 w =>
 xBuiltin Try.prog .append #[26, 26] 26 [false, false] [t61, t66] w fun t67 w =>
 xFieldAddr Try.prog 66 t1 3 w fun t69 w =>
 xLoad Try.prog 3 t69 w fun t70 w =>
 xConv Try.prog 3 29 t70 w fun t71 w =>
 xCall Try.prog (fnv 67) [t71, (.int .i64 4)] w fun t72 w =>
 xBuiltin Try.prog .append #[26, 26] 26 [false, false] [t67, t72] w fun t73 w =>
 xFieldAddr Try.prog 66 t1 4 w fun t75 w =>
 xLoad Try.prog 29 t75 w fun t76 w =>
 xCall Try.prog (fnv 67) [t76, (.int .i64 8)] w fun t77 w =>
 xBuiltin Try.prog .append #[26, 26] 26 [false, false] [t73, t77] w fun t78 w =>
 xLoop [t78] w [4] fun u w nxt0 =>
 loamref6_Encode_l1 K nxt0 t1 (u 4) w)
abbrev n_loamref6_Encode : Nat := 37
def loamref6_Encode_ann : Ann := { loop := fun i => bif Nat.beq i 0 then [4] else [], wr := fun i => bif Nat.beq i 0 then [4, 79, 80, 81, 82, 83, 84, 85, 86, 87, 88] else [], told := fun i => [] }
theorem loamref6_Encode_eq (t0 : Value) (w : World) (K : K1) : reads Try.prog loamref6_Encode_ann Try.f37 #[t0] w K = loamref6_Encode K t0 w := by kernel_rfl
theorem loamref6_Encode_of {t0 : Value} {w : World} {K : K1} (h : loamref6_Encode K t0 w) : Yld Try.prog n_loamref6_Encode #[t0] w K :=
  yld_of mixed loamref6_Encode_ann Try.func37 (by kernel_rfl) (loamref6_Encode_eq t0 w K) h

/-! loam/loamlaw6.Of: function 38 -/
def loamlaw6_Of (K : K1) (t0 : Value) (w : World) : Prop :=
 xBox Try.prog 58 t0 w fun t1 w =>
 xAlloc Try.prog 66 w fun t2 w =>
 xSq w.drew fun w =>
 xPur w (fun w K => xFieldAddr Try.prog 58 t1 0 w K) fun t3 =>
 xRd w (fun K => xLoad Try.prog 29 t3 w K) fun t4 =>
 xPur w (fun w K => xFieldAddr Try.prog 58 t1 1 w K) fun t5 =>
 xRd w (fun K => xLoad Try.prog 56 t5 w K) fun t6 =>
 xPur w (fun w K => xFieldAddr Try.prog 58 t1 2 w K) fun t8 =>
 xRd w (fun K => xLoad Try.prog 3 t8 w K) fun t9 =>
 xPur w (fun w K => xFieldAddr Try.prog 58 t1 3 w K) fun t10 =>
 xRd w (fun K => xLoad Try.prog 3 t10 w K) fun t11 =>
 xPur w (fun w K => xFieldAddr Try.prog 58 t1 4 w K) fun t12 =>
 xRd w (fun K => xLoad Try.prog 29 t12 w K) fun t13 =>
 xCall Try.prog (fnv 44) [t6] w fun t7 w =>
 xRe w (fun K => xLoad Try.prog 29 t3 w K) t4 (
 xRe w (fun K => xLoad Try.prog 3 t8 w K) t9 (
 xRe w (fun K => xLoad Try.prog 3 t10 w K) t11 (
 xRe w (fun K => xLoad Try.prog 29 t12 w K) t13 (
 xPur w (fun w K => xBuild Try.prog 66 [(0, t4), (1, t7), (2, t9), (3, t11), (4, t13)] w K) fun t14 =>
 xStore Try.prog 66 t2 t14 w fun _x12 w =>
 xLoadR Try.prog 66 t2 w fun r0 =>
 K r0 w))))
abbrev n_loamlaw6_Of : Nat := 38
def loamlaw6_Of_ann : Ann := { loop := fun i => [], wr := fun i => [], told := fun i => bif Nat.beq i 1 then [(0, false, ⟨0, 10, some 3⟩), (1, false, ⟨1, 24, some 4⟩), (2, false, ⟨0, 34, some 5⟩), (3, false, ⟨4, 96, some 6⟩), (5, false, ⟨0, 258, some 8⟩), (6, false, ⟨32, 768, some 9⟩), (7, false, ⟨0, 1026, some 10⟩), (8, false, ⟨128, 3072, some 11⟩), (9, false, ⟨0, 4098, some 12⟩), (10, false, ⟨512, 12288, some 13⟩), (4, false, ⟨8, 192, some 7⟩), (11, false, ⟨1362, 27280, some 14⟩), (12, false, ⟨4095, 16388, none⟩)] else [], sq := fun i => bif Nat.beq i 1 then some (.rd true 0 (.rd false 1 (.rd true 2 (.rd false 3 (.rd true 5 (.rd false 6 (.rd true 7 (.rd false 8 (.rd true 9 (.rd false 10 (.ef 4 [1, 6, 8, 10] (.rd true 11 (.ef 12 [] .done))))))))))))) else none }
theorem loamlaw6_Of_eq (t0 : Value) (w : World) (K : K1) : reads Try.prog loamlaw6_Of_ann Try.f38 #[t0] w K = loamlaw6_Of K t0 w := by kernel_rfl
theorem loamlaw6_Of_of {t0 : Value} {w : World} {K : K1} (h : loamlaw6_Of K t0 w) : Yld Try.prog n_loamlaw6_Of #[t0] w K :=
  yld_of mixed loamlaw6_Of_ann Try.func38 (by kernel_rfl) (loamlaw6_Of_eq t0 w K) h

/-! loam/sup.Newer: function 39 -/
def sup_Newer (K : K1) (t0 t1 : Value) (w : World) : Prop :=
 xBox Try.prog 58 t0 w fun t2 w =>
 xBox Try.prog 58 t1 w fun t3 w =>
 xFieldAddr Try.prog 58 t2 0 w fun t5 w =>
 xLoad Try.prog 29 t5 w fun t6 w =>
 xFieldAddr Try.prog 58 t3 0 w fun t7 w =>
 xLoad Try.prog 29 t7 w fun t8 w =>
 xBin Try.prog .gtr 29 false t6 false t8 w fun t9 w =>
 K t9 w
abbrev n_sup_Newer : Nat := 39
def sup_Newer_ann : Ann := { loop := fun i => [], wr := fun i => [], told := fun i => [] }
theorem sup_Newer_eq (t0 t1 : Value) (w : World) (K : K1) : reads Try.prog sup_Newer_ann Try.f39 #[t0, t1] w K = sup_Newer K t0 t1 w := by kernel_rfl
theorem sup_Newer_of {t0 t1 : Value} {w : World} {K : K1} (h : sup_Newer K t0 t1 w) : Yld Try.prog n_sup_Newer #[t0, t1] w K :=
  yld_of mixed sup_Newer_ann Try.func39 (by kernel_rfl) (sup_Newer_eq t0 t1 w K) h

/-! loam/sup.Slot: function 40 -/
def sup_Slot (K : K1) (t0 : Value) (w : World) : Prop :=
 xBin Try.prog .and 29 false t0 true (c64 1) w fun t4 w =>
 xConv Try.prog 29 3 t4 w fun t5 w =>
 K t5 w
abbrev n_sup_Slot : Nat := 40
def sup_Slot_ann : Ann := { loop := fun i => [], wr := fun i => [], told := fun i => [] }
theorem sup_Slot_eq (t0 : Value) (w : World) (K : K1) : reads Try.prog sup_Slot_ann Try.f40 #[t0] w K = sup_Slot K t0 w := by kernel_rfl
theorem sup_Slot_of {t0 : Value} {w : World} {K : K1} (h : sup_Slot K t0 w) : Yld Try.prog n_sup_Slot #[t0] w K :=
  yld_of mixed sup_Slot_ann Try.func40 (by kernel_rfl) (sup_Slot_eq t0 w K) h

/-! loam/sup.Decode: function 41 -/
def sup_Decode (K : K1) (t0 : Value) (w : World) : Prop :=
 xBox Try.prog 26 t0 w fun t1 w =>
 xAlloc Try.prog 58 w fun t2 w =>
 xLoad Try.prog 26 t1 w fun t8 w =>
 xBuiltin Try.prog .len #[26] 3 [false] [t8] w fun t9 w =>
 xBin Try.prog .lss 3 false t9 true (.int .i64 64) w fun t10 w =>
 xIf t10
 (xBuild Try.prog 58 [] w fun t11 w =>
 xStore Try.prog 58 t2 t11 w fun _ w =>
 xLoadR Try.prog 58 t2 w fun r0 =>
 K (.tuple #[r0, (.int .i64 2)]) w)
 (xMakeFunc Try.prog (.func 79) [] [t1] w fun t12 w =>
 xCall Try.prog t12 [(.int .i64 8), (.int .i64 8)] w fun t14 w =>
 xCall Try.prog t12 [(.int .i64 16), (.int .i64 4)] w fun t16 w =>
 xConv Try.prog 29 3 t16 w fun t17 w =>
 xCall Try.prog t12 [(.int .i64 20), (.int .i64 4)] w fun t19 w =>
 xConv Try.prog 29 3 t19 w fun t20 w =>
 xCall Try.prog t12 [(.int .i64 24), (.int .i64 4)] w fun t22 w =>
 xConv Try.prog 29 3 t22 w fun t23 w =>
 xBuild Try.prog 56 [(0, t17), (1, t20), (2, t23)] w fun t24 w =>
 xCall Try.prog t12 [(.int .i64 28), (.int .i64 4)] w fun t26 w =>
 xConv Try.prog 29 3 t26 w fun t27 w =>
 xCall Try.prog t12 [(.int .i64 32), (.int .i64 4)] w fun t29 w =>
 xConv Try.prog 29 3 t29 w fun t30 w =>
 xCall Try.prog t12 [(.int .i64 36), (.int .i64 8)] w fun t32 w =>
 xBuild Try.prog 58 [(0, t14), (1, t24), (2, t27), (3, t30), (4, t32)] w fun t33 w =>
 xAlloc Try.prog 58 w fun t5 w =>
 xStore Try.prog 58 t5 t33 w fun _ w =>
 xLoad Try.prog 58 t5 w fun t35 w =>
 xCall Try.prog (fnv 36) [t35] w fun t36 w =>
 xExtract Try.prog t36 0 w fun t37 w =>
 xExtract Try.prog t36 1 w fun t38 w =>
 xBin Try.prog .neq 49 false t38 true (.int .i64 0) w fun t40 w =>
 xGuard t40 false (fun w K => K t37 w) w fun t42 w =>
 xGuard t40 false (fun w K => xLoad Try.prog 26 t1 w K) w fun t43 w =>
 xGuard t40 false (fun w K => xCall Try.prog (fnv 80) [t42, t43] w K) w fun t44 w =>
 xGuard t40 false (fun w K => xUn Try.prog .not t44 w K) w fun t45 w =>
 xPick t40 (.bool true) t45 w fun t46 w =>
 xIf t46
 (xBuild Try.prog 58 [] w fun t47 w =>
 xStore Try.prog 58 t2 t47 w fun _ w =>
 xLoadR Try.prog 58 t2 w fun r0 =>
 K (.tuple #[r0, (.int .i64 2)]) w)
 (xLoad Try.prog 58 t5 w fun t48 w =>
 xStore Try.prog 58 t2 t48 w fun _ w =>
 xLoadR Try.prog 58 t2 w fun r0 =>
 K (.tuple #[r0, (.int .i64 0)]) w))
abbrev n_sup_Decode : Nat := 41
def sup_Decode_ann : Ann := { loop := fun i => [], wr := fun i => [], told := fun i => [] }
theorem sup_Decode_eq (t0 : Value) (w : World) (K : K1) : reads Try.prog sup_Decode_ann Try.f41 #[t0] w K = sup_Decode K t0 w := by kernel_rfl
theorem sup_Decode_of {t0 : Value} {w : World} {K : K1} (h : sup_Decode K t0 w) : Yld Try.prog n_sup_Decode #[t0] w K :=
  yld_of mixed sup_Decode_ann Try.func41 (by kernel_rfl) (sup_Decode_eq t0 w K) h

/-! loam/loamref6.Decode: function 42 -/
def loamref6_Decode (K : K1) (t0 : Value) (w : World) : Prop :=
 xAlloc Try.prog 66 w fun t2 w =>
 xBuiltin Try.prog .len #[26] 3 [false] [t0] w fun t9 w =>
 xBin Try.prog .lss 3 false t9 true (.int .i64 64) w fun t10 w =>
 xIf t10
 (xBuild Try.prog 66 [] w fun t11 w =>
 xStore Try.prog 66 t2 t11 w fun _ w =>
 xLoadR Try.prog 66 t2 w fun r0 =>
 K (.tuple #[r0, (.int .i64 2)]) w)
 (xCall Try.prog (fnv 81) [t0, (.int .i64 16), (.int .i64 4)] w fun t13 w =>
 xConv Try.prog 29 3 t13 w fun t14 w =>
 xCall Try.prog (fnv 81) [t0, (.int .i64 20), (.int .i64 4)] w fun t16 w =>
 xConv Try.prog 29 3 t16 w fun t17 w =>
 xCall Try.prog (fnv 81) [t0, (.int .i64 24), (.int .i64 4)] w fun t19 w =>
 xConv Try.prog 29 3 t19 w fun t20 w =>
 xBuild Try.prog 64 [(0, t14), (1, t17), (2, t20)] w fun t21 w =>
 xAlloc Try.prog 64 w fun t4 w =>
 xStore Try.prog 64 t4 t21 w fun _ w =>
 xDraw w.drew fun le H =>
 xDet le (H) (fun w K => K t0 w) fun t22 =>
 xDet le (H) (fun w K => xLoad Try.prog 64 t4 w K) fun t24 =>
 xDet le (H) (fun w K => K t0 w) fun t25 =>
 xDet le (H) (fun w K => K t0 w) fun t28 =>
 xDet le (H) (fun w K => K t0 w) fun t31 =>
 xDet le (H) (fun w K => xCall Try.prog (fnv 81) [t22, (.int .i64 8), (.int .i64 8)] w K) fun t23 =>
 xDet le (H) (fun w K => xCall Try.prog (fnv 81) [t25, (.int .i64 28), (.int .i64 4)] w K) fun t26 =>
 xDet le (H) (fun w K => xConv Try.prog 29 3 t26 w K) fun t27 =>
 xDet le (H) (fun w K => xCall Try.prog (fnv 81) [t28, (.int .i64 32), (.int .i64 4)] w K) fun t29 =>
 xDet le (H) (fun w K => xConv Try.prog 29 3 t29 w K) fun t30 =>
 xDet le (H) (fun w K => xCall Try.prog (fnv 81) [t31, (.int .i64 36), (.int .i64 8)] w K) fun t32 =>
 xDet le (H) (fun w K => xBuild Try.prog 66 [(0, t23), (1, t24), (2, t27), (3, t30), (4, t32)] w K) fun t33 =>
 xNon le (H) (fun w K => xAlloc Try.prog 66 w K) fun t5 h12 =>
 xEnd (fun w => H w ∧ h12 w) fun w =>
 xStore Try.prog 66 t5 t33 w fun _x13 w =>
 xLoad Try.prog 66 t5 w fun t35 w =>
 xCall Try.prog (fnv 37) [t35] w fun t36 w =>
 xExtract Try.prog t36 0 w fun t37 w =>
 xExtract Try.prog t36 1 w fun t38 w =>
 xBin Try.prog .neq 3 false t38 true (.int .i64 0) w fun t40 w =>
 xGuard t40 false (fun w K => K t37 w) w fun t42 w =>
 xGuard t40 false (fun w K => xConv Try.prog 26 9 t42 w K) w fun t43 w =>
 xGuard t40 false (fun w K => K t0 w) w fun t44 w =>
 xGuard t40 false (fun w K => xConv Try.prog 26 9 t44 w K) w fun t45 w =>
 xGuard t40 false (fun w K => xBin Try.prog .neq 9 false t43 false t45 w K) w fun t46 w =>
 xPick t40 (.bool true) t46 w fun t47 w =>
 xIf t47
 (xBuild Try.prog 66 [] w fun t48 w =>
 xStore Try.prog 66 t2 t48 w fun _ w =>
 xLoadR Try.prog 66 t2 w fun r0 =>
 K (.tuple #[r0, (.int .i64 2)]) w)
 (xLoad Try.prog 66 t5 w fun t49 w =>
 xStore Try.prog 66 t2 t49 w fun _ w =>
 xLoadR Try.prog 66 t2 w fun r0 =>
 K (.tuple #[r0, (.int .i64 0)]) w))
abbrev n_loamref6_Decode : Nat := 42
def loamref6_Decode_ann : Ann := { loop := fun i => [], wr := fun i => [], told := fun i => bif Nat.beq i 4 then [(0, false, ⟨0, 4194305, some 22⟩), (2, false, ⟨0, 16777232, some 24⟩), (3, false, ⟨0, 33554433, some 25⟩), (6, false, ⟨0, 268435457, some 28⟩), (9, false, ⟨0, 2147483649, some 31⟩), (1, false, ⟨1, 12582912, some 23⟩), (4, false, ⟨10, 100663296, some 26⟩), (5, false, ⟨16, 201326592, some 27⟩), (7, false, ⟨80, 805306368, some 29⟩), (8, false, ⟨128, 1610612736, some 30⟩), (10, false, ⟨640, 6442450944, some 32⟩), (11, false, ⟨1318, 14118027264, some 33⟩), (12, true, ⟨0, 32, some 5⟩), (13, true, ⟨8191, 8589934624, none⟩)] else [] }
theorem loamref6_Decode_eq (t0 : Value) (w : World) (K : K1) : reads Try.prog loamref6_Decode_ann Try.f42 #[t0] w K = loamref6_Decode K t0 w := by kernel_rfl
theorem loamref6_Decode_of {t0 : Value} {w : World} {K : K1} (h : loamref6_Decode K t0 w) : Yld Try.prog n_loamref6_Decode #[t0] w K :=
  yld_of mixed loamref6_Decode_ann Try.func42 (by kernel_rfl) (loamref6_Decode_eq t0 w K) h

/-! loam/loamref4.Check: function 43 -/
def loamref4_Check (K : K1) (t0 : Value) (w : World) : Prop :=
 xBox Try.prog 64 t0 w fun t1 w =>
 xFieldAddr Try.prog 64 t1 0 w fun t3 w =>
 xLoad Try.prog 3 t3 w fun t4 w =>
 xBin Try.prog .lss 3 false t4 true (.int .i64 64) w fun t5 w =>
 xGuard t5 false (fun w K => xFieldAddr Try.prog 64 t1 0 w K) w fun t7 w =>
 xGuard t5 false (fun w K => xLoad Try.prog 3 t7 w K) w fun t8 w =>
 xGuard t5 false (fun w K => xBin Try.prog .gtr 3 false t8 true (.int .i64 1024) w K) w fun t9 w =>
 xPick t5 (.bool true) t9 w fun t10 w =>
 xGuard t10 false (fun w K => xFieldAddr Try.prog 64 t1 0 w K) w fun t12 w =>
 xGuard t10 false (fun w K => xLoad Try.prog 3 t12 w K) w fun t13 w =>
 xGuard t10 false (fun w K => xBin Try.prog .rem 3 false t13 true (.int .i64 8) w K) w fun t14 w =>
 xGuard t10 false (fun w K => xBin Try.prog .neq 3 false t14 true (.int .i64 0) w K) w fun t15 w =>
 xPick t10 (.bool true) t15 w fun t16 w =>
 xGuard t16 false (fun w K => xFieldAddr Try.prog 64 t1 1 w K) w fun t18 w =>
 xGuard t16 false (fun w K => xLoad Try.prog 3 t18 w K) w fun t19 w =>
 xGuard t16 false (fun w K => xBin Try.prog .lss 3 false t19 true (.int .i64 8) w K) w fun t20 w =>
 xPick t16 (.bool true) t20 w fun t21 w =>
 xGuard t21 false (fun w K => xFieldAddr Try.prog 64 t1 1 w K) w fun t23 w =>
 xGuard t21 false (fun w K => xLoad Try.prog 3 t23 w K) w fun t24 w =>
 xGuard t21 false (fun w K => xBin Try.prog .gtr 3 false t24 true (.int .i64 1024) w K) w fun t25 w =>
 xPick t21 (.bool true) t25 w fun t26 w =>
 xGuard t26 false (fun w K => xFieldAddr Try.prog 64 t1 2 w K) w fun t28 w =>
 xGuard t26 false (fun w K => xLoad Try.prog 3 t28 w K) w fun t29 w =>
 xGuard t26 false (fun w K => xBin Try.prog .lss 3 false t29 true (.int .i64 64) w K) w fun t30 w =>
 xPick t26 (.bool true) t30 w fun t31 w =>
 xGuard t31 false (fun w K => xFieldAddr Try.prog 64 t1 2 w K) w fun t33 w =>
 xGuard t31 false (fun w K => xLoad Try.prog 3 t33 w K) w fun t34 w =>
 xGuard t31 false (fun w K => xBin Try.prog .gtr 3 false t34 true (.int .i64 8192) w K) w fun t35 w =>
 xPick t31 (.bool true) t35 w fun t36 w =>
 xGuard t36 false (fun w K => xLoad Try.prog 64 t1 w K) w fun t38 w =>
 xGuard t36 false (fun w K => xCall Try.prog (fnv 82) [t38] w K) w fun t39 w =>
 xGuard t36 false (fun w K => xBin Try.prog .gtr 3 false t39 true (.int .i64 16384) w K) w fun t40 w =>
 xPick t36 (.bool true) t40 w fun t41 w =>
 xIf t41
 (K (.int .i64 1) w)
 (K (.int .i64 0) w)
abbrev n_loamref4_Check : Nat := 43
def loamref4_Check_ann : Ann := { loop := fun i => [], wr := fun i => [], told := fun i => [] }
theorem loamref4_Check_eq (t0 : Value) (w : World) (K : K1) : reads Try.prog loamref4_Check_ann Try.f43 #[t0] w K = loamref4_Check K t0 w := by kernel_rfl
theorem loamref4_Check_of {t0 : Value} {w : World} {K : K1} (h : loamref4_Check K t0 w) : Yld Try.prog n_loamref4_Check #[t0] w K :=
  yld_of mixed loamref4_Check_ann Try.func43 (by kernel_rfl) (loamref4_Check_eq t0 w K) h

/-! loam/loamlaw4.Of: function 44 -/
def loamlaw4_Of (K : K1) (t0 : Value) (w : World) : Prop :=
 xBox Try.prog 56 t0 w fun t1 w =>
 xAlloc Try.prog 64 w fun t2 w =>
 xFieldAddr Try.prog 56 t1 0 w fun t3 w =>
 xLoad Try.prog 3 t3 w fun t4 w =>
 xFieldAddr Try.prog 56 t1 1 w fun t5 w =>
 xLoad Try.prog 3 t5 w fun t6 w =>
 xFieldAddr Try.prog 56 t1 2 w fun t7 w =>
 xLoad Try.prog 3 t7 w fun t8 w =>
 xBuild Try.prog 64 [(0, t4), (1, t6), (2, t8)] w fun t9 w =>
 xStore Try.prog 64 t2 t9 w fun _ w =>
 xLoadR Try.prog 64 t2 w fun r0 =>
 K r0 w
abbrev n_loamlaw4_Of : Nat := 44
def loamlaw4_Of_ann : Ann := { loop := fun i => [], wr := fun i => [], told := fun i => [] }
theorem loamlaw4_Of_eq (t0 : Value) (w : World) (K : K1) : reads Try.prog loamlaw4_Of_ann Try.f44 #[t0] w K = loamlaw4_Of K t0 w := by kernel_rfl
theorem loamlaw4_Of_of {t0 : Value} {w : World} {K : K1} (h : loamlaw4_Of K t0 w) : Yld Try.prog n_loamlaw4_Of #[t0] w K :=
  yld_of mixed loamlaw4_Of_ann Try.func44 (by kernel_rfl) (loamlaw4_Of_eq t0 w K) h

/-! loam/loamlaw15.known: function 45 -/
def loamlaw15_known (K : K1) (w : World) : Prop :=
 xCall Try.prog (fnv 46) [(.int .i64 20)] w fun t18 w =>
 xExtract Try.prog t18 0 w fun t19 w =>
 xExtract Try.prog t18 1 w fun t20 w =>
 xBin Try.prog .neq 3 false t20 true (.int .i64 0) w fun t22 w =>
 xGuard t22 false (fun w K => K t19 w) w fun t24 w =>
 xGuard t22 false (fun w K => xBin Try.prog .eql 81 false t24 true (.pointer none) w K) w fun t25 w =>
 xPick t22 (.bool true) t25 w fun t26 w =>
 xIf t26
 (K (.bool false) w)
 (xCall Try.prog (fnv 47) [t19, (.int .i64 2), (.int .i64 12)] w fun t29 w =>
 xExtract Try.prog t29 0 w fun t30 w =>
 xExtract Try.prog t29 1 w fun t31 w =>
 xBin Try.prog .neq 3 false t31 true (.int .i64 0) w fun t33 w =>
 xGuard t33 false (fun w K => K t30 w) w fun t35 w =>
 xGuard t33 false (fun w K => xBin Try.prog .eql 84 false t35 true (.pointer none) w K) w fun t36 w =>
 xPick t33 (.bool true) t36 w fun t37 w =>
 xGuard t37 false (fun w K => K t30 w) w fun t39 w =>
 xGuard t37 false (fun w K => xNilCheck t39 w K) w fun t40 w =>
 xGuard t37 false (fun w K => xFieldAddr Try.prog 98 t40 0 w K) w fun t41 w =>
 xGuard t37 false (fun w K => xLoad Try.prog 81 t41 w K) w fun t42 w =>
 xGuard t37 false (fun w K => xBin Try.prog .eql 81 false t42 true (.pointer none) w K) w fun t43 w =>
 xPick t37 (.bool true) t43 w fun t44 w =>
 xIf t44
 (K (.bool false) w)
 (xBuild Try.prog 80 [(0, (.int .i64 2))] w fun t47 w =>
 xCall Try.prog (fnv 48) [t30, t47] w fun t48 w =>
 xExtract Try.prog t48 0 w fun t49 w =>
 xExtract Try.prog t48 1 w fun t50 w =>
 xBuild Try.prog 80 [(1, (.int .i64 9))] w fun t53 w =>
 xCall Try.prog (fnv 48) [t30, t53] w fun t54 w =>
 xExtract Try.prog t54 0 w fun t55 w =>
 xExtract Try.prog t54 1 w fun t56 w =>
 xBuild Try.prog 80 [(0, (.int .i64 9))] w fun t59 w =>
 xCall Try.prog (fnv 48) [t30, t59] w fun t60 w =>
 xExtract Try.prog t60 0 w fun t61 w =>
 xExtract Try.prog t60 1 w fun t62 w =>
 xCall Try.prog (fnv 50) [t30] w fun t65 w =>
 xExtract Try.prog t65 0 w fun t66 w =>
 xExtract Try.prog t65 1 w fun t67 w =>
 xCall Try.prog (fnv 63) [t30, t55] w fun t71 w =>
 xExtract Try.prog t71 0 w fun t72 w =>
 xExtract Try.prog t71 1 w fun t73 w =>
 xAlloc Try.prog 80 w fun t13 w =>
 xStore Try.prog 80 t13 t72 w fun _ w =>
 xNilCheck t30 w fun t76 w =>
 xFieldAddr Try.prog 98 t76 0 w fun t77 w =>
 xLoad Try.prog 81 t77 w fun t78 w =>
 xCall Try.prog (fnv 55) [t78, (.int .i64 2)] w fun t79 w =>
 xExtract Try.prog t79 0 w fun t80 w =>
 xExtract Try.prog t79 1 w fun t81 w =>
 xBin Try.prog .add 3 false t50 false t56 w fun t84 w =>
 xBin Try.prog .add 3 false t84 false t67 w fun t86 w =>
 xBin Try.prog .add 3 false t86 false t73 w fun t88 w =>
 xBin Try.prog .add 3 false t88 false t81 w fun t90 w =>
 xBin Try.prog .eql 3 false t90 true (.int .i64 0) w fun t91 w =>
 xGuard t91 true (fun w K => K t49 w) w fun t93 w =>
 xGuard t91 true (fun w K => xBin Try.prog .eql 3 false t93 true (.int .i64 2) w K) w fun t94 w =>
 xPick t91 t94 (.bool false) w fun t95 w =>
 xGuard t95 true (fun w K => K t55 w) w fun t97 w =>
 xGuard t95 true (fun w K => xBin Try.prog .eql 3 false t97 true (.int .i64 5) w K) w fun t98 w =>
 xPick t95 t98 (.bool false) w fun t99 w =>
 xGuard t99 true (fun w K => K t62 w) w fun t101 w =>
 xGuard t99 true (fun w K => xBin Try.prog .eql 3 false t101 true (.int .i64 6) w K) w fun t102 w =>
 xPick t99 t102 (.bool false) w fun t103 w =>
 xGuard t103 true (fun w K => K t66 w) w fun t105 w =>
 xGuard t103 true (fun w K => xBuiltin Try.prog .len #[89] 3 [false] [t105] w K) w fun t106 w =>
 xGuard t103 true (fun w K => xBin Try.prog .eql 3 false t106 true (.int .i64 2) w K) w fun t107 w =>
 xPick t103 t107 (.bool false) w fun t108 w =>
 xGuard t108 true (fun w K => K t66 w) w fun t110 w =>
 xGuard t108 true (fun w K => xIndexAddr Try.prog 89 t110 (.int .i64 1) w K) w fun t111 w =>
 xGuard t108 true (fun w K => xLoad Try.prog 3 t111 w K) w fun t112 w =>
 xGuard t108 true (fun w K => xBin Try.prog .eql 3 false t112 true (.int .i64 5) w K) w fun t113 w =>
 xPick t108 t113 (.bool false) w fun t114 w =>
 xGuard t114 true (fun w K => xFieldAddr Try.prog 80 t13 1 w K) w fun t116 w =>
 xGuard t114 true (fun w K => xLoad Try.prog 3 t116 w K) w fun t117 w =>
 xGuard t114 true (fun w K => xBin Try.prog .eql 3 false t117 true (.int .i64 9) w K) w fun t118 w =>
 xPick t114 t118 (.bool false) w fun t119 w =>
 xGuard t119 true (fun w K => K t30 w) w fun t121 w =>
 xGuard t119 true (fun w K => xCall Try.prog (fnv 52) [t121] w K) w fun t122 w =>
 xGuard t119 true (fun w K => xBin Try.prog .eql 3 false t122 true (.int .i64 6) w K) w fun t123 w =>
 xPick t119 t123 (.bool false) w fun t124 w =>
 xGuard t124 true (fun w K => K t30 w) w fun t126 w =>
 xGuard t124 true (fun w K => xCall Try.prog (fnv 49) [t126] w K) w fun t127 w =>
 xGuard t124 true (fun w K => xBin Try.prog .eql 3 false t127 true (.int .i64 4) w K) w fun t128 w =>
 xPick t124 t128 (.bool false) w fun t129 w =>
 xGuard t129 true (fun w K => K t30 w) w fun t131 w =>
 xGuard t129 true (fun w K => xNilCheck t131 w K) w fun t132 w =>
 xGuard t129 true (fun w K => xFieldAddr Try.prog 98 t132 2 w K) w fun t133 w =>
 xGuard t129 true (fun w K => xLoad Try.prog 3 t133 w K) w fun t134 w =>
 xGuard t129 true (fun w K => xBin Try.prog .eql 3 false t134 true (.int .i64 8) w K) w fun t135 w =>
 xPick t129 t135 (.bool false) w fun t136 w =>
 xGuard t136 true (fun w K => K t80 w) w fun t138 w =>
 xGuard t136 true (fun w K => xBin Try.prog .eql 29 false t138 true (c64 9223372036854775812) w K) w fun t139 w =>
 xPick t136 t139 (.bool false) w fun t140 w =>
 K t140 w))
abbrev n_loamlaw15_known : Nat := 45
def loamlaw15_known_ann : Ann := { loop := fun i => [], wr := fun i => [], told := fun i => [] }
theorem loamlaw15_known_eq (w : World) (K : K1) : reads Try.prog loamlaw15_known_ann Try.f45 #[] w K = loamlaw15_known K  w := by kernel_rfl
theorem loamlaw15_known_of {w : World} {K : K1} (h : loamlaw15_known K w) : Yld Try.prog n_loamlaw15_known #[] w K :=
  yld_of mixed loamlaw15_known_ann Try.func45 (by kernel_rfl) (loamlaw15_known_eq  w K) h

/-! loam/mem.New: function 46 -/
def mem_New (K : K1) (t0 : Value) (w : World) : Prop :=
 xBin Try.prog .lss 3 false t0 true (.int .i64 0) w fun t5 w =>
 xGuard t5 false (fun w K => K t0 w) w fun t7 w =>
 xGuard t5 false (fun w K => xBin Try.prog .gtr 3 false t7 true (.int .i64 8192) w K) w fun t8 w =>
 xPick t5 (.bool true) t8 w fun t9 w =>
 xIf t9
 (K (.tuple #[(.pointer none), (.int .i64 1)]) w)
 (xMakeSlice Try.prog 30 t0 t0 w fun t11 w =>
 xBuild Try.prog 138 [(0, t11)] w fun t12 w =>
 xBox Try.prog 138 t12 w fun t13 w =>
 K (.tuple #[t13, (.int .i64 0)]) w)
abbrev n_mem_New : Nat := 46
def mem_New_ann : Ann := { loop := fun i => [], wr := fun i => [], told := fun i => [] }
theorem mem_New_eq (t0 : Value) (w : World) (K : K1) : reads Try.prog mem_New_ann Try.f46 #[t0] w K = mem_New K t0 w := by kernel_rfl
theorem mem_New_of {t0 : Value} {w : World} {K : K1} (h : mem_New K t0 w) : Yld Try.prog n_mem_New #[t0] w K :=
  yld_of mixed mem_New_ann Try.func46 (by kernel_rfl) (mem_New_eq t0 w K) h

/-! loam/space.New: function 47 -/
def space_New (K : K1) (t0 t1 t2 : Value) (w : World) : Prop :=
 xCall Try.prog (fnv 83) [t0, t1, t1, t2] w fun t12 w =>
 xUn Try.prog .not t12 w fun t13 w =>
 xIf t13
 (K (.tuple #[(.pointer none), (.int .i64 1)]) w)
 (xBuild Try.prog 98 [(0, t0), (1, t1), (2, t1), (3, t2)] w fun t18 w =>
 xBox Try.prog 98 t18 w fun t19 w =>
 K (.tuple #[t19, (.int .i64 0)]) w)
abbrev n_space_New : Nat := 47
def space_New_ann : Ann := { loop := fun i => [], wr := fun i => [], told := fun i => [] }
theorem space_New_eq (t0 t1 t2 : Value) (w : World) (K : K1) : reads Try.prog space_New_ann Try.f47 #[t0, t1, t2] w K = space_New K t0 t1 t2 w := by kernel_rfl
theorem space_New_of {t0 t1 t2 : Value} {w : World} {K : K1} (h : space_New K t0 t1 t2 w) : Yld Try.prog n_space_New #[t0, t1, t2] w K :=
  yld_of mixed space_New_ann Try.func47 (by kernel_rfl) (space_New_eq t0 t1 t2 w K) h

/-! (*loam/space.Space).Alloc: function 48 -/
def space_Space_Alloc_l1 (K : K1) (nxt1 : List Value → World → Prop) (t0 t8 t9 : Value) (w : World) : Prop :=
 xNilCheck t0 w fun t52_1 w =>
 xFieldAddr Try.prog 98 t52_1 2 w fun t53_1 w =>
 xLoad Try.prog 3 t53_1 w fun t54_1 w =>
 xBin Try.prog .lss 3 false t9 false t54_1 w fun t55_1 w =>
 xIf t55_1
 (xNilCheck t0 w fun t59_1 w =>
 xFieldAddr Try.prog 98 t59_1 0 w fun t60_1 w =>
 xLoad Try.prog 81 t60_1 w fun t61_1 w =>
 xCall Try.prog (fnv 85) [t61_1, t9, (c64 0)] w fun t63_1 w =>
 xBin Try.prog .add 3 false t9 true (.int .i64 1) w fun t57_1 w =>
 nxt1 [t57_1] w)
 (K (.tuple #[t8, (.int .i64 0)]) w)
def space_Space_Alloc (K : K1) (t0 t1 : Value) (w : World) : Prop :=
 xBox Try.prog 80 t1 w fun t3 w =>
 xLoad Try.prog 80 t3 w fun t11 w =>
 xCall Try.prog (fnv 84) [t11] w fun t12 w =>
 xExtract Try.prog t12 0 w fun t13 w =>
 xExtract Try.prog t12 1 w fun t14 w =>
 xBin Try.prog .neq 49 false t14 true (.int .i64 0) w fun t17 w =>
 xGuard t17 false (fun w K => xFieldAddr Try.prog 80 t3 2 w K) w fun t19 w =>
 xGuard t17 false (fun w K => xLoad Try.prog 4 t19 w K) w fun t20 w =>
 xPick t17 (.bool true) t20 w fun t21 w =>
 xIf t21
 (K (.tuple #[(.int .i64 0), (.int .i64 1)]) w)
 (xLoad Try.prog 80 t3 w fun t23 w =>
 xCall Try.prog (fnv 56) [t23] w fun t24 w =>
 xCall Try.prog (fnv 49) [t0] w fun t26 w =>
 xBin Try.prog .gtr 3 false t24 false t26 w fun t27 w =>
 xIf t27
 (K (.tuple #[(.int .i64 0), (.int .i64 6)]) w)
 (xNilCheck t0 w fun t29 w =>
 xFieldAddr Try.prog 98 t29 2 w fun t30 w =>
 xLoad Try.prog 3 t30 w fun t31 w =>
 xNilCheck t0 w fun t33 w =>
 xFieldAddr Try.prog 98 t33 0 w fun t34 w =>
 xLoad Try.prog 81 t34 w fun t35 w =>
 xCall Try.prog (fnv 85) [t35, t31, t13] w fun t38 w =>
 xSq w.drew fun w =>
 xPur w (fun w K => K t0 w) fun t39 =>
 xPur w (fun w K => xNilCheck t39 w K) fun t40 =>
 xPur w (fun w K => xFieldAddr Try.prog 98 t40 2 w K) fun t41 =>
 xRd w (fun K => xLoad Try.prog 3 t41 w K) fun t42 =>
 xRd w (fun K => xLoad Try.prog 80 t3 w K) fun t43 =>
 xCall Try.prog (fnv 56) [t43] w fun t44 w =>
 xRe w (fun K => xLoad Try.prog 3 t41 w K) t42 (
 xPur w (fun w K => xBin Try.prog .add 3 false t42 false t44 w K) fun t45 =>
 xPur w (fun w K => xNilCheck t39 w K) fun t46 =>
 xPur w (fun w K => xFieldAddr Try.prog 98 t46 2 w K) fun t47 =>
 xStore Try.prog 3 t47 t45 w fun _x9 w =>
 xBin Try.prog .add 3 false t31 true (.int .i64 1) w fun t49 w =>
 xLoop [t49] w [9] fun u w nxt1 =>
 space_Space_Alloc_l1 K nxt1 t0 t31 (u 9) w)))
abbrev n_space_Space_Alloc : Nat := 48
def space_Space_Alloc_ann : Ann := { loop := fun i => bif Nat.beq i 1 then [9] else [], wr := fun i => bif Nat.beq i 1 then [9, 50, 51, 52, 53, 54, 55, 56, 57, 58, 59, 60, 61, 62, 63] else [], told := fun i => bif Nat.beq i 8 then [(0, false, ⟨0, 549755813889, some 39⟩), (1, false, ⟨1, 1649267441664, some 40⟩), (2, false, ⟨2, 3298534883328, some 41⟩), (3, false, ⟨4, 6597069766656, some 42⟩), (4, false, ⟨0, 8796093022216, some 43⟩), (5, false, ⟨16, 26388279066624, some 44⟩), (6, false, ⟨40, 57174604644352, some 45⟩), (7, false, ⟨127, 70918499991552, some 46⟩), (8, false, ⟨255, 211106232532992, some 47⟩), (9, false, ⟨383, 175921860444160, none⟩)] else [], sq := fun i => bif Nat.beq i 8 then some (.rd true 0 (.rd true 1 (.rd true 2 (.rd false 3 (.rd false 4 (.ef 5 [3] (.rd true 6 (.rd true 7 (.rd true 8 (.ef 9 [] .done)))))))))) else none }
theorem space_Space_Alloc_eq (t0 t1 : Value) (w : World) (K : K1) : reads Try.prog space_Space_Alloc_ann Try.f48 #[t0, t1] w K = space_Space_Alloc K t0 t1 w := by kernel_rfl
theorem space_Space_Alloc_of {t0 t1 : Value} {w : World} {K : K1} (h : space_Space_Alloc K t0 t1 w) : Yld Try.prog n_space_Space_Alloc #[t0, t1] w K :=
  yld_of mixed space_Space_Alloc_ann Try.func48 (by kernel_rfl) (space_Space_Alloc_eq t0 t1 w K) h

/-! (*loam/space.Space).Free: function 49 -/
def space_Space_Free (K : K1) (t0 : Value) (w : World) : Prop :=
 xSq w.drew fun w =>
 xPur w (fun w K => K t0 w) fun t3 =>
 xPur w (fun w K => xNilCheck t3 w K) fun t4 =>
 xPur w (fun w K => xFieldAddr Try.prog 98 t4 3 w K) fun t5 =>
 xRd w (fun K => xLoad Try.prog 3 t5 w K) fun t6 =>
 xPur w (fun w K => K t0 w) fun t7 =>
 xPur w (fun w K => xNilCheck t7 w K) fun t8 =>
 xPur w (fun w K => xFieldAddr Try.prog 98 t8 2 w K) fun t9 =>
 xRd w (fun K => xLoad Try.prog 3 t9 w K) fun t10 =>
 xPur w (fun w K => xBin Try.prog .sub 3 false t6 false t10 w K) fun t11 =>
 xPur w (fun w K => K t11 w) fun t2 =>
 K t2 w
abbrev n_space_Space_Free : Nat := 49
def space_Space_Free_ann : Ann := { loop := fun i => [], wr := fun i => [], told := fun i => bif Nat.beq i 1 then [(0, false, ⟨0, 9, some 3⟩), (1, false, ⟨1, 24, some 4⟩), (2, false, ⟨2, 48, some 5⟩), (3, false, ⟨4, 96, some 6⟩), (4, false, ⟨0, 129, some 7⟩), (5, false, ⟨16, 384, some 8⟩), (6, false, ⟨32, 768, some 9⟩), (7, false, ⟨64, 1536, some 10⟩), (8, false, ⟨136, 3136, some 11⟩), (9, false, ⟨511, 2052, some 2⟩)] else [], sq := fun i => bif Nat.beq i 1 then some (.rd true 0 (.rd true 1 (.rd true 2 (.rd false 3 (.rd true 4 (.rd true 5 (.rd true 6 (.rd false 7 (.rd true 8 (.rd true 9 .done)))))))))) else none }
theorem space_Space_Free_eq (t0 : Value) (w : World) (K : K1) : reads Try.prog space_Space_Free_ann Try.f49 #[t0] w K = space_Space_Free K t0 w := by kernel_rfl
theorem space_Space_Free_of {t0 : Value} {w : World} {K : K1} (h : space_Space_Free K t0 w) : Yld Try.prog n_space_Space_Free #[t0] w K :=
  yld_of mixed space_Space_Free_ann Try.func49 (by kernel_rfl) (space_Space_Free_eq t0 w K) h

/-! (*loam/space.Space).Objects: function 50 -/
def space_Space_Objects_l1 (K : K1) (nxt0 : List Value → World → Prop) (t0 t4 t5 : Value) (w : World) : Prop :=
 xNilCheck t0 w fun t14_1 w =>
 xFieldAddr Try.prog 98 t14_1 2 w fun t15_1 w =>
 xLoad Try.prog 3 t15_1 w fun t16_1 w =>
 xBin Try.prog .lss 3 false t5 false t16_1 w fun t17_1 w =>
 xIf t17_1
 (xCall Try.prog (fnv 63) [t0, t5] w fun t21_1 w =>
 xExtract Try.prog t21_1 0 w fun t22_1 w =>
 xExtract Try.prog t21_1 1 w fun t23_1 w =>
 xAlloc Try.prog 80 w fun t6_1 w =>
 xStore Try.prog 80 t6_1 t22_1 w fun _ w =>
 xSq w.drew fun w =>
 xPur w (fun w K => K t23_1 w) fun t24_1 =>
 xPur w (fun w K => xBin Try.prog .neq 49 false t24_1 true (.int .i64 0) w K) fun t25_1 =>
 xPur w (fun w K => K t25_1 w) fun t26_1 =>
 xPur w (fun w K => xGuard t26_1 false (fun w K => xFieldAddr Try.prog 80 t6_1 2 w K) w K) fun t27_1 =>
 xRd w (fun K => xGuard t26_1 false (fun w K => xLoad Try.prog 4 t27_1 w K) w K) fun t28_1 =>
 xPur w (fun w K => xPick t26_1 (.bool true) t28_1 w K) fun t29_1 =>
 xPur w (fun w K => K t29_1 w) fun t30_1 =>
 xRd w (fun K => xGuard t30_1 false (fun w K => xLoad Try.prog 80 t6_1 w K) w K) fun t31_1 =>
 xPur w (fun w K => xGuard t30_1 false (fun w K => K t0 w) w K) fun t33_1 =>
 xPur w (fun w K => xGuard t30_1 false (fun w K => xNilCheck t33_1 w K) w K) fun t34_1 =>
 xPur w (fun w K => xGuard t30_1 false (fun w K => xFieldAddr Try.prog 98 t34_1 2 w K) w K) fun t35_1 =>
 xRd w (fun K => xGuard t30_1 false (fun w K => xLoad Try.prog 3 t35_1 w K) w K) fun t36_1 =>
 xPur w (fun w K => xGuard t30_1 false (fun w K => K t5 w) w K) fun t37_1 =>
 xPur w (fun w K => xGuard t30_1 false (fun w K => xBin Try.prog .sub 3 false t36_1 false t37_1 w K) w K) fun t38_1 =>
 xGuard t30_1 false (fun w K => xCall Try.prog (fnv 56) [t31_1] w K) w fun t32_1 w =>
 xRe w (fun K => xGuard t30_1 false (fun w K => xLoad Try.prog 3 t35_1 w K) w K) t36_1 (
 xPur w (fun w K => xGuard t30_1 false (fun w K => xBin Try.prog .gtr 3 false t32_1 false t38_1 w K) w K) fun t39_1 =>
 xPur w (fun w K => xPick t30_1 (.bool true) t39_1 w K) fun t40_1 =>
 xIf t40_1
 (K (.tuple #[(.slice none 0 0), (.int .i64 2)]) w)
 (xBuildSlice Try.prog 89 1 [(0, t5)] w fun t43_1 w =>
 xBuiltin Try.prog .append #[89, 89] 89 [false, false] [t4, t43_1] w fun t44_1 w =>
 xLoad Try.prog 80 t6_1 w fun t46_1 w =>
 xCall Try.prog (fnv 56) [t46_1] w fun t47_1 w =>
 xBin Try.prog .add 3 false t5 false t47_1 w fun t48_1 w =>
 nxt0 [t44_1, t48_1] w)))
 (xCall Try.prog (fnv 86) [t4] w fun t50 w =>
 K (.tuple #[t50, (.int .i64 0)]) w)
def space_Space_Objects (K : K1) (t0 : Value) (w : World) : Prop :=
 xNilCheck t0 w fun t9 w =>
 xFieldAddr Try.prog 98 t9 1 w fun t10 w =>
 xLoad Try.prog 3 t10 w fun t11 w =>
 xLoop [(.slice none 0 0), t11] w [4, 5] fun u w nxt0 =>
 space_Space_Objects_l1 K nxt0 t0 (u 4) (u 5) w
abbrev n_space_Space_Objects : Nat := 50
def space_Space_Objects_ann : Ann := { loop := fun i => bif Nat.beq i 0 then [4, 5] else [], wr := fun i => bif Nat.beq i 0 then [2, 3, 4, 5, 6, 7, 12, 13, 14, 15, 16, 17, 18, 19, 20, 21, 22, 23, 24, 25, 26, 27, 28, 29, 30, 31, 32, 33, 34, 35, 36, 37, 38, 39, 40, 41, 42, 43, 44, 45, 46, 47, 48] else [], told := fun i => bif Nat.beq i 5 then [(0, false, ⟨0, 16777344, some 24⟩), (1, false, ⟨1, 50331648, some 25⟩), (2, false, ⟨2, 100663296, some 26⟩), (3, false, ⟨4, 201326656, some 27⟩), (4, false, ⟨12, 469762048, some 28⟩), (5, false, ⟨20, 872415232, some 29⟩), (6, false, ⟨36, 1610612736, some 30⟩), (7, false, ⟨64, 3221225536, some 31⟩), (9, false, ⟨64, 9663676417, some 33⟩), (10, false, ⟨576, 26843545600, some 34⟩), (11, false, ⟨1088, 52613349376, some 35⟩), (12, false, ⟨2112, 104152956928, some 36⟩), (13, false, ⟨64, 138512695328, some 37⟩), (14, false, ⟨12352, 482110078976, some 38⟩), (8, false, ⟨192, 7516192768, some 32⟩), (15, false, ⟨16704, 830002429952, some 39⟩), (16, false, ⟨32832, 1650341183488, some 40⟩)] else [], sq := fun i => bif Nat.beq i 5 then some (.rd true 0 (.rd true 1 (.rd true 2 (.rd true 3 (.rd false 4 (.rd true 5 (.rd true 6 (.rd false 7 (.rd true 9 (.rd true 10 (.rd true 11 (.rd false 12 (.rd true 13 (.rd true 14 (.ef 8 [12] (.rd true 15 (.rd true 16 .done))))))))))))))))) else none }
theorem space_Space_Objects_eq (t0 : Value) (w : World) (K : K1) : reads Try.prog space_Space_Objects_ann Try.f50 #[t0] w K = space_Space_Objects K t0 w := by kernel_rfl
theorem space_Space_Objects_of {t0 : Value} {w : World} {K : K1} (h : space_Space_Objects K t0 w) : Yld Try.prog n_space_Space_Objects #[t0] w K :=
  yld_of mixed space_Space_Objects_ann Try.func50 (by kernel_rfl) (space_Space_Objects_eq t0 w K) h

/-! (*loam/space.Space).Reset: function 51 -/
def space_Space_Reset_l1 (K : K1) (nxt0 : List Value → World → Prop) (t0 t2 : Value) (w : World) : Prop :=
 xNilCheck t0 w fun t16_1 w =>
 xFieldAddr Try.prog 98 t16_1 3 w fun t17_1 w =>
 xLoad Try.prog 3 t17_1 w fun t18_1 w =>
 xBin Try.prog .lss 3 false t2 false t18_1 w fun t19_1 w =>
 xIf t19_1
 (xNilCheck t0 w fun t23_1 w =>
 xFieldAddr Try.prog 98 t23_1 0 w fun t24_1 w =>
 xLoad Try.prog 81 t24_1 w fun t25_1 w =>
 xCall Try.prog (fnv 85) [t25_1, t2, (c64 0)] w fun t27_1 w =>
 xBin Try.prog .add 3 false t2 true (.int .i64 1) w fun t21_1 w =>
 nxt0 [t21_1] w)
 (K (.tuple #[]) w)
def space_Space_Reset (K : K1) (t0 : Value) (w : World) : Prop :=
 xNilCheck t0 w fun t5 w =>
 xFieldAddr Try.prog 98 t5 1 w fun t6 w =>
 xLoad Try.prog 3 t6 w fun t7 w =>
 xNilCheck t0 w fun t8 w =>
 xFieldAddr Try.prog 98 t8 2 w fun t9 w =>
 xStore Try.prog 3 t9 t7 w fun _ w =>
 xNilCheck t0 w fun t11 w =>
 xFieldAddr Try.prog 98 t11 1 w fun t12 w =>
 xLoad Try.prog 3 t12 w fun t13 w =>
 xLoop [t13] w [2] fun u w nxt0 =>
 space_Space_Reset_l1 K nxt0 t0 (u 2) w
abbrev n_space_Space_Reset : Nat := 51
def space_Space_Reset_ann : Ann := { loop := fun i => bif Nat.beq i 0 then [2] else [], wr := fun i => bif Nat.beq i 0 then [2, 14, 15, 16, 17, 18, 19, 20, 21, 22, 23, 24, 25, 26, 27] else [], told := fun i => [] }
theorem space_Space_Reset_eq (t0 : Value) (w : World) (K : K1) : reads Try.prog space_Space_Reset_ann Try.f51 #[t0] w K = space_Space_Reset K t0 w := by kernel_rfl
theorem space_Space_Reset_of {t0 : Value} {w : World} {K : K1} (h : space_Space_Reset K t0 w) : Yld Try.prog n_space_Space_Reset #[t0] w K :=
  yld_of mixed space_Space_Reset_ann Try.func51 (by kernel_rfl) (space_Space_Reset_eq t0 w K) h

/-! (*loam/space.Space).Used: function 52 -/
def space_Space_Used (K : K1) (t0 : Value) (w : World) : Prop :=
 xSq w.drew fun w =>
 xPur w (fun w K => K t0 w) fun t3 =>
 xPur w (fun w K => xNilCheck t3 w K) fun t4 =>
 xPur w (fun w K => xFieldAddr Try.prog 98 t4 2 w K) fun t5 =>
 xRd w (fun K => xLoad Try.prog 3 t5 w K) fun t6 =>
 xPur w (fun w K => K t0 w) fun t7 =>
 xPur w (fun w K => xNilCheck t7 w K) fun t8 =>
 xPur w (fun w K => xFieldAddr Try.prog 98 t8 1 w K) fun t9 =>
 xRd w (fun K => xLoad Try.prog 3 t9 w K) fun t10 =>
 xPur w (fun w K => xBin Try.prog .sub 3 false t6 false t10 w K) fun t11 =>
 xPur w (fun w K => K t11 w) fun t2 =>
 K t2 w
abbrev n_space_Space_Used : Nat := 52
def space_Space_Used_ann : Ann := { loop := fun i => [], wr := fun i => [], told := fun i => bif Nat.beq i 1 then [(0, false, ⟨0, 9, some 3⟩), (1, false, ⟨1, 24, some 4⟩), (2, false, ⟨2, 48, some 5⟩), (3, false, ⟨4, 96, some 6⟩), (4, false, ⟨0, 129, some 7⟩), (5, false, ⟨16, 384, some 8⟩), (6, false, ⟨32, 768, some 9⟩), (7, false, ⟨64, 1536, some 10⟩), (8, false, ⟨136, 3136, some 11⟩), (9, false, ⟨511, 2052, some 2⟩)] else [], sq := fun i => bif Nat.beq i 1 then some (.rd true 0 (.rd true 1 (.rd true 2 (.rd false 3 (.rd true 4 (.rd true 5 (.rd true 6 (.rd false 7 (.rd true 8 (.rd true 9 .done)))))))))) else none }
theorem space_Space_Used_eq (t0 : Value) (w : World) (K : K1) : reads Try.prog space_Space_Used_ann Try.f52 #[t0] w K = space_Space_Used K t0 w := by kernel_rfl
theorem space_Space_Used_of {t0 : Value} {w : World} {K : K1} (h : space_Space_Used K t0 w) : Yld Try.prog n_space_Space_Used #[t0] w K :=
  yld_of mixed space_Space_Used_ann Try.func52 (by kernel_rfl) (space_Space_Used_eq t0 w K) h

/-! loam/mem.Of: function 53 -/
def mem_Of (K : K1) (t0 : Value) (w : World) : Prop :=
 xBuiltin Try.prog .len #[30] 3 [false] [t0] w fun t5 w =>
 xBin Try.prog .gtr 3 false t5 true (.int .i64 8192) w fun t6 w =>
 xIf t6
 (K (.tuple #[(.pointer none), (.int .i64 1)]) w)
 (xCall Try.prog (fnv 87) [t0] w fun t8 w =>
 xBuild Try.prog 138 [(0, t8)] w fun t9 w =>
 xBox Try.prog 138 t9 w fun t10 w =>
 K (.tuple #[t10, (.int .i64 0)]) w)
abbrev n_mem_Of : Nat := 53
def mem_Of_ann : Ann := { loop := fun i => [], wr := fun i => [], told := fun i => [] }
theorem mem_Of_eq (t0 : Value) (w : World) (K : K1) : reads Try.prog mem_Of_ann Try.f53 #[t0] w K = mem_Of K t0 w := by kernel_rfl
theorem mem_Of_of {t0 : Value} {w : World} {K : K1} (h : mem_Of K t0 w) : Yld Try.prog n_mem_Of #[t0] w K :=
  yld_of mixed mem_Of_ann Try.func53 (by kernel_rfl) (mem_Of_eq t0 w K) h

/-! loam/head.Right: function 54 -/
def head_Right (K : K1) (t0 : Value) (w : World) : Prop :=
 xBox Try.prog 80 t0 w fun t1 w =>
 xFieldAddr Try.prog 80 t1 2 w fun t3 w =>
 xLoad Try.prog 4 t3 w fun t4 w =>
 xIf t4
 (xFieldAddr Try.prog 80 t1 0 w fun t5 w =>
 xLoad Try.prog 3 t5 w fun t6 w =>
 xBin Try.prog .eql 3 false t6 true (.int .i64 0) w fun t7 w =>
 xGuard t7 true (fun w K => xFieldAddr Try.prog 80 t1 1 w K) w fun t9 w =>
 xGuard t7 true (fun w K => xLoad Try.prog 3 t9 w K) w fun t10 w =>
 xGuard t7 true (fun w K => xBin Try.prog .eql 3 false t10 true (.int .i64 0) w K) w fun t11 w =>
 xPick t7 t11 (.bool false) w fun t12 w =>
 xGuard t12 true (fun w K => xFieldAddr Try.prog 80 t1 3 w K) w fun t14 w =>
 xGuard t12 true (fun w K => xLoad Try.prog 3 t14 w K) w fun t15 w =>
 xGuard t12 true (fun w K => xBin Try.prog .geq 3 false t15 true (.int .i64 0) w K) w fun t16 w =>
 xPick t12 t16 (.bool false) w fun t17 w =>
 xGuard t17 true (fun w K => xFieldAddr Try.prog 80 t1 3 w K) w fun t19 w =>
 xGuard t17 true (fun w K => xLoad Try.prog 3 t19 w K) w fun t20 w =>
 xGuard t17 true (fun w K => xBin Try.prog .lss 3 false t20 true (.int .i64 8192) w K) w fun t21 w =>
 xPick t17 t21 (.bool false) w fun t22 w =>
 K t22 w)
 (xFieldAddr Try.prog 80 t1 3 w fun t23 w =>
 xLoad Try.prog 3 t23 w fun t24 w =>
 xBin Try.prog .eql 3 false t24 true (.int .i64 0) w fun t25 w =>
 xGuard t25 true (fun w K => xFieldAddr Try.prog 80 t1 0 w K) w fun t27 w =>
 xGuard t25 true (fun w K => xLoad Try.prog 3 t27 w K) w fun t28 w =>
 xGuard t25 true (fun w K => xBin Try.prog .geq 3 false t28 true (.int .i64 0) w K) w fun t29 w =>
 xPick t25 t29 (.bool false) w fun t30 w =>
 xGuard t30 true (fun w K => xFieldAddr Try.prog 80 t1 0 w K) w fun t32 w =>
 xGuard t30 true (fun w K => xLoad Try.prog 3 t32 w K) w fun t33 w =>
 xGuard t30 true (fun w K => xBin Try.prog .leq 3 false t33 true (.int .i64 64) w K) w fun t34 w =>
 xPick t30 t34 (.bool false) w fun t35 w =>
 xGuard t35 true (fun w K => xFieldAddr Try.prog 80 t1 1 w K) w fun t37 w =>
 xGuard t35 true (fun w K => xLoad Try.prog 3 t37 w K) w fun t38 w =>
 xGuard t35 true (fun w K => xBin Try.prog .geq 3 false t38 true (.int .i64 0) w K) w fun t39 w =>
 xPick t35 t39 (.bool false) w fun t40 w =>
 xGuard t40 true (fun w K => xFieldAddr Try.prog 80 t1 1 w K) w fun t42 w =>
 xGuard t40 true (fun w K => xLoad Try.prog 3 t42 w K) w fun t43 w =>
 xGuard t40 true (fun w K => xBin Try.prog .leq 3 false t43 true (.int .i64 1024) w K) w fun t44 w =>
 xPick t40 t44 (.bool false) w fun t45 w =>
 K t45 w)
abbrev n_head_Right : Nat := 54
def head_Right_ann : Ann := { loop := fun i => [], wr := fun i => [], told := fun i => [] }
theorem head_Right_eq (t0 : Value) (w : World) (K : K1) : reads Try.prog head_Right_ann Try.f54 #[t0] w K = head_Right K t0 w := by kernel_rfl
theorem head_Right_of {t0 : Value} {w : World} {K : K1} (h : head_Right K t0 w) : Yld Try.prog n_head_Right #[t0] w K :=
  yld_of mixed head_Right_ann Try.func54 (by kernel_rfl) (head_Right_eq t0 w K) h

/-! (*loam/mem.Mem).Get: function 55 -/
def mem_Mem_Get (K : K1) (t0 t1 : Value) (w : World) : Prop :=
 xNilCheck t0 w fun t8 w =>
 xFieldAddr Try.prog 138 t8 0 w fun t9 w =>
 xLoad Try.prog 30 t9 w fun t10 w =>
 xBuiltin Try.prog .len #[30] 3 [false] [t10] w fun t11 w =>
 xCall Try.prog (fnv 88) [t1, (.int .i64 1), t11] w fun t12 w =>
 xUn Try.prog .not t12 w fun t13 w =>
 xIf t13
 (K (.tuple #[(c64 0), (.int .i64 1)]) w)
 (xNilCheck t0 w fun t15 w =>
 xFieldAddr Try.prog 138 t15 0 w fun t16 w =>
 xLoad Try.prog 30 t16 w fun t17 w =>
 xIndexAddr Try.prog 30 t17 t1 w fun t19 w =>
 xLoad Try.prog 29 t19 w fun t20 w =>
 K (.tuple #[t20, (.int .i64 0)]) w)
abbrev n_mem_Mem_Get : Nat := 55
def mem_Mem_Get_ann : Ann := { loop := fun i => [], wr := fun i => [], told := fun i => [] }
theorem mem_Mem_Get_eq (t0 t1 : Value) (w : World) (K : K1) : reads Try.prog mem_Mem_Get_ann Try.f55 #[t0, t1] w K = mem_Mem_Get K t0 t1 w := by kernel_rfl
theorem mem_Mem_Get_of {t0 t1 : Value} {w : World} {K : K1} (h : mem_Mem_Get K t0 t1 w) : Yld Try.prog n_mem_Mem_Get #[t0, t1] w K :=
  yld_of mixed mem_Mem_Get_ann Try.func55 (by kernel_rfl) (mem_Mem_Get_eq t0 t1 w K) h

/-! loam/head.Size: function 56 -/
def head_Size (K : K1) (t0 : Value) (w : World) : Prop :=
 xBox Try.prog 80 t0 w fun t1 w =>
 xLoad Try.prog 80 t1 w fun t3 w =>
 xCall Try.prog (fnv 54) [t3] w fun t4 w =>
 xUn Try.prog .not t4 w fun t5 w =>
 xGuard t5 false (fun w K => xFieldAddr Try.prog 80 t1 2 w K) w fun t7 w =>
 xGuard t5 false (fun w K => xLoad Try.prog 4 t7 w K) w fun t8 w =>
 xPick t5 (.bool true) t8 w fun t9 w =>
 xIf t9
 (K (.int .i64 0) w)
 (xFieldAddr Try.prog 80 t1 0 w fun t10 w =>
 xLoad Try.prog 3 t10 w fun t11 w =>
 xBin Try.prog .add 3 true (.int .i64 1) false t11 w fun t12 w =>
 xFieldAddr Try.prog 80 t1 1 w fun t13 w =>
 xLoad Try.prog 3 t13 w fun t14 w =>
 xBin Try.prog .add 3 false t14 true (.int .i64 8) w fun t15 w =>
 xBin Try.prog .sub 3 false t15 true (.int .i64 1) w fun t16 w =>
 xBin Try.prog .quo 3 false t16 true (.int .i64 8) w fun t17 w =>
 xBin Try.prog .add 3 false t12 false t17 w fun t18 w =>
 K t18 w)
abbrev n_head_Size : Nat := 56
def head_Size_ann : Ann := { loop := fun i => [], wr := fun i => [], told := fun i => [] }
theorem head_Size_eq (t0 : Value) (w : World) (K : K1) : reads Try.prog head_Size_ann Try.f56 #[t0] w K = head_Size K t0 w := by kernel_rfl
theorem head_Size_of {t0 : Value} {w : World} {K : K1} (h : head_Size K t0 w) : Yld Try.prog n_head_Size #[t0] w K :=
  yld_of mixed head_Size_ann Try.func56 (by kernel_rfl) (head_Size_eq t0 w K) h

/-! loam/loamlaw15.Mem: function 57 -/
def loamlaw15_Mem (K : K1) (t0 : Value) (w : World) : Prop :=
 xCall Try.prog (fnv 53) [t0] w fun t7 w =>
 xExtract Try.prog t7 0 w fun t8 w =>
 xExtract Try.prog t7 1 w fun t9 w =>
 xBin Try.prog .neq 3 false t9 true (.int .i64 0) w fun t11 w =>
 xIf t11
 (K (.pointer none) w)
 (K t8 w)
abbrev n_loamlaw15_Mem : Nat := 57
def loamlaw15_Mem_ann : Ann := { loop := fun i => [], wr := fun i => [], told := fun i => [] }
theorem loamlaw15_Mem_eq (t0 : Value) (w : World) (K : K1) : reads Try.prog loamlaw15_Mem_ann Try.f57 #[t0] w K = loamlaw15_Mem K t0 w := by kernel_rfl
theorem loamlaw15_Mem_of {t0 : Value} {w : World} {K : K1} (h : loamlaw15_Mem K t0 w) : Yld Try.prog n_loamlaw15_Mem #[t0] w K :=
  yld_of mixed loamlaw15_Mem_ann Try.func57 (by kernel_rfl) (loamlaw15_Mem_eq t0 w K) h

/-! (*loam/loamref14.Space).Alloc: function 58 -/
def loamref14_Space_Alloc_l1 (K : K1) (nxt0 : List Value → World → Prop) (t0 t3 t6 t7 t8 : Value) (w : World) : Prop :=
 xLoad Try.prog 108 t3 w fun t39_1 w =>
 xCall Try.prog (fnv 90) [t39_1] w fun t40_1 w =>
 xBin Try.prog .lss 3 false t8 false t40_1 w fun t41_1 w =>
 xIf t41_1
 (xBin Try.prog .add 3 false t6 false t8 w fun t47_1 w =>
 xIndexAddr Try.prog 30 t7 t47_1 w fun t48_1 w =>
 xStore Try.prog 29 t48_1 (c64 0) w fun _ w =>
 xBin Try.prog .add 3 false t8 true (.int .i64 1) w fun t43_1 w =>
 nxt0 [t43_1] w)
 (xLoad Try.prog 108 t3 w fun t52 w =>
 xCall Try.prog (fnv 91) [t52] w fun t53 w =>
 xExtract Try.prog t53 0 w fun t54 w =>
 xExtract Try.prog t53 1 w fun t55 w =>
 xIndexAddr Try.prog 30 t7 t6 w fun t56 w =>
 xStore Try.prog 29 t56 t54 w fun _ w =>
 xNilCheck t0 w fun t59 w =>
 xFieldAddr Try.prog 105 t59 0 w fun t60 w =>
 xStore Try.prog 30 t60 t7 w fun _ w =>
 xLoad Try.prog 108 t3 w fun t63 w =>
 xCall Try.prog (fnv 90) [t63] w fun t64 w =>
 xBin Try.prog .add 3 false t6 false t64 w fun t65 w =>
 xNilCheck t0 w fun t66 w =>
 xFieldAddr Try.prog 105 t66 2 w fun t67 w =>
 xStore Try.prog 3 t67 t65 w fun _ w =>
 K (.tuple #[t6, (.int .i64 0)]) w)
def loamref14_Space_Alloc (K : K1) (t0 t1 : Value) (w : World) : Prop :=
 xBox Try.prog 108 t1 w fun t3 w =>
 xLoad Try.prog 108 t3 w fun t9 w =>
 xCall Try.prog (fnv 89) [t9] w fun t10 w =>
 xUn Try.prog .not t10 w fun t11 w =>
 xGuard t11 false (fun w K => xFieldAddr Try.prog 108 t3 2 w K) w fun t13 w =>
 xGuard t11 false (fun w K => xLoad Try.prog 4 t13 w K) w fun t14 w =>
 xPick t11 (.bool true) t14 w fun t15 w =>
 xIf t15
 (K (.tuple #[(.int .i64 0), (.int .i64 1)]) w)
 (xSq w.drew fun w =>
 xRd w (fun K => xLoad Try.prog 108 t3 w K) fun t16 =>
 xPur w (fun w K => K t0 w) fun t18 =>
 xPur w (fun w K => xNilCheck t18 w K) fun t19 =>
 xPur w (fun w K => xFieldAddr Try.prog 105 t19 3 w K) fun t20 =>
 xRd w (fun K => xLoad Try.prog 3 t20 w K) fun t21 =>
 xPur w (fun w K => K t0 w) fun t22 =>
 xPur w (fun w K => xNilCheck t22 w K) fun t23 =>
 xPur w (fun w K => xFieldAddr Try.prog 105 t23 2 w K) fun t24 =>
 xRd w (fun K => xLoad Try.prog 3 t24 w K) fun t25 =>
 xPur w (fun w K => xBin Try.prog .sub 3 false t21 false t25 w K) fun t26 =>
 xCall Try.prog (fnv 90) [t16] w fun t17 w =>
 xRe w (fun K => xLoad Try.prog 3 t20 w K) t21 (
 xRe w (fun K => xLoad Try.prog 3 t24 w K) t25 (
 xPur w (fun w K => xBin Try.prog .gtr 3 false t17 false t26 w K) fun t27 =>
 xIf t27
 (K (.tuple #[(.int .i64 0), (.int .i64 6)]) w)
 (xNilCheck t0 w fun t29 w =>
 xFieldAddr Try.prog 105 t29 2 w fun t30 w =>
 xLoad Try.prog 3 t30 w fun t31 w =>
 xBuildSlice Try.prog 30 0 [] w fun t32 w =>
 xNilCheck t0 w fun t34 w =>
 xFieldAddr Try.prog 105 t34 0 w fun t35 w =>
 xLoad Try.prog 30 t35 w fun t36 w =>
 xBuiltin Try.prog .append #[30, 30] 30 [false, false] [t32, t36] w fun t37 w =>
 xLoop [(.int .i64 0)] w [8] fun u w nxt0 =>
 loamref14_Space_Alloc_l1 K nxt0 t0 t3 t31 t37 (u 8) w))))
abbrev n_loamref14_Space_Alloc : Nat := 58
def loamref14_Space_Alloc_ann : Ann := { loop := fun i => bif Nat.beq i 0 then [8] else [], wr := fun i => bif Nat.beq i 0 then [8, 38, 39, 40, 41, 42, 43, 44, 45, 46, 47, 48] else [], told := fun i => bif Nat.beq i 3 then [(0, false, ⟨0, 65544, some 16⟩), (2, false, ⟨0, 262145, some 18⟩), (3, false, ⟨4, 786432, some 19⟩), (4, false, ⟨8, 1572864, some 20⟩), (5, false, ⟨16, 3145728, some 21⟩), (6, false, ⟨0, 4194305, some 22⟩), (7, false, ⟨64, 12582912, some 23⟩), (8, false, ⟨128, 25165824, some 24⟩), (9, false, ⟨256, 50331648, some 25⟩), (10, false, ⟨544, 102760448, some 26⟩), (1, false, ⟨1, 196608, some 17⟩), (11, false, ⟨1026, 201457664, some 27⟩)] else [], sq := fun i => bif Nat.beq i 3 then some (.rd false 0 (.rd true 2 (.rd true 3 (.rd true 4 (.rd false 5 (.rd true 6 (.rd true 7 (.rd true 8 (.rd false 9 (.rd true 10 (.ef 1 [5, 9] (.rd true 11 .done)))))))))))) else none }
theorem loamref14_Space_Alloc_eq (t0 t1 : Value) (w : World) (K : K1) : reads Try.prog loamref14_Space_Alloc_ann Try.f58 #[t0, t1] w K = loamref14_Space_Alloc K t0 t1 w := by kernel_rfl
theorem loamref14_Space_Alloc_of {t0 t1 : Value} {w : World} {K : K1} (h : loamref14_Space_Alloc K t0 t1 w) : Yld Try.prog n_loamref14_Space_Alloc #[t0, t1] w K :=
  yld_of mixed loamref14_Space_Alloc_ann Try.func58 (by kernel_rfl) (loamref14_Space_Alloc_eq t0 t1 w K) h

/-! loam/loamlaw14.Of: function 59 -/
def loamlaw14_Of (K : K1) (t0 : Value) (w : World) : Prop :=
 xBox Try.prog 80 t0 w fun t1 w =>
 xAlloc Try.prog 108 w fun t2 w =>
 xFieldAddr Try.prog 80 t1 0 w fun t3 w =>
 xLoad Try.prog 3 t3 w fun t4 w =>
 xFieldAddr Try.prog 80 t1 1 w fun t5 w =>
 xLoad Try.prog 3 t5 w fun t6 w =>
 xFieldAddr Try.prog 80 t1 2 w fun t7 w =>
 xLoad Try.prog 4 t7 w fun t8 w =>
 xFieldAddr Try.prog 80 t1 3 w fun t9 w =>
 xLoad Try.prog 3 t9 w fun t10 w =>
 xBuild Try.prog 108 [(0, t4), (1, t6), (2, t8), (3, t10)] w fun t11 w =>
 xStore Try.prog 108 t2 t11 w fun _ w =>
 xLoadR Try.prog 108 t2 w fun r0 =>
 K r0 w
abbrev n_loamlaw14_Of : Nat := 59
def loamlaw14_Of_ann : Ann := { loop := fun i => [], wr := fun i => [], told := fun i => [] }
theorem loamlaw14_Of_eq (t0 : Value) (w : World) (K : K1) : reads Try.prog loamlaw14_Of_ann Try.f59 #[t0] w K = loamlaw14_Of K t0 w := by kernel_rfl
theorem loamlaw14_Of_of {t0 : Value} {w : World} {K : K1} (h : loamlaw14_Of K t0 w) : Yld Try.prog n_loamlaw14_Of #[t0] w K :=
  yld_of mixed loamlaw14_Of_ann Try.func59 (by kernel_rfl) (loamlaw14_Of_eq t0 w K) h

/-! loam/loamlaw15.Same: function 60 -/
def loamlaw15_Same_l1 (K : K1) (nxt0 : List Value → World → Prop) (t0 t1 t5 t6 : Value) (w : World) : Prop :=
 xBuiltin Try.prog .len #[30] 3 [false] [t5] w fun t55_1 w =>
 xBin Try.prog .lss 3 false t6 false t55_1 w fun t56_1 w =>
 xIf t56_1
 (xSq w.drew fun w =>
 xPur w (fun w K => K t5 w) fun t59_1 =>
 xPur w (fun w K => K t6 w) fun t60_1 =>
 xPur w (fun w K => xIndexAddr Try.prog 30 t59_1 t60_1 w K) fun t61_1 =>
 xRd w (fun K => xLoad Try.prog 29 t61_1 w K) fun t62_1 =>
 xPur w (fun w K => K t1 w) fun t63_1 =>
 xPur w (fun w K => xNilCheck t63_1 w K) fun t64_1 =>
 xPur w (fun w K => xFieldAddr Try.prog 105 t64_1 0 w K) fun t65_1 =>
 xRd w (fun K => xLoad Try.prog 30 t65_1 w K) fun t66_1 =>
 xPur w (fun w K => K t6 w) fun t67_1 =>
 xPur w (fun w K => xIndexAddr Try.prog 30 t66_1 t67_1 w K) fun t68_1 =>
 xRd w (fun K => xLoad Try.prog 29 t68_1 w K) fun t69_1 =>
 xPur w (fun w K => xBin Try.prog .neq 29 false t62_1 false t69_1 w K) fun t70_1 =>
 xIf t70_1
 (K (.bool false) w)
 (xBin Try.prog .add 3 false t6 true (.int .i64 1) w fun t58_1 w =>
 nxt0 [t58_1] w))
 (xSq w.drew fun w =>
 xPur w (fun w K => K t0 w) fun t71 =>
 xPur w (fun w K => K t1 w) fun t73 =>
 xPur w (fun w K => xNilCheck t73 w K) fun t74 =>
 xPur w (fun w K => xFieldAddr Try.prog 105 t74 2 w K) fun t75 =>
 xRd w (fun K => xLoad Try.prog 3 t75 w K) fun t76 =>
 xPur w (fun w K => K t1 w) fun t77 =>
 xPur w (fun w K => xNilCheck t77 w K) fun t78 =>
 xPur w (fun w K => xFieldAddr Try.prog 105 t78 1 w K) fun t79 =>
 xRd w (fun K => xLoad Try.prog 3 t79 w K) fun t80 =>
 xPur w (fun w K => xBin Try.prog .sub 3 false t76 false t80 w K) fun t81 =>
 xCall Try.prog (fnv 52) [t71] w fun t72 w =>
 xRe w (fun K => xLoad Try.prog 3 t75 w K) t76 (
 xRe w (fun K => xLoad Try.prog 3 t79 w K) t80 (
 xPur w (fun w K => xBin Try.prog .eql 3 false t72 false t81 w K) fun t82 =>
 xPur w (fun w K => K t82 w) fun t83 =>
 xPur w (fun w K => xGuard t83 true (fun w K => K t0 w) w K) fun t84 =>
 xPur w (fun w K => xGuard t83 true (fun w K => K t1 w) w K) fun t86 =>
 xPur w (fun w K => xGuard t83 true (fun w K => xNilCheck t86 w K) w K) fun t87 =>
 xPur w (fun w K => xGuard t83 true (fun w K => xFieldAddr Try.prog 105 t87 3 w K) w K) fun t88 =>
 xRd w (fun K => xGuard t83 true (fun w K => xLoad Try.prog 3 t88 w K) w K) fun t89 =>
 xPur w (fun w K => xGuard t83 true (fun w K => K t1 w) w K) fun t90 =>
 xPur w (fun w K => xGuard t83 true (fun w K => xNilCheck t90 w K) w K) fun t91 =>
 xPur w (fun w K => xGuard t83 true (fun w K => xFieldAddr Try.prog 105 t91 2 w K) w K) fun t92 =>
 xRd w (fun K => xGuard t83 true (fun w K => xLoad Try.prog 3 t92 w K) w K) fun t93 =>
 xPur w (fun w K => xGuard t83 true (fun w K => xBin Try.prog .sub 3 false t89 false t93 w K) w K) fun t94 =>
 xGuard t83 true (fun w K => xCall Try.prog (fnv 49) [t84] w K) w fun t85 w =>
 xRe w (fun K => xGuard t83 true (fun w K => xLoad Try.prog 3 t88 w K) w K) t89 (
 xRe w (fun K => xGuard t83 true (fun w K => xLoad Try.prog 3 t92 w K) w K) t93 (
 xPur w (fun w K => xGuard t83 true (fun w K => xBin Try.prog .eql 3 false t85 false t94 w K) w K) fun t95 =>
 xPur w (fun w K => xPick t83 t95 (.bool false) w K) fun t96 =>
 xPur w (fun w K => K t96 w) fun t4_1 =>
 K t4_1 w)))))
def loamlaw15_Same (K : K1) (t0 t1 : Value) (w : World) : Prop :=
 xNilCheck t0 w fun t8 w =>
 xFieldAddr Try.prog 98 t8 0 w fun t9 w =>
 xLoad Try.prog 81 t9 w fun t10 w =>
 xCall Try.prog (fnv 92) [t10] w fun t11 w =>
 xSq w.drew fun w =>
 xPur w (fun w K => K t0 w) fun t12 =>
 xPur w (fun w K => xNilCheck t12 w K) fun t13 =>
 xPur w (fun w K => xFieldAddr Try.prog 98 t13 1 w K) fun t14 =>
 xRd w (fun K => xLoad Try.prog 3 t14 w K) fun t15 =>
 xPur w (fun w K => K t1 w) fun t16 =>
 xPur w (fun w K => xNilCheck t16 w K) fun t17 =>
 xPur w (fun w K => xFieldAddr Try.prog 105 t17 1 w K) fun t18 =>
 xRd w (fun K => xLoad Try.prog 3 t18 w K) fun t19 =>
 xPur w (fun w K => xBin Try.prog .neq 3 false t15 false t19 w K) fun t20 =>
 xPur w (fun w K => K t20 w) fun t21 =>
 xPur w (fun w K => xGuard t21 false (fun w K => K t0 w) w K) fun t22 =>
 xPur w (fun w K => xGuard t21 false (fun w K => xNilCheck t22 w K) w K) fun t23 =>
 xPur w (fun w K => xGuard t21 false (fun w K => xFieldAddr Try.prog 98 t23 2 w K) w K) fun t24 =>
 xRd w (fun K => xGuard t21 false (fun w K => xLoad Try.prog 3 t24 w K) w K) fun t25 =>
 xPur w (fun w K => xGuard t21 false (fun w K => K t1 w) w K) fun t26 =>
 xPur w (fun w K => xGuard t21 false (fun w K => xNilCheck t26 w K) w K) fun t27 =>
 xPur w (fun w K => xGuard t21 false (fun w K => xFieldAddr Try.prog 105 t27 2 w K) w K) fun t28 =>
 xRd w (fun K => xGuard t21 false (fun w K => xLoad Try.prog 3 t28 w K) w K) fun t29 =>
 xPur w (fun w K => xGuard t21 false (fun w K => xBin Try.prog .neq 3 false t25 false t29 w K) w K) fun t30 =>
 xPur w (fun w K => xPick t21 (.bool true) t30 w K) fun t31 =>
 xPur w (fun w K => K t31 w) fun t32 =>
 xPur w (fun w K => xGuard t32 false (fun w K => K t0 w) w K) fun t33 =>
 xPur w (fun w K => xGuard t32 false (fun w K => xNilCheck t33 w K) w K) fun t34 =>
 xPur w (fun w K => xGuard t32 false (fun w K => xFieldAddr Try.prog 98 t34 3 w K) w K) fun t35 =>
 xRd w (fun K => xGuard t32 false (fun w K => xLoad Try.prog 3 t35 w K) w K) fun t36 =>
 xPur w (fun w K => xGuard t32 false (fun w K => K t1 w) w K) fun t37 =>
 xPur w (fun w K => xGuard t32 false (fun w K => xNilCheck t37 w K) w K) fun t38 =>
 xPur w (fun w K => xGuard t32 false (fun w K => xFieldAddr Try.prog 105 t38 3 w K) w K) fun t39 =>
 xRd w (fun K => xGuard t32 false (fun w K => xLoad Try.prog 3 t39 w K) w K) fun t40 =>
 xPur w (fun w K => xGuard t32 false (fun w K => xBin Try.prog .neq 3 false t36 false t40 w K) w K) fun t41 =>
 xPur w (fun w K => xPick t32 (.bool true) t41 w K) fun t42 =>
 xPur w (fun w K => K t42 w) fun t43 =>
 xPur w (fun w K => xGuard t43 false (fun w K => K t11 w) w K) fun t44 =>
 xPur w (fun w K => xGuard t43 false (fun w K => xBuiltin Try.prog .len #[30] 3 [false] [t44] w K) w K) fun t45 =>
 xPur w (fun w K => xGuard t43 false (fun w K => K t1 w) w K) fun t46 =>
 xPur w (fun w K => xGuard t43 false (fun w K => xNilCheck t46 w K) w K) fun t47 =>
 xPur w (fun w K => xGuard t43 false (fun w K => xFieldAddr Try.prog 105 t47 0 w K) w K) fun t48 =>
 xRd w (fun K => xGuard t43 false (fun w K => xLoad Try.prog 30 t48 w K) w K) fun t49 =>
 xPur w (fun w K => xGuard t43 false (fun w K => xBuiltin Try.prog .len #[30] 3 [false] [t49] w K) w K) fun t50 =>
 xPur w (fun w K => xGuard t43 false (fun w K => xBin Try.prog .neq 3 false t45 false t50 w K) w K) fun t51 =>
 xPur w (fun w K => xPick t43 (.bool true) t51 w K) fun t52 =>
 xIf t52
 (K (.bool false) w)
 (xLoop [(.int .i64 0)] w [6] fun u w nxt0 =>
 loamlaw15_Same_l1 K nxt0 t0 t1 t11 (u 6) w)
abbrev n_loamlaw15_Same : Nat := 60
def loamlaw15_Same_ann : Ann := { loop := fun i => bif Nat.beq i 0 then [6] else [], wr := fun i => bif Nat.beq i 0 then [4, 6, 53, 54, 55, 56, 57, 58, 59, 60, 61, 62, 63, 64, 65, 66, 67, 68, 69, 70] else [], told := fun i => bif Nat.beq i 2 then [(0, false, ⟨0, 4097, some 12⟩), (1, false, ⟨1, 12288, some 13⟩), (2, false, ⟨2, 24576, some 14⟩), (3, false, ⟨4, 49152, some 15⟩), (4, false, ⟨0, 65538, some 16⟩), (5, false, ⟨16, 196608, some 17⟩), (6, false, ⟨32, 393216, some 18⟩), (7, false, ⟨64, 786432, some 19⟩), (8, false, ⟨136, 1605632, some 20⟩), (9, false, ⟨256, 3145728, some 21⟩), (10, false, ⟨512, 6291457, some 22⟩), (11, false, ⟨1536, 14680064, some 23⟩), (12, false, ⟨2560, 27262976, some 24⟩), (13, false, ⟨4608, 52428800, some 25⟩), (14, false, ⟨512, 69206018, some 26⟩), (15, false, ⟨16896, 203423744, some 27⟩), (16, false, ⟨33280, 404750336, some 28⟩), (17, false, ⟨66048, 807403520, some 29⟩), (18, false, ⟨139776, 1646264320, some 30⟩), (19, false, ⟨262656, 3223322624, some 31⟩), (20, false, ⟨524800, 6442450944, some 32⟩), (21, false, ⟨1048576, 12884901889, some 33⟩), (22, false, ⟨3145728, 30064771072, some 34⟩), (23, false, ⟨5242880, 55834574848, some 35⟩), (24, false, ⟨9437184, 107374182400, some 36⟩), (25, false, ⟨1048576, 141733920770, some 37⟩), (26, false, ⟨34603008, 416611827712, some 38⟩), (27, false, ⟨68157440, 828928688128, some 39⟩), (28, false, ⟨135266304, 1653562408960, some 40⟩), (29, false, ⟨286261248, 3371549327360, some 41⟩), (30, false, ⟨537919488, 6601364733952, some 42⟩), (31, false, ⟨1074790400, 13194139533312, some 43⟩), (32, false, ⟨2147483648, 26388279066656, some 44⟩), (33, false, ⟨6442450944, 61572651155456, some 45⟩), (34, false, ⟨2147483648, 79164837199874, some 46⟩), (35, false, ⟨19327352832, 219902325555200, some 47⟩), (36, false, ⟨36507222016, 431008558088192, some 48⟩), (37, false, ⟨70866960384, 853221023154176, some 49⟩), (38, false, ⟨139586437120, 1697645953286144, some 50⟩), (39, false, ⟨285615325184, 3421680185638912, some 51⟩), (40, false, ⟨551903297536, 6764195534077952, some 52⟩)] else bif Nat.beq i 7 then [(0, false, ⟨0, 576460752303423520, some 59⟩), (1, false, ⟨0, 1152921504606847040, some 60⟩), (2, false, ⟨3, 4035225266123964416, some 61⟩), (3, false, ⟨4, 6917529027641081856, some 62⟩), (4, false, ⟨0, 9223372036854775810, some 63⟩), (5, false, ⟨16, 27670116110564327424, some 64⟩), (6, false, ⟨32, 55340232221128654848, some 65⟩), (7, false, ⟨64, 110680464442257309696, some 66⟩), (8, false, ⟨0, 147573952589676412992, some 67⟩), (9, false, ⟨384, 516508834063867445248, some 68⟩), (10, false, ⟨512, 885443715538058477568, some 69⟩), (11, false, ⟨1032, 1775499117094544343040, some 70⟩)] else bif Nat.beq i 9 then [(0, false, ⟨0, 2361183241434822606849, some 71⟩), (2, false, ⟨0, 9444732965739290427394, some 73⟩), (3, false, ⟨4, 28334198897217871282176, some 74⟩), (4, false, ⟨8, 56668397794435742564352, some 75⟩), (5, false, ⟨16, 113336795588871485128704, some 76⟩), (6, false, ⟨0, 151115727451828646838274, some 77⟩), (7, false, ⟨64, 453347182355485940514816, some 78⟩), (8, false, ⟨128, 906694364710971881029632, some 79⟩), (9, false, ⟨256, 1813388729421943762059264, some 80⟩), (10, false, ⟨544, 3702335322569801847537664, some 81⟩), (1, false, ⟨1, 7083549724304467820544, some 72⟩), (11, false, ⟨1026, 7258277284170644693450752, some 82⟩), (12, false, ⟨2050, 14507109835375550096474112, some 83⟩), (13, false, ⟨4096, 29014219670751100192948225, some 84⟩), (15, false, ⟨4096, 87042659012253300578844674, some 86⟩), (16, false, ⟨36864, 241785163922925834941235200, some 87⟩), (17, false, ⟨69632, 473898921288934636484820992, some 88⟩), (18, false, ⟨135168, 938126436020952239571992576, some 89⟩), (19, false, ⟨4096, 1247611445842297308296773634, some 90⟩), (20, false, ⟨528384, 3723491524413057858095022080, some 91⟩), (21, false, ⟨1052672, 7437311642269198682792394752, some 92⟩), (22, false, ⟨2101248, 14864951877981480332187140096, some 93⟩), (23, false, ⟨4460544, 30339202369048733768426192896, some 94⟩), (14, false, ⟨12288, 67699845898419233783545856, some 85⟩), (24, false, ⟨8409088, 59469478918482838362146209792, some 95⟩), (25, false, ⟨16781312, 118851915177953423423713574912, some 96⟩), (26, false, ⟨67108863, 79228162514264337593543950352, some 4⟩)] else [], sq := fun i => bif Nat.beq i 2 then some (.rd true 0 (.rd true 1 (.rd true 2 (.rd false 3 (.rd true 4 (.rd true 5 (.rd true 6 (.rd false 7 (.rd true 8 (.rd true 9 (.rd true 10 (.rd true 11 (.rd true 12 (.rd false 13 (.rd true 14 (.rd true 15 (.rd true 16 (.rd false 17 (.rd true 18 (.rd true 19 (.rd true 20 (.rd true 21 (.rd true 22 (.rd true 23 (.rd false 24 (.rd true 25 (.rd true 26 (.rd true 27 (.rd false 28 (.rd true 29 (.rd true 30 (.rd true 31 (.rd true 32 (.rd true 33 (.rd true 34 (.rd true 35 (.rd true 36 (.rd false 37 (.rd true 38 (.rd true 39 (.rd true 40 .done))))))))))))))))))))))))))))))))))))))))) else bif Nat.beq i 7 then some (.rd true 0 (.rd true 1 (.rd true 2 (.rd false 3 (.rd true 4 (.rd true 5 (.rd true 6 (.rd false 7 (.rd true 8 (.rd true 9 (.rd false 10 (.rd true 11 .done)))))))))))) else bif Nat.beq i 9 then some (.rd true 0 (.rd true 2 (.rd true 3 (.rd true 4 (.rd false 5 (.rd true 6 (.rd true 7 (.rd true 8 (.rd false 9 (.rd true 10 (.ef 1 [5, 9] (.rd true 11 (.rd true 12 (.rd true 13 (.rd true 15 (.rd true 16 (.rd true 17 (.rd false 18 (.rd true 19 (.rd true 20 (.rd true 21 (.rd false 22 (.rd true 23 (.ef 14 [18, 22] (.rd true 24 (.rd true 25 (.rd true 26 .done))))))))))))))))))))))))))) else none }
theorem loamlaw15_Same_eq (t0 t1 : Value) (w : World) (K : K1) : reads Try.prog loamlaw15_Same_ann Try.f60 #[t0, t1] w K = loamlaw15_Same K t0 t1 w := by kernel_rfl
theorem loamlaw15_Same_of {t0 t1 : Value} {w : World} {K : K1} (h : loamlaw15_Same K t0 t1 w) : Yld Try.prog n_loamlaw15_Same #[t0, t1] w K :=
  yld_of mixed loamlaw15_Same_ann Try.func60 (by kernel_rfl) (loamlaw15_Same_eq t0 t1 w K) h

/-! (*loam/loamref14.Space).Objects: function 61 -/
def loamref14_Space_Objects_l1 (K : K1) (nxt0 : List Value → World → Prop) (t0 t4 t5 : Value) (w : World) : Prop :=
 xNilCheck t0 w fun t14_1 w =>
 xFieldAddr Try.prog 105 t14_1 2 w fun t15_1 w =>
 xLoad Try.prog 3 t15_1 w fun t16_1 w =>
 xBin Try.prog .lss 3 false t5 false t16_1 w fun t17_1 w =>
 xIf t17_1
 (xNilCheck t0 w fun t20_1 w =>
 xFieldAddr Try.prog 105 t20_1 0 w fun t21_1 w =>
 xLoad Try.prog 30 t21_1 w fun t22_1 w =>
 xIndexAddr Try.prog 30 t22_1 t5 w fun t24_1 w =>
 xLoad Try.prog 29 t24_1 w fun t25_1 w =>
 xCall Try.prog (fnv 93) [t25_1] w fun t26_1 w =>
 xExtract Try.prog t26_1 0 w fun t27_1 w =>
 xExtract Try.prog t26_1 1 w fun t28_1 w =>
 xAlloc Try.prog 108 w fun t6_1 w =>
 xStore Try.prog 108 t6_1 t27_1 w fun _ w =>
 xSq w.drew fun w =>
 xPur w (fun w K => K t28_1 w) fun t29_1 =>
 xPur w (fun w K => xBin Try.prog .neq 3 false t29_1 true (.int .i64 0) w K) fun t30_1 =>
 xPur w (fun w K => K t30_1 w) fun t31_1 =>
 xPur w (fun w K => xGuard t31_1 false (fun w K => xFieldAddr Try.prog 108 t6_1 2 w K) w K) fun t32_1 =>
 xRd w (fun K => xGuard t31_1 false (fun w K => xLoad Try.prog 4 t32_1 w K) w K) fun t33_1 =>
 xPur w (fun w K => xPick t31_1 (.bool true) t33_1 w K) fun t34_1 =>
 xPur w (fun w K => K t34_1 w) fun t35_1 =>
 xRd w (fun K => xGuard t35_1 false (fun w K => xLoad Try.prog 108 t6_1 w K) w K) fun t36_1 =>
 xPur w (fun w K => xGuard t35_1 false (fun w K => K t0 w) w K) fun t38_1 =>
 xPur w (fun w K => xGuard t35_1 false (fun w K => xNilCheck t38_1 w K) w K) fun t39_1 =>
 xPur w (fun w K => xGuard t35_1 false (fun w K => xFieldAddr Try.prog 105 t39_1 2 w K) w K) fun t40_1 =>
 xRd w (fun K => xGuard t35_1 false (fun w K => xLoad Try.prog 3 t40_1 w K) w K) fun t41_1 =>
 xPur w (fun w K => xGuard t35_1 false (fun w K => K t5 w) w K) fun t42_1 =>
 xPur w (fun w K => xGuard t35_1 false (fun w K => xBin Try.prog .sub 3 false t41_1 false t42_1 w K) w K) fun t43_1 =>
 xGuard t35_1 false (fun w K => xCall Try.prog (fnv 90) [t36_1] w K) w fun t37_1 w =>
 xRe w (fun K => xGuard t35_1 false (fun w K => xLoad Try.prog 3 t40_1 w K) w K) t41_1 (
 xPur w (fun w K => xGuard t35_1 false (fun w K => xBin Try.prog .gtr 3 false t37_1 false t43_1 w K) w K) fun t44_1 =>
 xPur w (fun w K => xPick t35_1 (.bool true) t44_1 w K) fun t45_1 =>
 xIf t45_1
 (K (.tuple #[(.slice none 0 0), (.bool false)]) w)
 (xBuildSlice Try.prog 89 1 [(0, t5)] w fun t48_1 w =>
 xBuiltin Try.prog .append #[89, 89] 89 [false, false] [t4, t48_1] w fun t49_1 w =>
 xLoad Try.prog 108 t6_1 w fun t51_1 w =>
 xCall Try.prog (fnv 90) [t51_1] w fun t52_1 w =>
 xBin Try.prog .add 3 false t5 false t52_1 w fun t53_1 w =>
 nxt0 [t49_1, t53_1] w)))
 (K (.tuple #[t4, (.bool true)]) w)
def loamref14_Space_Objects (K : K1) (t0 : Value) (w : World) : Prop :=
 xNilCheck t0 w fun t9 w =>
 xFieldAddr Try.prog 105 t9 1 w fun t10 w =>
 xLoad Try.prog 3 t10 w fun t11 w =>
 xLoop [(.slice none 0 0), t11] w [4, 5] fun u w nxt0 =>
 loamref14_Space_Objects_l1 K nxt0 t0 (u 4) (u 5) w
abbrev n_loamref14_Space_Objects : Nat := 61
def loamref14_Space_Objects_ann : Ann := { loop := fun i => bif Nat.beq i 0 then [4, 5] else [], wr := fun i => bif Nat.beq i 0 then [2, 3, 4, 5, 6, 7, 12, 13, 14, 15, 16, 17, 18, 19, 20, 21, 22, 23, 24, 25, 26, 27, 28, 29, 30, 31, 32, 33, 34, 35, 36, 37, 38, 39, 40, 41, 42, 43, 44, 45, 46, 47, 48, 49, 50, 51, 52, 53] else [], told := fun i => bif Nat.beq i 5 then [(0, false, ⟨0, 536871040, some 29⟩), (1, false, ⟨1, 1610612736, some 30⟩), (2, false, ⟨2, 3221225472, some 31⟩), (3, false, ⟨4, 6442451008, some 32⟩), (4, false, ⟨12, 15032385536, some 33⟩), (5, false, ⟨20, 27917287424, some 34⟩), (6, false, ⟨36, 51539607552, some 35⟩), (7, false, ⟨64, 103079215168, some 36⟩), (9, false, ⟨64, 309237645313, some 38⟩), (10, false, ⟨576, 858993459200, some 39⟩), (11, false, ⟨1088, 1683627180032, some 40⟩), (12, false, ⟨2112, 3332894621696, some 41⟩), (13, false, ⟨64, 4432406249504, some 42⟩), (14, false, ⟨12352, 15427522527232, some 43⟩), (8, false, ⟨192, 240518168576, some 37⟩), (15, false, ⟨16704, 26560077758464, some 44⟩), (16, false, ⟨32832, 52810917871616, some 45⟩)] else [], sq := fun i => bif Nat.beq i 5 then some (.rd true 0 (.rd true 1 (.rd true 2 (.rd true 3 (.rd false 4 (.rd true 5 (.rd true 6 (.rd false 7 (.rd true 9 (.rd true 10 (.rd true 11 (.rd false 12 (.rd true 13 (.rd true 14 (.ef 8 [12] (.rd true 15 (.rd true 16 .done))))))))))))))))) else none }
theorem loamref14_Space_Objects_eq (t0 : Value) (w : World) (K : K1) : reads Try.prog loamref14_Space_Objects_ann Try.f61 #[t0] w K = loamref14_Space_Objects K t0 w := by kernel_rfl
theorem loamref14_Space_Objects_of {t0 : Value} {w : World} {K : K1} (h : loamref14_Space_Objects K t0 w) : Yld Try.prog n_loamref14_Space_Objects #[t0] w K :=
  yld_of mixed loamref14_Space_Objects_ann Try.func61 (by kernel_rfl) (loamref14_Space_Objects_eq t0 w K) h

/-! loam/loamlaw15.ints: function 62 -/
def loamlaw15_ints_l1 (K : K1) (nxt0 : List Value → World → Prop) (t0 t1 t5 : Value) (w : World) : Prop :=
 xBuiltin Try.prog .len #[89] 3 [false] [t0] w fun t13_1 w =>
 xBin Try.prog .lss 3 false t5 false t13_1 w fun t14_1 w =>
 xIf t14_1
 (xSq w.drew fun w =>
 xPur w (fun w K => K t0 w) fun t17_1 =>
 xPur w (fun w K => K t5 w) fun t18_1 =>
 xPur w (fun w K => xIndexAddr Try.prog 89 t17_1 t18_1 w K) fun t19_1 =>
 xRd w (fun K => xLoad Try.prog 3 t19_1 w K) fun t20_1 =>
 xPur w (fun w K => K t1 w) fun t21_1 =>
 xPur w (fun w K => K t5 w) fun t22_1 =>
 xPur w (fun w K => xIndexAddr Try.prog 89 t21_1 t22_1 w K) fun t23_1 =>
 xRd w (fun K => xLoad Try.prog 3 t23_1 w K) fun t24_1 =>
 xPur w (fun w K => xBin Try.prog .neq 3 false t20_1 false t24_1 w K) fun t25_1 =>
 xIf t25_1
 (K (.bool false) w)
 (xBin Try.prog .add 3 false t5 true (.int .i64 1) w fun t16_1 w =>
 nxt0 [t16_1] w))
 (K (.bool true) w)
def loamlaw15_ints (K : K1) (t0 t1 : Value) (w : World) : Prop :=
 xBuiltin Try.prog .len #[89] 3 [false] [t0] w fun t7 w =>
 xBuiltin Try.prog .len #[89] 3 [false] [t1] w fun t9 w =>
 xBin Try.prog .neq 3 false t7 false t9 w fun t10 w =>
 xIf t10
 (K (.bool false) w)
 (xLoop [(.int .i64 0)] w [5] fun u w nxt0 =>
 loamlaw15_ints_l1 K nxt0 t0 t1 (u 5) w)
abbrev n_loamlaw15_ints : Nat := 62
def loamlaw15_ints_ann : Ann := { loop := fun i => bif Nat.beq i 0 then [5] else [], wr := fun i => bif Nat.beq i 0 then [4, 5, 11, 12, 13, 14, 15, 16, 17, 18, 19, 20, 21, 22, 23, 24, 25] else [], told := fun i => bif Nat.beq i 6 then [(0, false, ⟨0, 131073, some 17⟩), (1, false, ⟨0, 262176, some 18⟩), (2, false, ⟨3, 917504, some 19⟩), (3, false, ⟨4, 1572864, some 20⟩), (4, false, ⟨0, 2097154, some 21⟩), (5, false, ⟨0, 4194336, some 22⟩), (6, false, ⟨48, 14680064, some 23⟩), (7, false, ⟨64, 25165824, some 24⟩), (8, false, ⟨136, 51380224, some 25⟩)] else [], sq := fun i => bif Nat.beq i 6 then some (.rd true 0 (.rd true 1 (.rd true 2 (.rd false 3 (.rd true 4 (.rd true 5 (.rd true 6 (.rd false 7 (.rd true 8 .done))))))))) else none }
theorem loamlaw15_ints_eq (t0 t1 : Value) (w : World) (K : K1) : reads Try.prog loamlaw15_ints_ann Try.f62 #[t0, t1] w K = loamlaw15_ints K t0 t1 w := by kernel_rfl
theorem loamlaw15_ints_of {t0 t1 : Value} {w : World} {K : K1} (h : loamlaw15_ints K t0 t1 w) : Yld Try.prog n_loamlaw15_ints #[t0, t1] w K :=
  yld_of mixed loamlaw15_ints_ann Try.func62 (by kernel_rfl) (loamlaw15_ints_eq t0 t1 w K) h

/-! (*loam/space.Space).Head: function 63 -/
def space_Space_Head (K : K1) (t0 t1 : Value) (w : World) : Prop :=
 xAlloc Try.prog 80 w fun t4 w =>
 xNilCheck t0 w fun t10 w =>
 xFieldAddr Try.prog 98 t10 1 w fun t11 w =>
 xLoad Try.prog 3 t11 w fun t12 w =>
 xBin Try.prog .lss 3 false t1 false t12 w fun t13 w =>
 xGuard t13 false (fun w K => K t1 w) w fun t15 w =>
 xGuard t13 false (fun w K => K t0 w) w fun t16 w =>
 xGuard t13 false (fun w K => xNilCheck t16 w K) w fun t17 w =>
 xGuard t13 false (fun w K => xFieldAddr Try.prog 98 t17 2 w K) w fun t18 w =>
 xGuard t13 false (fun w K => xLoad Try.prog 3 t18 w K) w fun t19 w =>
 xGuard t13 false (fun w K => xBin Try.prog .geq 3 false t15 false t19 w K) w fun t20 w =>
 xPick t13 (.bool true) t20 w fun t21 w =>
 xIf t21
 (xBuild Try.prog 80 [] w fun t22 w =>
 xStore Try.prog 80 t4 t22 w fun _ w =>
 xLoadR Try.prog 80 t4 w fun r0 =>
 K (.tuple #[r0, (.int .i64 1)]) w)
 (xNilCheck t0 w fun t25 w =>
 xFieldAddr Try.prog 98 t25 0 w fun t26 w =>
 xLoad Try.prog 81 t26 w fun t27 w =>
 xCall Try.prog (fnv 55) [t27, t1] w fun t29 w =>
 xExtract Try.prog t29 0 w fun t30 w =>
 xExtract Try.prog t29 1 w fun t31 w =>
 xBin Try.prog .neq 49 false t31 true (.int .i64 0) w fun t33 w =>
 xIf t33
 (xBuild Try.prog 80 [] w fun t34 w =>
 xStore Try.prog 80 t4 t34 w fun _ w =>
 xLoadR Try.prog 80 t4 w fun r0 =>
 K (.tuple #[r0, t31]) w)
 (xCall Try.prog (fnv 94) [t30] w fun t37 w =>
 xExtract Try.prog t37 0 w fun t38 w =>
 xExtract Try.prog t37 1 w fun t39 w =>
 xStore Try.prog 80 t4 t38 w fun _ w =>
 xLoadR Try.prog 80 t4 w fun r0 =>
 K (.tuple #[r0, t39]) w))
abbrev n_space_Space_Head : Nat := 63
def space_Space_Head_ann : Ann := { loop := fun i => [], wr := fun i => [], told := fun i => [] }
theorem space_Space_Head_eq (t0 t1 : Value) (w : World) (K : K1) : reads Try.prog space_Space_Head_ann Try.f63 #[t0, t1] w K = space_Space_Head K t0 t1 w := by kernel_rfl
theorem space_Space_Head_of {t0 t1 : Value} {w : World} {K : K1} (h : space_Space_Head K t0 t1 w) : Yld Try.prog n_space_Space_Head #[t0, t1] w K :=
  yld_of mixed space_Space_Head_ann Try.func63 (by kernel_rfl) (space_Space_Head_eq t0 t1 w K) h

/-! (*loam/loamref14.Space).Head: function 64 -/
def loamref14_Space_Head (K : K1) (t0 t1 : Value) (w : World) : Prop :=
 xAlloc Try.prog 108 w fun t4 w =>
 xNilCheck t0 w fun t8 w =>
 xFieldAddr Try.prog 105 t8 1 w fun t9 w =>
 xLoad Try.prog 3 t9 w fun t10 w =>
 xBin Try.prog .lss 3 false t1 false t10 w fun t11 w =>
 xGuard t11 false (fun w K => K t1 w) w fun t13 w =>
 xGuard t11 false (fun w K => K t0 w) w fun t14 w =>
 xGuard t11 false (fun w K => xNilCheck t14 w K) w fun t15 w =>
 xGuard t11 false (fun w K => xFieldAddr Try.prog 105 t15 2 w K) w fun t16 w =>
 xGuard t11 false (fun w K => xLoad Try.prog 3 t16 w K) w fun t17 w =>
 xGuard t11 false (fun w K => xBin Try.prog .geq 3 false t13 false t17 w K) w fun t18 w =>
 xPick t11 (.bool true) t18 w fun t19 w =>
 xIf t19
 (xBuild Try.prog 108 [] w fun t20 w =>
 xStore Try.prog 108 t4 t20 w fun _ w =>
 xLoadR Try.prog 108 t4 w fun r0 =>
 K (.tuple #[r0, (.int .i64 1)]) w)
 (xNilCheck t0 w fun t22 w =>
 xFieldAddr Try.prog 105 t22 0 w fun t23 w =>
 xLoad Try.prog 30 t23 w fun t24 w =>
 xIndexAddr Try.prog 30 t24 t1 w fun t26 w =>
 xLoad Try.prog 29 t26 w fun t27 w =>
 xCall Try.prog (fnv 93) [t27] w fun t28 w =>
 xExtract Try.prog t28 0 w fun t29 w =>
 xExtract Try.prog t28 1 w fun t30 w =>
 xStore Try.prog 108 t4 t29 w fun _ w =>
 xLoadR Try.prog 108 t4 w fun r0 =>
 K (.tuple #[r0, t30]) w)
abbrev n_loamref14_Space_Head : Nat := 64
def loamref14_Space_Head_ann : Ann := { loop := fun i => [], wr := fun i => [], told := fun i => [] }
theorem loamref14_Space_Head_eq (t0 t1 : Value) (w : World) (K : K1) : reads Try.prog loamref14_Space_Head_ann Try.f64 #[t0, t1] w K = loamref14_Space_Head K t0 t1 w := by kernel_rfl
theorem loamref14_Space_Head_of {t0 t1 : Value} {w : World} {K : K1} (h : loamref14_Space_Head K t0 t1 w) : Yld Try.prog n_loamref14_Space_Head #[t0, t1] w K :=
  yld_of mixed loamref14_Space_Head_ann Try.func64 (by kernel_rfl) (loamref14_Space_Head_eq t0 t1 w K) h

/-! (*loam/space.Space).Apart: function 65 -/
def space_Space_Apart (K : K1) (t0 : Value) (w : World) : Prop :=
 xSq w.drew fun w =>
 xPur w (fun w K => K t0 w) fun t3 =>
 xPur w (fun w K => xNilCheck t3 w K) fun t4 =>
 xPur w (fun w K => xFieldAddr Try.prog 98 t4 0 w K) fun t5 =>
 xRd w (fun K => xLoad Try.prog 81 t5 w K) fun t6 =>
 xPur w (fun w K => K t0 w) fun t8 =>
 xPur w (fun w K => xNilCheck t8 w K) fun t9 =>
 xPur w (fun w K => xFieldAddr Try.prog 98 t9 1 w K) fun t10 =>
 xRd w (fun K => xLoad Try.prog 3 t10 w K) fun t11 =>
 xPur w (fun w K => K t0 w) fun t12 =>
 xPur w (fun w K => xNilCheck t12 w K) fun t13 =>
 xPur w (fun w K => xFieldAddr Try.prog 98 t13 2 w K) fun t14 =>
 xRd w (fun K => xLoad Try.prog 3 t14 w K) fun t15 =>
 xPur w (fun w K => K t0 w) fun t16 =>
 xPur w (fun w K => xNilCheck t16 w K) fun t17 =>
 xPur w (fun w K => xFieldAddr Try.prog 98 t17 3 w K) fun t18 =>
 xRd w (fun K => xLoad Try.prog 3 t18 w K) fun t19 =>
 xCall Try.prog (fnv 95) [t6] w fun t7 w =>
 xRe w (fun K => xLoad Try.prog 3 t10 w K) t11 (
 xRe w (fun K => xLoad Try.prog 3 t14 w K) t15 (
 xRe w (fun K => xLoad Try.prog 3 t18 w K) t19 (
 xPur w (fun w K => xBuild Try.prog 98 [(0, t7), (1, t11), (2, t15), (3, t19)] w K) fun t20 =>
 xBox Try.prog 98 t20 w fun t21 w =>
 xPur w (fun w K => K t21 w) fun t2 =>
 K t2 w)))
abbrev n_space_Space_Apart : Nat := 65
def space_Space_Apart_ann : Ann := { loop := fun i => [], wr := fun i => [], told := fun i => bif Nat.beq i 1 then [(0, false, ⟨0, 9, some 3⟩), (1, false, ⟨1, 24, some 4⟩), (2, false, ⟨2, 48, some 5⟩), (3, false, ⟨4, 96, some 6⟩), (5, false, ⟨0, 257, some 8⟩), (6, false, ⟨32, 768, some 9⟩), (7, false, ⟨64, 1536, some 10⟩), (8, false, ⟨128, 3072, some 11⟩), (9, false, ⟨0, 4097, some 12⟩), (10, false, ⟨512, 12288, some 13⟩), (11, false, ⟨1024, 24576, some 14⟩), (12, false, ⟨2048, 49152, some 15⟩), (13, false, ⟨0, 65537, some 16⟩), (14, false, ⟨8192, 196608, some 17⟩), (15, false, ⟨16384, 393216, some 18⟩), (16, false, ⟨32768, 786432, some 19⟩), (4, false, ⟨8, 192, some 7⟩), (17, false, ⟨69904, 1607808, some 20⟩), (18, false, ⟨131072, 3145728, some 21⟩), (19, false, ⟨524287, 2097156, some 2⟩)] else [], sq := fun i => bif Nat.beq i 1 then some (.rd true 0 (.rd true 1 (.rd true 2 (.rd false 3 (.rd true 5 (.rd true 6 (.rd true 7 (.rd false 8 (.rd true 9 (.rd true 10 (.rd true 11 (.rd false 12 (.rd true 13 (.rd true 14 (.rd true 15 (.rd false 16 (.ef 4 [8, 12, 16] (.rd true 17 (.ef 18 [] (.rd true 19 .done)))))))))))))))))))) else none }
theorem space_Space_Apart_eq (t0 : Value) (w : World) (K : K1) : reads Try.prog space_Space_Apart_ann Try.f65 #[t0] w K = space_Space_Apart K t0 w := by kernel_rfl
theorem space_Space_Apart_of {t0 : Value} {w : World} {K : K1} (h : space_Space_Apart K t0 w) : Yld Try.prog n_space_Space_Apart #[t0] w K :=
  yld_of mixed space_Space_Apart_ann Try.func65 (by kernel_rfl) (space_Space_Apart_eq t0 w K) h

/-! loam/space.Of: function 66 -/
def space_Of (K : K1) (t0 t1 t2 t3 : Value) (w : World) : Prop :=
 xCall Try.prog (fnv 83) [t0, t1, t2, t3] w fun t17 w =>
 xUn Try.prog .not t17 w fun t18 w =>
 xIf t18
 (K (.tuple #[(.pointer none), (.int .i64 1)]) w)
 (xBuild Try.prog 98 [(0, t0), (1, t1), (2, t2), (3, t3)] w fun t23 w =>
 xBox Try.prog 98 t23 w fun t24 w =>
 xCall Try.prog (fnv 50) [t24] w fun t27 w =>
 xExtract Try.prog t27 0 w fun t28 w =>
 xExtract Try.prog t27 1 w fun t29 w =>
 xBin Try.prog .neq 49 false t29 true (.int .i64 0) w fun t31 w =>
 xIf t31
 (K (.tuple #[(.pointer none), t29]) w)
 (K (.tuple #[t24, (.int .i64 0)]) w))
abbrev n_space_Of : Nat := 66
def space_Of_ann : Ann := { loop := fun i => [], wr := fun i => [], told := fun i => [] }
theorem space_Of_eq (t0 t1 t2 t3 : Value) (w : World) (K : K1) : reads Try.prog space_Of_ann Try.f66 #[t0, t1, t2, t3] w K = space_Of K t0 t1 t2 t3 w := by kernel_rfl
theorem space_Of_of {t0 t1 t2 t3 : Value} {w : World} {K : K1} (h : space_Of K t0 t1 t2 t3 w) : Yld Try.prog n_space_Of #[t0, t1, t2, t3] w K :=
  yld_of mixed space_Of_ann Try.func66 (by kernel_rfl) (space_Of_eq t0 t1 t2 t3 w K) h

/-! loam/loamref1.Low: function 67 -/
def loamref1_Low_l1 (K : K1) (nxt0 : List Value → World → Prop) (t0 t1 t5 t6 : Value) (w : World) : Prop :=
 xBin Try.prog .lss 3 false t6 false t1 w fun t9_1 w =>
 xIf t9_1
 (xBin Try.prog .mul 3 true (.int .i64 8) false t6 w fun t15_1 w =>
 xConv Try.prog 3 51 t15_1 w fun t16_1 w =>
 xBin Try.prog .shr 29 false t0 false t16_1 w fun t17_1 w =>
 xConv Try.prog 29 5 t17_1 w fun t18_1 w =>
 xBuildSlice Try.prog 26 1 [(0, t18_1)] w fun t19_1 w =>
 xBuiltin Try.prog .append #[26, 26] 26 [false, false] [t5, t19_1] w fun t20_1 w =>
 xBin Try.prog .add 3 false t6 true (.int .i64 1) w fun t11_1 w =>
 nxt0 [t20_1, t11_1] w)
 (K t5 w)
def loamref1_Low (K : K1) (t0 t1 : Value) (w : World) : Prop :=
 xLoop [(.slice none 0 0), (.int .i64 0)] w [5, 6] fun u w nxt0 =>
 loamref1_Low_l1 K nxt0 t0 t1 (u 5) (u 6) w
abbrev n_loamref1_Low : Nat := 67
def loamref1_Low_ann : Ann := { loop := fun i => bif Nat.beq i 0 then [5, 6] else [], wr := fun i => bif Nat.beq i 0 then [5, 6, 7, 8, 9, 10, 11, 12, 13, 14, 15, 16, 17, 18, 19, 20] else [], told := fun i => [] }
theorem loamref1_Low_eq (t0 t1 : Value) (w : World) (K : K1) : reads Try.prog loamref1_Low_ann Try.f67 #[t0, t1] w K = loamref1_Low K t0 t1 w := by kernel_rfl
theorem loamref1_Low_of {t0 t1 : Value} {w : World} {K : K1} (h : loamref1_Low K t0 t1 w) : Yld Try.prog n_loamref1_Low #[t0, t1] w K :=
  yld_of mixed loamref1_Low_ann Try.func67 (by kernel_rfl) (loamref1_Low_eq t0 t1 w K) h

/-! slices.Clip[[]byte,byte]: function 68 -/
def slices_Clip_byte_byte (K : K1) (t0 : Value) (w : World) : Prop :=
 xBuiltin Try.prog .len #[26] 3 [false] [t0] w fun t5 w =>
 xBuiltin Try.prog .len #[26] 3 [false] [t0] w fun t7 w =>
 xSlice Try.prog 26 t0 none (some t5) (some t7) w fun t8 w =>
 K t8 w
abbrev n_slices_Clip_byte_byte : Nat := 68
def slices_Clip_byte_byte_ann : Ann := { loop := fun i => [], wr := fun i => [], told := fun i => [] }
theorem slices_Clip_byte_byte_eq (t0 : Value) (w : World) (K : K1) : reads Try.prog slices_Clip_byte_byte_ann Try.f68 #[t0] w K = slices_Clip_byte_byte K t0 w := by kernel_rfl
theorem slices_Clip_byte_byte_of {t0 : Value} {w : World} {K : K1} (h : slices_Clip_byte_byte K t0 w) : Yld Try.prog n_slices_Clip_byte_byte #[t0] w K :=
  yld_of mixed slices_Clip_byte_byte_ann Try.func68 (by kernel_rfl) (slices_Clip_byte_byte_eq t0 w K) h

/-! slices.Clone[[]byte,byte]: function 69 -/
def slices_Clone_byte_byte (K : K1) (t0 : Value) (w : World) : Prop :=
 xBin Try.prog .eql 26 false t0 true (.slice none 0 0) w fun t4 w =>
 xIf t4
 (K (.slice none 0 0) w)
 (xBuildSlice Try.prog 26 0 [] w fun t5 w =>
 xBuiltin Try.prog .append #[26, 26] 26 [false, false] [t5, t0] w fun t7 w =>
 K t7 w)
abbrev n_slices_Clone_byte_byte : Nat := 69
def slices_Clone_byte_byte_ann : Ann := { loop := fun i => [], wr := fun i => [], told := fun i => [] }
theorem slices_Clone_byte_byte_eq (t0 : Value) (w : World) (K : K1) : reads Try.prog slices_Clone_byte_byte_ann Try.f69 #[t0] w K = slices_Clone_byte_byte K t0 w := by kernel_rfl
theorem slices_Clone_byte_byte_of {t0 : Value} {w : World} {K : K1} (h : slices_Clone_byte_byte K t0 w) : Yld Try.prog n_slices_Clone_byte_byte #[t0] w K :=
  yld_of mixed slices_Clone_byte_byte_ann Try.func69 (by kernel_rfl) (slices_Clone_byte_byte_eq t0 w K) h

/-! (*loam/codec.Dec).fail: function 70 -/
def codec_Dec_fail (K : K1) (t0 t1 : Value) (w : World) : Prop :=
 xNilCheck t0 w fun t7 w =>
 xFieldAddr Try.prog 124 t7 0 w fun t8 w =>
 xStore Try.prog 26 t8 (.slice none 0 0) w fun _ w =>
 xNilCheck t0 w fun t9 w =>
 xFieldAddr Try.prog 124 t9 1 w fun t10 w =>
 xStore Try.prog 49 t10 t1 w fun _ w =>
 K (.tuple #[]) w
abbrev n_codec_Dec_fail : Nat := 70
def codec_Dec_fail_ann : Ann := { loop := fun i => [], wr := fun i => [], told := fun i => [] }
theorem codec_Dec_fail_eq (t0 t1 : Value) (w : World) (K : K1) : reads Try.prog codec_Dec_fail_ann Try.f70 #[t0, t1] w K = codec_Dec_fail K t0 t1 w := by kernel_rfl
theorem codec_Dec_fail_of {t0 t1 : Value} {w : World} {K : K1} (h : codec_Dec_fail K t0 t1 w) : Yld Try.prog n_codec_Dec_fail #[t0, t1] w K :=
  yld_of mixed codec_Dec_fail_ann Try.func70 (by kernel_rfl) (codec_Dec_fail_eq t0 t1 w K) h

/-! (*loam/codec.Dec).take: function 71 -/
def codec_Dec_take (K : K1) (t0 t1 t2 : Value) (w : World) : Prop :=
 xNilCheck t0 w fun t10 w =>
 xFieldAddr Try.prog 124 t10 0 w fun t11 w =>
 xLoad Try.prog 26 t11 w fun t12 w =>
 xBuiltin Try.prog .len #[26] 3 [false] [t12] w fun t13 w =>
 xBin Try.prog .quo 3 false t13 false t2 w fun t15 w =>
 xConv Try.prog 3 29 t15 w fun t16 w =>
 xBin Try.prog .gtr 29 false t1 false t16 w fun t17 w =>
 xIf t17
 (xCall Try.prog (fnv 70) [t0, (.int .i64 3)] w fun t19 w =>
 K (.slice none 0 0) w)
 (xNilCheck t0 w fun t21 w =>
 xFieldAddr Try.prog 124 t21 0 w fun t22 w =>
 xLoad Try.prog 26 t22 w fun t23 w =>
 xConv Try.prog 29 3 t1 w fun t25 w =>
 xBin Try.prog .mul 3 false t25 false t2 w fun t27 w =>
 xSlice Try.prog 26 t23 none (some t27) none w fun t28 w =>
 xCall Try.prog (fnv 69) [t28] w fun t29 w =>
 xCall Try.prog (fnv 68) [t29] w fun t30 w =>
 xNilCheck t0 w fun t33 w =>
 xFieldAddr Try.prog 124 t33 0 w fun t34 w =>
 xLoad Try.prog 26 t34 w fun t35 w =>
 xConv Try.prog 29 3 t1 w fun t37 w =>
 xBin Try.prog .mul 3 false t37 false t2 w fun t39 w =>
 xSlice Try.prog 26 t35 (some t39) none none w fun t40 w =>
 xNilCheck t0 w fun t41 w =>
 xFieldAddr Try.prog 124 t41 0 w fun t42 w =>
 xStore Try.prog 26 t42 t40 w fun _ w =>
 K t30 w)
abbrev n_codec_Dec_take : Nat := 71
def codec_Dec_take_ann : Ann := { loop := fun i => [], wr := fun i => [], told := fun i => [] }
theorem codec_Dec_take_eq (t0 t1 t2 : Value) (w : World) (K : K1) : reads Try.prog codec_Dec_take_ann Try.f71 #[t0, t1, t2] w K = codec_Dec_take K t0 t1 t2 w := by kernel_rfl
theorem codec_Dec_take_of {t0 t1 t2 : Value} {w : World} {K : K1} (h : codec_Dec_take K t0 t1 t2 w) : Yld Try.prog n_codec_Dec_take #[t0, t1, t2] w K :=
  yld_of mixed codec_Dec_take_ann Try.func71 (by kernel_rfl) (codec_Dec_take_eq t0 t1 t2 w K) h

/-! loam/bits.Get: function 72 -/
def bits_Get_l1 (K : K1) (nxt0 : List Value → World → Prop) (t0 t1 t8 t9 : Value) (w : World) : Prop :=
 xBin Try.prog .geq 3 false t9 true (.int .i64 0) w fun t19_1 w =>
 xIf t19_1
 (xBin Try.prog .shl 29 false t8 true (c64 8) w fun t23_1 w =>
 xBin Try.prog .add 3 false t1 false t9 w fun t27_1 w =>
 xIndexAddr Try.prog 26 t0 t27_1 w fun t28_1 w =>
 xLoad Try.prog 5 t28_1 w fun t29_1 w =>
 xConv Try.prog 5 29 t29_1 w fun t30_1 w =>
 xBin Try.prog .or 29 false t23_1 false t30_1 w fun t31_1 w =>
 xBin Try.prog .sub 3 false t9 true (.int .i64 1) w fun t21_1 w =>
 nxt0 [t31_1, t21_1] w)
 (K (.tuple #[t8, (.int .i64 0)]) w)
def bits_Get (K : K1) (t0 t1 t2 : Value) (w : World) : Prop :=
 xBuiltin Try.prog .len #[26] 3 [false] [t0] w fun t13 w =>
 xCall Try.prog (fnv 96) [t1, t2, t13] w fun t14 w =>
 xUn Try.prog .not t14 w fun t15 w =>
 xIf t15
 (K (.tuple #[(c64 0), (.int .i64 1)]) w)
 (xBin Try.prog .sub 3 false t2 true (.int .i64 1) w fun t17 w =>
 xLoop [(c64 0), t17] w [8, 9] fun u w nxt0 =>
 bits_Get_l1 K nxt0 t0 t1 (u 8) (u 9) w)
abbrev n_bits_Get : Nat := 72
def bits_Get_ann : Ann := { loop := fun i => bif Nat.beq i 0 then [8, 9] else [], wr := fun i => bif Nat.beq i 0 then [8, 9, 18, 19, 20, 21, 22, 23, 24, 25, 26, 27, 28, 29, 30, 31] else [], told := fun i => [] }
theorem bits_Get_eq (t0 t1 t2 : Value) (w : World) (K : K1) : reads Try.prog bits_Get_ann Try.f72 #[t0, t1, t2] w K = bits_Get K t0 t1 t2 w := by kernel_rfl
theorem bits_Get_of {t0 t1 t2 : Value} {w : World} {K : K1} (h : bits_Get K t0 t1 t2 w) : Yld Try.prog n_bits_Get #[t0, t1, t2] w K :=
  yld_of mixed bits_Get_ann Try.func72 (by kernel_rfl) (bits_Get_eq t0 t1 t2 w K) h

/-! slices.Clip[[]uint64,uint64]: function 73 -/
def slices_Clip_uint64_uint64 (K : K1) (t0 : Value) (w : World) : Prop :=
 xBuiltin Try.prog .len #[30] 3 [false] [t0] w fun t5 w =>
 xBuiltin Try.prog .len #[30] 3 [false] [t0] w fun t7 w =>
 xSlice Try.prog 30 t0 none (some t5) (some t7) w fun t8 w =>
 K t8 w
abbrev n_slices_Clip_uint64_uint64 : Nat := 73
def slices_Clip_uint64_uint64_ann : Ann := { loop := fun i => [], wr := fun i => [], told := fun i => [] }
theorem slices_Clip_uint64_uint64_eq (t0 : Value) (w : World) (K : K1) : reads Try.prog slices_Clip_uint64_uint64_ann Try.f73 #[t0] w K = slices_Clip_uint64_uint64 K t0 w := by kernel_rfl
theorem slices_Clip_uint64_uint64_of {t0 : Value} {w : World} {K : K1} (h : slices_Clip_uint64_uint64 K t0 w) : Yld Try.prog n_slices_Clip_uint64_uint64 #[t0] w K :=
  yld_of mixed slices_Clip_uint64_uint64_ann Try.func73 (by kernel_rfl) (slices_Clip_uint64_uint64_eq t0 w K) h

/-! loam/geom.Check: function 74 -/
def geom_Check_j1 (K : K1) (t1 t14 : Value) (w : World) : Prop :=
 xIf t14
 (K (.int .i64 1) w)
 (xLoad Try.prog 56 t1 w fun t28_1 w =>
 xCall Try.prog (fnv 97) [t28_1] w fun t29_1 w =>
 xBin Try.prog .gtr 3 false t29_1 true (.int .i64 16384) w fun t30_1 w =>
 xIf t30_1
 (K (.int .i64 1) w)
 (K (.int .i64 0) w))
def geom_Check_j3 (K : K1) (t1 t14 : Value) (w : World) : Prop :=
 xIf t14
 (K (.int .i64 1) w)
 (xLoad Try.prog 56 t1 w fun t28_1 w =>
 xCall Try.prog (fnv 97) [t28_1] w fun t29_1 w =>
 xBin Try.prog .gtr 3 false t29_1 true (.int .i64 16384) w fun t30_1 w =>
 xIf t30_1
 (K (.int .i64 1) w)
 (K (.int .i64 0) w))
def geom_Check_j2 (K : K1) (t1 t3 : Value) (w : World) : Prop :=
 xIf t3
 (K (.int .i64 1) w)
 (xFieldAddr Try.prog 56 t1 1 w fun t15_1 w =>
 xLoad Try.prog 3 t15_1 w fun t16_1 w =>
 xBin Try.prog .lss 3 false t16_1 true (.int .i64 8) w fun t17_1 w =>
 xIf t17_1
 (geom_Check_j3 K t1 t17_1 w)
 (xFieldAddr Try.prog 56 t1 1 w fun t18_1 w =>
 xLoad Try.prog 3 t18_1 w fun t19_1 w =>
 xBin Try.prog .gtr 3 false t19_1 true (.int .i64 1024) w fun t20_1 w =>
 xIf t20_1
 (geom_Check_j3 K t1 t20_1 w)
 (xFieldAddr Try.prog 56 t1 2 w fun t21_1 w =>
 xLoad Try.prog 3 t21_1 w fun t22_1 w =>
 xBin Try.prog .lss 3 false t22_1 true (.int .i64 64) w fun t23_1 w =>
 xIf t23_1
 (geom_Check_j3 K t1 t23_1 w)
 (xFieldAddr Try.prog 56 t1 2 w fun t24_1 w =>
 xLoad Try.prog 3 t24_1 w fun t25_1 w =>
 xBin Try.prog .gtr 3 false t25_1 true (.int .i64 8192) w fun t26_1 w =>
 geom_Check_j3 K t1 t26_1 w))))
def geom_Check (K : K1) (t0 : Value) (w : World) : Prop :=
 xBox Try.prog 56 t0 w fun t1 w =>
 xFieldAddr Try.prog 56 t1 0 w fun t4 w =>
 xLoad Try.prog 3 t4 w fun t5 w =>
 xBin Try.prog .lss 3 false t5 true (.int .i64 64) w fun t6 w =>
 xIf t6
 (geom_Check_j2 K t1 t6 w)
 (xFieldAddr Try.prog 56 t1 0 w fun t7 w =>
 xLoad Try.prog 3 t7 w fun t8 w =>
 xBin Try.prog .gtr 3 false t8 true (.int .i64 1024) w fun t9 w =>
 xIf t9
 (geom_Check_j2 K t1 t9 w)
 (xFieldAddr Try.prog 56 t1 0 w fun t10 w =>
 xLoad Try.prog 3 t10 w fun t11 w =>
 xBin Try.prog .rem 3 false t11 true (.int .i64 8) w fun t12 w =>
 xBin Try.prog .neq 3 false t12 true (.int .i64 0) w fun t13 w =>
 geom_Check_j2 K t1 t13 w))
abbrev n_geom_Check : Nat := 74
def geom_Check_ann : Ann := { loop := fun i => [], wr := fun i => [], told := fun i => [] }
theorem geom_Check_eq (t0 : Value) (w : World) (K : K1) : reads Try.prog geom_Check_ann Try.f74 #[t0] w K = geom_Check K t0 w := by kernel_rfl
theorem geom_Check_of {t0 : Value} {w : World} {K : K1} (h : geom_Check K t0 w) : Yld Try.prog n_geom_Check #[t0] w K :=
  yld_of mixed geom_Check_ann Try.func74 (by kernel_rfl) (geom_Check_eq t0 w K) h

/-! (loam/sup.Block).fields: function 75 -/
def sup_Block_fields (K : K1) (t0 : Value) (w : World) : Prop :=
 xBox Try.prog 58 t0 w fun t1 w =>
 xBuild Try.prog 132 [(0, (.int .i64 4)), (1, (.int .i64 4)), (2, (c64 1))] w fun t3 w =>
 xFieldAddr Try.prog 58 t1 0 w fun t4 w =>
 xLoad Try.prog 29 t4 w fun t5 w =>
 xBuild Try.prog 132 [(0, (.int .i64 8)), (1, (.int .i64 8)), (2, t5)] w fun t6 w =>
 xFieldAddr Try.prog 58 t1 1 w fun t7 w =>
 xFieldAddr Try.prog 56 t7 0 w fun t8 w =>
 xLoad Try.prog 3 t8 w fun t9 w =>
 xConv Try.prog 3 29 t9 w fun t10 w =>
 xBuild Try.prog 132 [(0, (.int .i64 16)), (1, (.int .i64 4)), (2, t10)] w fun t11 w =>
 xFieldAddr Try.prog 58 t1 1 w fun t12 w =>
 xFieldAddr Try.prog 56 t12 1 w fun t13 w =>
 xLoad Try.prog 3 t13 w fun t14 w =>
 xConv Try.prog 3 29 t14 w fun t15 w =>
 xBuild Try.prog 132 [(0, (.int .i64 20)), (1, (.int .i64 4)), (2, t15)] w fun t16 w =>
 xFieldAddr Try.prog 58 t1 1 w fun t17 w =>
 xFieldAddr Try.prog 56 t17 2 w fun t18 w =>
 xLoad Try.prog 3 t18 w fun t19 w =>
 xConv Try.prog 3 29 t19 w fun t20 w =>
 xBuild Try.prog 132 [(0, (.int .i64 24)), (1, (.int .i64 4)), (2, t20)] w fun t21 w =>
 xFieldAddr Try.prog 58 t1 2 w fun t22 w =>
 xLoad Try.prog 3 t22 w fun t23 w =>
 xConv Try.prog 3 29 t23 w fun t24 w =>
 xBuild Try.prog 132 [(0, (.int .i64 28)), (1, (.int .i64 4)), (2, t24)] w fun t25 w =>
 xFieldAddr Try.prog 58 t1 3 w fun t26 w =>
 xLoad Try.prog 3 t26 w fun t27 w =>
 xConv Try.prog 3 29 t27 w fun t28 w =>
 xBuild Try.prog 132 [(0, (.int .i64 32)), (1, (.int .i64 4)), (2, t28)] w fun t29 w =>
 xFieldAddr Try.prog 58 t1 4 w fun t30 w =>
 xLoad Try.prog 29 t30 w fun t31 w =>
 xBuild Try.prog 132 [(0, (.int .i64 36)), (1, (.int .i64 8)), (2, t31)] w fun t32 w =>
 xBuildSlice Try.prog 129 8 [(0, t3), (1, t6), (2, t11), (3, t16), (4, t21), (5, t25), (6, t29), (7, t32)] w fun t33 w =>
 K t33 w
abbrev n_sup_Block_fields : Nat := 75
def sup_Block_fields_ann : Ann := { loop := fun i => [], wr := fun i => [], told := fun i => [] }
theorem sup_Block_fields_eq (t0 : Value) (w : World) (K : K1) : reads Try.prog sup_Block_fields_ann Try.f75 #[t0] w K = sup_Block_fields K t0 w := by kernel_rfl
theorem sup_Block_fields_of {t0 : Value} {w : World} {K : K1} (h : sup_Block_fields K t0 w) : Yld Try.prog n_sup_Block_fields #[t0] w K :=
  yld_of mixed sup_Block_fields_ann Try.func75 (by kernel_rfl) (sup_Block_fields_eq t0 w K) h

/-! loam/bits.Put: function 76 -/
def bits_Put_l1 (K : K1) (nxt0 : List Value → World → Prop) (t1 t3 t10 t24 t25 : Value) (w : World) : Prop :=
 xBin Try.prog .lss 3 false t25 false t24 w fun t26_1 w =>
 xIf t26_1
 (xBin Try.prog .add 3 false t1 false t25 w fun t31_1 w =>
 xBin Try.prog .mul 3 true (.int .i64 8) false t25 w fun t34_1 w =>
 xBin Try.prog .shr 29 false t3 false t34_1 w fun t35_1 w =>
 xConv Try.prog 29 5 t35_1 w fun t36_1 w =>
 xIndexAddr Try.prog 26 t10 t31_1 w fun t37_1 w =>
 xStore Try.prog 5 t37_1 t36_1 w fun _ w =>
 xBin Try.prog .add 3 false t25 true (.int .i64 1) w fun t38_1 w =>
 nxt0 [t38_1] w)
 (K (.tuple #[t10, (.int .i64 0)]) w)
def bits_Put (K : K1) (t0 t1 t2 t3 : Value) (w : World) : Prop :=
 xBuiltin Try.prog .len #[26] 3 [false] [t0] w fun t15 w =>
 xCall Try.prog (fnv 96) [t1, t2, t15] w fun t16 w =>
 xUn Try.prog .not t16 w fun t17 w =>
 xIf t17
 (K (.tuple #[(.slice none 0 0), (.int .i64 1)]) w)
 (xBuiltin Try.prog .len #[26] 3 [false] [t0] w fun t19 w =>
 xMakeSlice Try.prog 26 t19 t19 w fun t20 w =>
 xBuiltin Try.prog .copy #[26, 26] 3 [false, false] [t20, t0] w fun t23 w =>
 xLoop [(.int .i64 0)] w [25] fun u w nxt0 =>
 bits_Put_l1 K nxt0 t1 t3 t20 t2 (u 25) w)
abbrev n_bits_Put : Nat := 76
def bits_Put_ann : Ann := { loop := fun i => bif Nat.beq i 0 then [25] else [], wr := fun i => bif Nat.beq i 0 then [11, 25, 26, 27, 28, 29, 30, 31, 32, 33, 34, 35, 36, 37, 38] else [], told := fun i => [] }
theorem bits_Put_eq (t0 t1 t2 t3 : Value) (w : World) (K : K1) : reads Try.prog bits_Put_ann Try.f76 #[t0, t1, t2, t3] w K = bits_Put K t0 t1 t2 t3 w := by kernel_rfl
theorem bits_Put_of {t0 t1 t2 t3 : Value} {w : World} {K : K1} (h : bits_Put K t0 t1 t2 t3 w) : Yld Try.prog n_bits_Put #[t0, t1, t2, t3] w K :=
  yld_of mixed bits_Put_ann Try.func76 (by kernel_rfl) (bits_Put_eq t0 t1 t2 t3 w K) h

/-! loam/crc.Seal: function 77 -/
def crc_Seal (K : K1) (t0 : Value) (w : World) : Prop :=
 xBuiltin Try.prog .len #[26] 3 [false] [t0] w fun t5 w =>
 xBin Try.prog .add 3 false t5 true (.int .i64 4) w fun t6 w =>
 xMakeSlice Try.prog 26 t6 t6 w fun t7 w =>
 xBuiltin Try.prog .copy #[26, 26] 3 [false, false] [t7, t0] w fun t10 w =>
 xBuiltin Try.prog .len #[26] 3 [false] [t0] w fun t14 w =>
 xBuildSlice Try.prog 159 1 [(0, t0)] w fun t16 w =>
 xCall Try.prog (fnv 98) [t16] w fun t17 w =>
 xConv Try.prog 152 29 t17 w fun t18 w =>
 xCall Try.prog (fnv 76) [t7, t14, (.int .i64 4), t18] w fun t19 w =>
 xExtract Try.prog t19 0 w fun t20 w =>
 xExtract Try.prog t19 1 w fun t21 w =>
 K t20 w
abbrev n_crc_Seal : Nat := 77
def crc_Seal_ann : Ann := { loop := fun i => [], wr := fun i => [], told := fun i => [] }
theorem crc_Seal_eq (t0 : Value) (w : World) (K : K1) : reads Try.prog crc_Seal_ann Try.f77 #[t0] w K = crc_Seal K t0 w := by kernel_rfl
theorem crc_Seal_of {t0 : Value} {w : World} {K : K1} (h : crc_Seal K t0 w) : Yld Try.prog n_crc_Seal #[t0] w K :=
  yld_of mixed crc_Seal_ann Try.func77 (by kernel_rfl) (crc_Seal_eq t0 w K) h

/-! loam/loamref2.Seal: function 78 -/
def loamref2_Seal (K : K1) (t0 : Value) (w : World) : Prop :=
 xBuildSlice Try.prog 26 0 [] w fun t3 w =>
 xBuiltin Try.prog .append #[26, 26] 26 [false, false] [t3, t0] w fun t5 w =>
 xCall Try.prog (fnv 100) [t0] w fun t7 w =>
 xCall Try.prog (fnv 99) [t7] w fun t8 w =>
 xBuiltin Try.prog .append #[26, 26] 26 [false, false] [t5, t8] w fun t9 w =>
 K t9 w
abbrev n_loamref2_Seal : Nat := 78
def loamref2_Seal_ann : Ann := { loop := fun i => [], wr := fun i => [], told := fun i => [] }
theorem loamref2_Seal_eq (t0 : Value) (w : World) (K : K1) : reads Try.prog loamref2_Seal_ann Try.f78 #[t0] w K = loamref2_Seal K t0 w := by kernel_rfl
theorem loamref2_Seal_of {t0 : Value} {w : World} {K : K1} (h : loamref2_Seal K t0 w) : Yld Try.prog n_loamref2_Seal #[t0] w K :=
  yld_of mixed loamref2_Seal_ann Try.func78 (by kernel_rfl) (loamref2_Seal_eq t0 w K) h

/-! loam/sup.Decode$1: function 79 -/
def sup_Decode_1 (K : K1) (t0 t1 t2 : Value) (w : World) : Prop :=
 xLoad Try.prog 26 t2 w fun t9 w =>
 xCall Try.prog (fnv 72) [t9, t0, t1] w fun t12 w =>
 xExtract Try.prog t12 0 w fun t13 w =>
 xExtract Try.prog t12 1 w fun t14 w =>
 K t13 w
abbrev n_sup_Decode_1 : Nat := 79
def sup_Decode_1_ann : Ann := { loop := fun i => [], wr := fun i => [], told := fun i => [] }
theorem sup_Decode_1_eq (t0 t1 t2 : Value) (w : World) (K : K1) : reads Try.prog sup_Decode_1_ann Try.f79 #[t0, t1, t2] w K = sup_Decode_1 K t0 t1 t2 w := by kernel_rfl
theorem sup_Decode_1_of {t0 t1 t2 : Value} {w : World} {K : K1} (h : sup_Decode_1 K t0 t1 t2 w) : Yld Try.prog n_sup_Decode_1 #[t0, t1, t2] w K :=
  yld_of mixed sup_Decode_1_ann Try.func79 (by kernel_rfl) (sup_Decode_1_eq t0 t1 t2 w K) h

/-! bytes.Equal: function 80 -/
def bytes_Equal (K : K1) (t0 t1 : Value) (w : World) : Prop :=
 xConv Try.prog 26 9 t0 w fun t6 w =>
 xConv Try.prog 26 9 t1 w fun t8 w =>
 xBin Try.prog .eql 9 false t6 false t8 w fun t9 w =>
 K t9 w
abbrev n_bytes_Equal : Nat := 80
def bytes_Equal_ann : Ann := { loop := fun i => [], wr := fun i => [], told := fun i => [] }
theorem bytes_Equal_eq (t0 t1 : Value) (w : World) (K : K1) : reads Try.prog bytes_Equal_ann Try.f80 #[t0, t1] w K = bytes_Equal K t0 t1 w := by kernel_rfl
theorem bytes_Equal_of {t0 t1 : Value} {w : World} {K : K1} (h : bytes_Equal K t0 t1 w) : Yld Try.prog n_bytes_Equal #[t0, t1] w K :=
  yld_of mixed bytes_Equal_ann Try.func80 (by kernel_rfl) (bytes_Equal_eq t0 t1 w K) h

/-! loam/loamref6.number: function 81 -/
def loamref6_number (K : K1) (t0 t1 t2 : Value) (w : World) : Prop :=
 xCall Try.prog (fnv 101) [t0, t1, t2] w fun t13 w =>
 xExtract Try.prog t13 0 w fun t14 w =>
 xExtract Try.prog t13 1 w fun t15 w =>
 K t14 w
abbrev n_loamref6_number : Nat := 81
def loamref6_number_ann : Ann := { loop := fun i => [], wr := fun i => [], told := fun i => [] }
theorem loamref6_number_eq (t0 t1 t2 : Value) (w : World) (K : K1) : reads Try.prog loamref6_number_ann Try.f81 #[t0, t1, t2] w K = loamref6_number K t0 t1 t2 w := by kernel_rfl
theorem loamref6_number_of {t0 t1 t2 : Value} {w : World} {K : K1} (h : loamref6_number K t0 t1 t2 w) : Yld Try.prog n_loamref6_number #[t0, t1, t2] w K :=
  yld_of mixed loamref6_number_ann Try.func81 (by kernel_rfl) (loamref6_number_eq t0 t1 t2 w K) h

/-! loam/loamref4.Sectors: function 82 -/
def loamref4_Sectors (K : K1) (t0 : Value) (w : World) : Prop :=
 xBox Try.prog 64 t0 w fun t1 w =>
 xDraw w.drew fun le H =>
 xDet le (H) (fun w K => xFieldAddr Try.prog 64 t1 1 w K) fun t3 =>
 xDet le (H) (fun w K => xLoad Try.prog 3 t3 w K) fun t4 =>
 xDet le (H) (fun w K => xBin Try.prog .add 3 true (.int .i64 2) false t4 w K) fun t5 =>
 xDet le (H) (fun w K => xLoad Try.prog 64 t1 w K) fun t6 =>
 xDet le (H) (fun w K => xCall Try.prog (fnv 102) [t6] w K) fun t7 =>
 xDet le (H) (fun w K => xBin Try.prog .mul 3 true (.int .i64 2) false t7 w K) fun t8 =>
 xDet le (H) (fun w K => xBin Try.prog .add 3 false t5 false t8 w K) fun t9 =>
 xDet le (H) (fun w K => K t9 w) fun t2 =>
 xEnd (H) fun w =>
 K t2 w
abbrev n_loamref4_Sectors : Nat := 82
def loamref4_Sectors_ann : Ann := { loop := fun i => [], wr := fun i => [], told := fun i => bif Nat.beq i 1 then [(0, false, ⟨0, 10, some 3⟩), (1, false, ⟨1, 24, some 4⟩), (2, false, ⟨2, 48, some 5⟩), (3, false, ⟨0, 66, some 6⟩), (4, false, ⟨8, 192, some 7⟩), (5, false, ⟨16, 384, some 8⟩), (6, false, ⟨36, 800, some 9⟩), (7, false, ⟨127, 516, some 2⟩)] else [] }
theorem loamref4_Sectors_eq (t0 : Value) (w : World) (K : K1) : reads Try.prog loamref4_Sectors_ann Try.f82 #[t0] w K = loamref4_Sectors K t0 w := by kernel_rfl
theorem loamref4_Sectors_of {t0 : Value} {w : World} {K : K1} (h : loamref4_Sectors K t0 w) : Yld Try.prog n_loamref4_Sectors #[t0] w K :=
  yld_of mixed loamref4_Sectors_ann Try.func82 (by kernel_rfl) (loamref4_Sectors_eq t0 w K) h

/-! loam/space.may: function 83 -/
def space_may (K : K1) (t0 t1 t2 t3 : Value) (w : World) : Prop :=
 xBin Try.prog .neq 81 false t0 true (.pointer none) w fun t10 w =>
 xGuard t10 true (fun w K => K t1 w) w fun t12 w =>
 xGuard t10 true (fun w K => xBin Try.prog .geq 3 false t12 true (.int .i64 0) w K) w fun t13 w =>
 xPick t10 t13 (.bool false) w fun t14 w =>
 xGuard t14 true (fun w K => K t1 w) w fun t16 w =>
 xGuard t14 true (fun w K => K t2 w) w fun t17 w =>
 xGuard t14 true (fun w K => xBin Try.prog .leq 3 false t16 false t17 w K) w fun t18 w =>
 xPick t14 t18 (.bool false) w fun t19 w =>
 xGuard t19 true (fun w K => K t2 w) w fun t21 w =>
 xGuard t19 true (fun w K => K t3 w) w fun t22 w =>
 xGuard t19 true (fun w K => xBin Try.prog .leq 3 false t21 false t22 w K) w fun t23 w =>
 xPick t19 t23 (.bool false) w fun t24 w =>
 xGuard t24 true (fun w K => K t3 w) w fun t26 w =>
 xGuard t24 true (fun w K => K t0 w) w fun t27 w =>
 xGuard t24 true (fun w K => xCall Try.prog (fnv 103) [t27] w K) w fun t28 w =>
 xGuard t24 true (fun w K => xBin Try.prog .leq 3 false t26 false t28 w K) w fun t29 w =>
 xPick t24 t29 (.bool false) w fun t30 w =>
 K t30 w
abbrev n_space_may : Nat := 83
def space_may_ann : Ann := { loop := fun i => [], wr := fun i => [], told := fun i => [] }
theorem space_may_eq (t0 t1 t2 t3 : Value) (w : World) (K : K1) : reads Try.prog space_may_ann Try.f83 #[t0, t1, t2, t3] w K = space_may K t0 t1 t2 t3 w := by kernel_rfl
theorem space_may_of {t0 t1 t2 t3 : Value} {w : World} {K : K1} (h : space_may K t0 t1 t2 t3 w) : Yld Try.prog n_space_may #[t0, t1, t2, t3] w K :=
  yld_of mixed space_may_ann Try.func83 (by kernel_rfl) (space_may_eq t0 t1 t2 t3 w K) h

/-! loam/head.Pack: function 84 -/
def head_Pack (K : K1) (t0 : Value) (w : World) : Prop :=
 xBox Try.prog 80 t0 w fun t1 w =>
 xLoad Try.prog 80 t1 w fun t5 w =>
 xCall Try.prog (fnv 54) [t5] w fun t6 w =>
 xUn Try.prog .not t6 w fun t7 w =>
 xIf t7
 (K (.tuple #[(c64 0), (.int .i64 1)]) w)
 (xFieldAddr Try.prog 80 t1 2 w fun t8 w =>
 xLoad Try.prog 4 t8 w fun t9 w =>
 xIf t9
 (xBin Try.prog .or 29 false (c64 9223372036854775808) true (c64 1) w fun t11 w =>
 xFieldAddr Try.prog 80 t1 3 w fun t12 w =>
 xLoad Try.prog 3 t12 w fun t13 w =>
 xConv Try.prog 3 29 t13 w fun t14 w =>
 xCall Try.prog (fnv 104) [t11, (.int .i64 32), (.int .i64 16), t14] w fun t15 w =>
 K (.tuple #[t15, (.int .i64 0)]) w)
 (xDraw w.drew fun le H =>
 xDet le (H) (fun w K => K (c64 9223372036854775808) w) fun t16 =>
 xDet le (H) (fun w K => xFieldAddr Try.prog 80 t1 0 w K) fun t17 =>
 xDet le (H) (fun w K => xLoad Try.prog 3 t17 w K) fun t18 =>
 xDet le (H) (fun w K => xConv Try.prog 3 29 t18 w K) fun t19 =>
 xDet le (H) (fun w K => xFieldAddr Try.prog 80 t1 1 w K) fun t21 =>
 xDet le (H) (fun w K => xLoad Try.prog 3 t21 w K) fun t22 =>
 xDet le (H) (fun w K => xConv Try.prog 3 29 t22 w K) fun t23 =>
 xDet le (H) (fun w K => xCall Try.prog (fnv 104) [t16, (.int .i64 1), (.int .i64 8), t19] w K) fun t20 =>
 xDet le (H) (fun w K => xCall Try.prog (fnv 104) [t20, (.int .i64 16), (.int .i64 12), t23] w K) fun t24 =>
 xDet le (H) (fun w K => K t24 w) fun t2 =>
 xDet le (H) (fun w K => K (.int .i64 0) w) fun t3 =>
 xEnd (H) fun w =>
 K (.tuple #[t2, t3]) w))
abbrev n_head_Pack : Nat := 84
def head_Pack_ann : Ann := { loop := fun i => [], wr := fun i => [], told := fun i => bif Nat.beq i 6 then [(0, false, ⟨0, 65552, some 16⟩), (1, false, ⟨0, 131074, some 17⟩), (2, false, ⟨2, 393216, some 18⟩), (3, false, ⟨4, 786432, some 19⟩), (5, false, ⟨0, 2097154, some 21⟩), (6, false, ⟨32, 6291456, some 22⟩), (7, false, ⟨64, 12582912, some 23⟩), (4, false, ⟨9, 1638400, some 20⟩), (8, false, ⟨144, 26214400, some 24⟩), (9, false, ⟨511, 16777220, some 2⟩), (10, false, ⟨1023, 8, some 3⟩)] else [] }
theorem head_Pack_eq (t0 : Value) (w : World) (K : K1) : reads Try.prog head_Pack_ann Try.f84 #[t0] w K = head_Pack K t0 w := by kernel_rfl
theorem head_Pack_of {t0 : Value} {w : World} {K : K1} (h : head_Pack K t0 w) : Yld Try.prog n_head_Pack #[t0] w K :=
  yld_of mixed head_Pack_ann Try.func84 (by kernel_rfl) (head_Pack_eq t0 w K) h

/-! (*loam/mem.Mem).Set: function 85 -/
def mem_Mem_Set (K : K1) (t0 t1 t2 : Value) (w : World) : Prop :=
 xNilCheck t0 w fun t9 w =>
 xFieldAddr Try.prog 138 t9 0 w fun t10 w =>
 xLoad Try.prog 30 t10 w fun t11 w =>
 xBuiltin Try.prog .len #[30] 3 [false] [t11] w fun t12 w =>
 xCall Try.prog (fnv 88) [t1, (.int .i64 1), t12] w fun t13 w =>
 xUn Try.prog .not t13 w fun t14 w =>
 xIf t14
 (K (.int .i64 1) w)
 (xNilCheck t0 w fun t16 w =>
 xFieldAddr Try.prog 138 t16 0 w fun t17 w =>
 xLoad Try.prog 30 t17 w fun t18 w =>
 xIndexAddr Try.prog 30 t18 t1 w fun t21 w =>
 xStore Try.prog 29 t21 t2 w fun _ w =>
 K (.int .i64 0) w)
abbrev n_mem_Mem_Set : Nat := 85
def mem_Mem_Set_ann : Ann := { loop := fun i => [], wr := fun i => [], told := fun i => [] }
theorem mem_Mem_Set_eq (t0 t1 t2 : Value) (w : World) (K : K1) : reads Try.prog mem_Mem_Set_ann Try.f85 #[t0, t1, t2] w K = mem_Mem_Set K t0 t1 t2 w := by kernel_rfl
theorem mem_Mem_Set_of {t0 t1 t2 : Value} {w : World} {K : K1} (h : mem_Mem_Set K t0 t1 t2 w) : Yld Try.prog n_mem_Mem_Set #[t0, t1, t2] w K :=
  yld_of mixed mem_Mem_Set_ann Try.func85 (by kernel_rfl) (mem_Mem_Set_eq t0 t1 t2 w K) h

/-! slices.Clip[[]int,int]: function 86 -/
def slices_Clip_int_int (K : K1) (t0 : Value) (w : World) : Prop :=
 xBuiltin Try.prog .len #[89] 3 [false] [t0] w fun t5 w =>
 xBuiltin Try.prog .len #[89] 3 [false] [t0] w fun t7 w =>
 xSlice Try.prog 89 t0 none (some t5) (some t7) w fun t8 w =>
 K t8 w
abbrev n_slices_Clip_int_int : Nat := 86
def slices_Clip_int_int_ann : Ann := { loop := fun i => [], wr := fun i => [], told := fun i => [] }
theorem slices_Clip_int_int_eq (t0 : Value) (w : World) (K : K1) : reads Try.prog slices_Clip_int_int_ann Try.f86 #[t0] w K = slices_Clip_int_int K t0 w := by kernel_rfl
theorem slices_Clip_int_int_of {t0 : Value} {w : World} {K : K1} (h : slices_Clip_int_int K t0 w) : Yld Try.prog n_slices_Clip_int_int #[t0] w K :=
  yld_of mixed slices_Clip_int_int_ann Try.func86 (by kernel_rfl) (slices_Clip_int_int_eq t0 w K) h

/-! slices.Clone[[]uint64,uint64]: function 87 -/
def slices_Clone_uint64_uint64 (K : K1) (t0 : Value) (w : World) : Prop :=
 xBin Try.prog .eql 30 false t0 true (.slice none 0 0) w fun t4 w =>
 xIf t4
 (K (.slice none 0 0) w)
 (xBuildSlice Try.prog 30 0 [] w fun t5 w =>
 xBuiltin Try.prog .append #[30, 30] 30 [false, false] [t5, t0] w fun t7 w =>
 K t7 w)
abbrev n_slices_Clone_uint64_uint64 : Nat := 87
def slices_Clone_uint64_uint64_ann : Ann := { loop := fun i => [], wr := fun i => [], told := fun i => [] }
theorem slices_Clone_uint64_uint64_eq (t0 : Value) (w : World) (K : K1) : reads Try.prog slices_Clone_uint64_uint64_ann Try.f87 #[t0] w K = slices_Clone_uint64_uint64 K t0 w := by kernel_rfl
theorem slices_Clone_uint64_uint64_of {t0 : Value} {w : World} {K : K1} (h : slices_Clone_uint64_uint64 K t0 w) : Yld Try.prog n_slices_Clone_uint64_uint64 #[t0] w K :=
  yld_of mixed slices_Clone_uint64_uint64_ann Try.func87 (by kernel_rfl) (slices_Clone_uint64_uint64_eq t0 w K) h

/-! loam/mem.in: function 88 -/
def mem_in (K : K1) (t0 t1 t2 : Value) (w : World) : Prop :=
 xBin Try.prog .geq 3 false t0 true (.int .i64 0) w fun t8 w =>
 xGuard t8 true (fun w K => K t1 w) w fun t10 w =>
 xGuard t8 true (fun w K => xBin Try.prog .geq 3 false t10 true (.int .i64 0) w K) w fun t11 w =>
 xPick t8 t11 (.bool false) w fun t12 w =>
 xGuard t12 true (fun w K => K t1 w) w fun t14 w =>
 xGuard t12 true (fun w K => K t2 w) w fun t15 w =>
 xGuard t12 true (fun w K => xBin Try.prog .leq 3 false t14 false t15 w K) w fun t16 w =>
 xPick t12 t16 (.bool false) w fun t17 w =>
 xGuard t17 true (fun w K => K t0 w) w fun t19 w =>
 xGuard t17 true (fun w K => K t2 w) w fun t20 w =>
 xGuard t17 true (fun w K => K t1 w) w fun t21 w =>
 xGuard t17 true (fun w K => xBin Try.prog .sub 3 false t20 false t21 w K) w fun t22 w =>
 xGuard t17 true (fun w K => xBin Try.prog .leq 3 false t19 false t22 w K) w fun t23 w =>
 xPick t17 t23 (.bool false) w fun t24 w =>
 K t24 w
abbrev n_mem_in : Nat := 88
def mem_in_ann : Ann := { loop := fun i => [], wr := fun i => [], told := fun i => [] }
theorem mem_in_eq (t0 t1 t2 : Value) (w : World) (K : K1) : reads Try.prog mem_in_ann Try.f88 #[t0, t1, t2] w K = mem_in K t0 t1 t2 w := by kernel_rfl
theorem mem_in_of {t0 t1 t2 : Value} {w : World} {K : K1} (h : mem_in K t0 t1 t2 w) : Yld Try.prog n_mem_in #[t0, t1, t2] w K :=
  yld_of mixed mem_in_ann Try.func88 (by kernel_rfl) (mem_in_eq t0 t1 t2 w K) h

/-! loam/loamref14.Right: function 89 -/
def loamref14_Right (K : K1) (t0 : Value) (w : World) : Prop :=
 xBox Try.prog 108 t0 w fun t1 w =>
 xFieldAddr Try.prog 108 t1 2 w fun t3 w =>
 xLoad Try.prog 4 t3 w fun t4 w =>
 xIf t4
 (xFieldAddr Try.prog 108 t1 0 w fun t5 w =>
 xLoad Try.prog 3 t5 w fun t6 w =>
 xBin Try.prog .eql 3 false t6 true (.int .i64 0) w fun t7 w =>
 xGuard t7 true (fun w K => xFieldAddr Try.prog 108 t1 1 w K) w fun t9 w =>
 xGuard t7 true (fun w K => xLoad Try.prog 3 t9 w K) w fun t10 w =>
 xGuard t7 true (fun w K => xBin Try.prog .eql 3 false t10 true (.int .i64 0) w K) w fun t11 w =>
 xPick t7 t11 (.bool false) w fun t12 w =>
 xGuard t12 true (fun w K => xFieldAddr Try.prog 108 t1 3 w K) w fun t14 w =>
 xGuard t12 true (fun w K => xLoad Try.prog 3 t14 w K) w fun t15 w =>
 xGuard t12 true (fun w K => xBin Try.prog .geq 3 false t15 true (.int .i64 0) w K) w fun t16 w =>
 xPick t12 t16 (.bool false) w fun t17 w =>
 xGuard t17 true (fun w K => xFieldAddr Try.prog 108 t1 3 w K) w fun t19 w =>
 xGuard t17 true (fun w K => xLoad Try.prog 3 t19 w K) w fun t20 w =>
 xGuard t17 true (fun w K => xBin Try.prog .lss 3 false t20 true (.int .i64 8192) w K) w fun t21 w =>
 xPick t17 t21 (.bool false) w fun t22 w =>
 K t22 w)
 (xFieldAddr Try.prog 108 t1 0 w fun t23 w =>
 xLoad Try.prog 3 t23 w fun t24 w =>
 xBin Try.prog .geq 3 false t24 true (.int .i64 0) w fun t25 w =>
 xGuard t25 true (fun w K => xFieldAddr Try.prog 108 t1 0 w K) w fun t27 w =>
 xGuard t25 true (fun w K => xLoad Try.prog 3 t27 w K) w fun t28 w =>
 xGuard t25 true (fun w K => xBin Try.prog .leq 3 false t28 true (.int .i64 64) w K) w fun t29 w =>
 xPick t25 t29 (.bool false) w fun t30 w =>
 xGuard t30 true (fun w K => xFieldAddr Try.prog 108 t1 1 w K) w fun t32 w =>
 xGuard t30 true (fun w K => xLoad Try.prog 3 t32 w K) w fun t33 w =>
 xGuard t30 true (fun w K => xBin Try.prog .geq 3 false t33 true (.int .i64 0) w K) w fun t34 w =>
 xPick t30 t34 (.bool false) w fun t35 w =>
 xGuard t35 true (fun w K => xFieldAddr Try.prog 108 t1 1 w K) w fun t37 w =>
 xGuard t35 true (fun w K => xLoad Try.prog 3 t37 w K) w fun t38 w =>
 xGuard t35 true (fun w K => xBin Try.prog .leq 3 false t38 true (.int .i64 1024) w K) w fun t39 w =>
 xPick t35 t39 (.bool false) w fun t40 w =>
 xGuard t40 true (fun w K => xFieldAddr Try.prog 108 t1 3 w K) w fun t42 w =>
 xGuard t40 true (fun w K => xLoad Try.prog 3 t42 w K) w fun t43 w =>
 xGuard t40 true (fun w K => xBin Try.prog .eql 3 false t43 true (.int .i64 0) w K) w fun t44 w =>
 xPick t40 t44 (.bool false) w fun t45 w =>
 K t45 w)
abbrev n_loamref14_Right : Nat := 89
def loamref14_Right_ann : Ann := { loop := fun i => [], wr := fun i => [], told := fun i => [] }
theorem loamref14_Right_eq (t0 : Value) (w : World) (K : K1) : reads Try.prog loamref14_Right_ann Try.f89 #[t0] w K = loamref14_Right K t0 w := by kernel_rfl
theorem loamref14_Right_of {t0 : Value} {w : World} {K : K1} (h : loamref14_Right K t0 w) : Yld Try.prog n_loamref14_Right #[t0] w K :=
  yld_of mixed loamref14_Right_ann Try.func89 (by kernel_rfl) (loamref14_Right_eq t0 w K) h

/-! loam/loamref14.Size: function 90 -/
def loamref14_Size (K : K1) (t0 : Value) (w : World) : Prop :=
 xBox Try.prog 108 t0 w fun t1 w =>
 xLoad Try.prog 108 t1 w fun t3 w =>
 xCall Try.prog (fnv 89) [t3] w fun t4 w =>
 xUn Try.prog .not t4 w fun t5 w =>
 xGuard t5 false (fun w K => xFieldAddr Try.prog 108 t1 2 w K) w fun t7 w =>
 xGuard t5 false (fun w K => xLoad Try.prog 4 t7 w K) w fun t8 w =>
 xPick t5 (.bool true) t8 w fun t9 w =>
 xIf t9
 (K (.int .i64 0) w)
 (xFieldAddr Try.prog 108 t1 0 w fun t10 w =>
 xLoad Try.prog 3 t10 w fun t11 w =>
 xBin Try.prog .add 3 true (.int .i64 1) false t11 w fun t12 w =>
 xFieldAddr Try.prog 108 t1 1 w fun t13 w =>
 xLoad Try.prog 3 t13 w fun t14 w =>
 xBin Try.prog .add 3 false t14 true (.int .i64 7) w fun t15 w =>
 xBin Try.prog .quo 3 false t15 true (.int .i64 8) w fun t16 w =>
 xBin Try.prog .add 3 false t12 false t16 w fun t17 w =>
 K t17 w)
abbrev n_loamref14_Size : Nat := 90
def loamref14_Size_ann : Ann := { loop := fun i => [], wr := fun i => [], told := fun i => [] }
theorem loamref14_Size_eq (t0 : Value) (w : World) (K : K1) : reads Try.prog loamref14_Size_ann Try.f90 #[t0] w K = loamref14_Size K t0 w := by kernel_rfl
theorem loamref14_Size_of {t0 : Value} {w : World} {K : K1} (h : loamref14_Size K t0 w) : Yld Try.prog n_loamref14_Size #[t0] w K :=
  yld_of mixed loamref14_Size_ann Try.func90 (by kernel_rfl) (loamref14_Size_eq t0 w K) h

/-! loam/loamref14.Pack: function 91 -/
def loamref14_Pack (K : K1) (t0 : Value) (w : World) : Prop :=
 xBox Try.prog 108 t0 w fun t1 w =>
 xLoad Try.prog 108 t1 w fun t5 w =>
 xCall Try.prog (fnv 89) [t5] w fun t6 w =>
 xUn Try.prog .not t6 w fun t7 w =>
 xIf t7
 (K (.tuple #[(c64 0), (.int .i64 1)]) w)
 (xFieldAddr Try.prog 108 t1 2 w fun t8 w =>
 xLoad Try.prog 4 t8 w fun t9 w =>
 xIf t9
 (xBin Try.prog .add 29 false (c64 9223372036854775808) true (c64 1) w fun t11 w =>
 xFieldAddr Try.prog 108 t1 3 w fun t12 w =>
 xLoad Try.prog 3 t12 w fun t13 w =>
 xConv Try.prog 3 29 t13 w fun t14 w =>
 xBin Try.prog .shl 29 false t14 true (c64 32) w fun t15 w =>
 xBin Try.prog .add 29 false t11 false t15 w fun t16 w =>
 K (.tuple #[t16, (.int .i64 0)]) w)
 (xFieldAddr Try.prog 108 t1 0 w fun t18 w =>
 xLoad Try.prog 3 t18 w fun t19 w =>
 xConv Try.prog 3 29 t19 w fun t20 w =>
 xBin Try.prog .shl 29 false t20 true (c64 1) w fun t21 w =>
 xBin Try.prog .add 29 false (c64 9223372036854775808) false t21 w fun t22 w =>
 xFieldAddr Try.prog 108 t1 1 w fun t23 w =>
 xLoad Try.prog 3 t23 w fun t24 w =>
 xConv Try.prog 3 29 t24 w fun t25 w =>
 xBin Try.prog .shl 29 false t25 true (c64 16) w fun t26 w =>
 xBin Try.prog .add 29 false t22 false t26 w fun t27 w =>
 K (.tuple #[t27, (.int .i64 0)]) w))
abbrev n_loamref14_Pack : Nat := 91
def loamref14_Pack_ann : Ann := { loop := fun i => [], wr := fun i => [], told := fun i => [] }
theorem loamref14_Pack_eq (t0 : Value) (w : World) (K : K1) : reads Try.prog loamref14_Pack_ann Try.f91 #[t0] w K = loamref14_Pack K t0 w := by kernel_rfl
theorem loamref14_Pack_of {t0 : Value} {w : World} {K : K1} (h : loamref14_Pack K t0 w) : Yld Try.prog n_loamref14_Pack #[t0] w K :=
  yld_of mixed loamref14_Pack_ann Try.func91 (by kernel_rfl) (loamref14_Pack_eq t0 w K) h

/-! (*loam/mem.Mem).Words: function 92 -/
def mem_Mem_Words (K : K1) (t0 : Value) (w : World) : Prop :=
 xNilCheck t0 w fun t4 w =>
 xFieldAddr Try.prog 138 t4 0 w fun t5 w =>
 xLoad Try.prog 30 t5 w fun t6 w =>
 xCall Try.prog (fnv 87) [t6] w fun t7 w =>
 xCall Try.prog (fnv 73) [t7] w fun t8 w =>
 K t8 w
abbrev n_mem_Mem_Words : Nat := 92
def mem_Mem_Words_ann : Ann := { loop := fun i => [], wr := fun i => [], told := fun i => [] }
theorem mem_Mem_Words_eq (t0 : Value) (w : World) (K : K1) : reads Try.prog mem_Mem_Words_ann Try.f92 #[t0] w K = mem_Mem_Words K t0 w := by kernel_rfl
theorem mem_Mem_Words_of {t0 : Value} {w : World} {K : K1} (h : mem_Mem_Words K t0 w) : Yld Try.prog n_mem_Mem_Words #[t0] w K :=
  yld_of mixed mem_Mem_Words_ann Try.func92 (by kernel_rfl) (mem_Mem_Words_eq t0 w K) h

/-! loam/loamref14.Unpack: function 93 -/
def loamref14_Unpack_j1 (K : K1) (t0 t2 t4 : Value) (w : World) : Prop :=
 xLoad Try.prog 108 t4 w fun t22_1 w =>
 xCall Try.prog (fnv 91) [t22_1] w fun t23_1 w =>
 xExtract Try.prog t23_1 0 w fun t24_1 w =>
 xExtract Try.prog t23_1 1 w fun t25_1 w =>
 xBin Try.prog .neq 3 false t25_1 true (.int .i64 0) w fun t27_1 w =>
 xGuard t27_1 false (fun w K => K t24_1 w) w fun t29_1 w =>
 xGuard t27_1 false (fun w K => K t0 w) w fun t30_1 w =>
 xGuard t27_1 false (fun w K => xBin Try.prog .neq 29 false t29_1 false t30_1 w K) w fun t31_1 w =>
 xPick t27_1 (.bool true) t31_1 w fun t32_1 w =>
 xIf t32_1
 (xBuild Try.prog 108 [] w fun t33_1 w =>
 xStore Try.prog 108 t2 t33_1 w fun _ w =>
 xLoadR Try.prog 108 t2 w fun r0 =>
 K (.tuple #[r0, (.int .i64 2)]) w)
 (xLoad Try.prog 108 t4 w fun t34_1 w =>
 xStore Try.prog 108 t2 t34_1 w fun _ w =>
 xLoadR Try.prog 108 t2 w fun r0 =>
 K (.tuple #[r0, (.int .i64 0)]) w)
def loamref14_Unpack (K : K1) (t0 : Value) (w : World) : Prop :=
 xAlloc Try.prog 108 w fun t2 w =>
 xCall Try.prog (fnv 105) [t0, (.int .i64 1), (.int .i64 8)] w fun t8 w =>
 xConv Try.prog 29 3 t8 w fun t9 w =>
 xCall Try.prog (fnv 105) [t0, (.int .i64 16), (.int .i64 12)] w fun t11 w =>
 xConv Try.prog 29 3 t11 w fun t12 w =>
 xBuild Try.prog 108 [(0, t9), (1, t12)] w fun t13 w =>
 xAlloc Try.prog 108 w fun t4 w =>
 xStore Try.prog 108 t4 t13 w fun _ w =>
 xBin Try.prog .and 29 false t0 true (c64 1) w fun t15 w =>
 xBin Try.prog .eql 29 false t15 true (c64 1) w fun t16 w =>
 xIf t16
 (xCall Try.prog (fnv 105) [t0, (.int .i64 32), (.int .i64 16)] w fun t18 w =>
 xConv Try.prog 29 3 t18 w fun t19 w =>
 xBuild Try.prog 108 [(2, (.bool true)), (3, t19)] w fun t20 w =>
 xStore Try.prog 108 t4 t20 w fun _ w =>
 loamref14_Unpack_j1 K t0 t2 t4 w)
 (loamref14_Unpack_j1 K t0 t2 t4 w)
abbrev n_loamref14_Unpack : Nat := 93
def loamref14_Unpack_ann : Ann := { loop := fun i => [], wr := fun i => [], told := fun i => [] }
theorem loamref14_Unpack_eq (t0 : Value) (w : World) (K : K1) : reads Try.prog loamref14_Unpack_ann Try.f93 #[t0] w K = loamref14_Unpack K t0 w := by kernel_rfl
theorem loamref14_Unpack_of {t0 : Value} {w : World} {K : K1} (h : loamref14_Unpack K t0 w) : Yld Try.prog n_loamref14_Unpack #[t0] w K :=
  yld_of mixed loamref14_Unpack_ann Try.func93 (by kernel_rfl) (loamref14_Unpack_eq t0 w K) h

/-! loam/head.Unpack: function 94 -/
def head_Unpack_j1 (K : K1) (t0 t2 t4 : Value) (w : World) : Prop :=
 xLoad Try.prog 80 t4 w fun t22_1 w =>
 xCall Try.prog (fnv 84) [t22_1] w fun t23_1 w =>
 xExtract Try.prog t23_1 0 w fun t24_1 w =>
 xExtract Try.prog t23_1 1 w fun t25_1 w =>
 xBin Try.prog .neq 49 false t25_1 true (.int .i64 0) w fun t27_1 w =>
 xGuard t27_1 false (fun w K => K t24_1 w) w fun t29_1 w =>
 xGuard t27_1 false (fun w K => K t0 w) w fun t30_1 w =>
 xGuard t27_1 false (fun w K => xBin Try.prog .neq 29 false t29_1 false t30_1 w K) w fun t31_1 w =>
 xPick t27_1 (.bool true) t31_1 w fun t32_1 w =>
 xIf t32_1
 (xBuild Try.prog 80 [] w fun t33_1 w =>
 xStore Try.prog 80 t2 t33_1 w fun _ w =>
 xLoadR Try.prog 80 t2 w fun r0 =>
 K (.tuple #[r0, (.int .i64 2)]) w)
 (xLoad Try.prog 80 t4 w fun t34_1 w =>
 xStore Try.prog 80 t2 t34_1 w fun _ w =>
 xLoadR Try.prog 80 t2 w fun r0 =>
 K (.tuple #[r0, (.int .i64 0)]) w)
def head_Unpack (K : K1) (t0 : Value) (w : World) : Prop :=
 xAlloc Try.prog 80 w fun t2 w =>
 xCall Try.prog (fnv 106) [t0, (.int .i64 1), (.int .i64 8)] w fun t8 w =>
 xConv Try.prog 29 3 t8 w fun t9 w =>
 xCall Try.prog (fnv 106) [t0, (.int .i64 16), (.int .i64 12)] w fun t11 w =>
 xConv Try.prog 29 3 t11 w fun t12 w =>
 xBuild Try.prog 80 [(0, t9), (1, t12)] w fun t13 w =>
 xAlloc Try.prog 80 w fun t4 w =>
 xStore Try.prog 80 t4 t13 w fun _ w =>
 xBin Try.prog .and 29 false t0 true (c64 1) w fun t15 w =>
 xBin Try.prog .eql 29 false t15 true (c64 1) w fun t16 w =>
 xIf t16
 (xCall Try.prog (fnv 106) [t0, (.int .i64 32), (.int .i64 16)] w fun t18 w =>
 xConv Try.prog 29 3 t18 w fun t19 w =>
 xBuild Try.prog 80 [(2, (.bool true)), (3, t19)] w fun t20 w =>
 xStore Try.prog 80 t4 t20 w fun _ w =>
 head_Unpack_j1 K t0 t2 t4 w)
 (head_Unpack_j1 K t0 t2 t4 w)
abbrev n_head_Unpack : Nat := 94
def head_Unpack_ann : Ann := { loop := fun i => [], wr := fun i => [], told := fun i => [] }
theorem head_Unpack_eq (t0 : Value) (w : World) (K : K1) : reads Try.prog head_Unpack_ann Try.f94 #[t0] w K = head_Unpack K t0 w := by kernel_rfl
theorem head_Unpack_of {t0 : Value} {w : World} {K : K1} (h : head_Unpack K t0 w) : Yld Try.prog n_head_Unpack #[t0] w K :=
  yld_of mixed head_Unpack_ann Try.func94 (by kernel_rfl) (head_Unpack_eq t0 w K) h

/-! (*loam/mem.Mem).Twin: function 95 -/
def mem_Mem_Twin (K : K1) (t0 : Value) (w : World) : Prop :=
 xNilCheck t0 w fun t4 w =>
 xFieldAddr Try.prog 138 t4 0 w fun t5 w =>
 xLoad Try.prog 30 t5 w fun t6 w =>
 xCall Try.prog (fnv 87) [t6] w fun t7 w =>
 xBuild Try.prog 138 [(0, t7)] w fun t8 w =>
 xBox Try.prog 138 t8 w fun t9 w =>
 K t9 w
abbrev n_mem_Mem_Twin : Nat := 95
def mem_Mem_Twin_ann : Ann := { loop := fun i => [], wr := fun i => [], told := fun i => [] }
theorem mem_Mem_Twin_eq (t0 : Value) (w : World) (K : K1) : reads Try.prog mem_Mem_Twin_ann Try.f95 #[t0] w K = mem_Mem_Twin K t0 w := by kernel_rfl
theorem mem_Mem_Twin_of {t0 : Value} {w : World} {K : K1} (h : mem_Mem_Twin K t0 w) : Yld Try.prog n_mem_Mem_Twin #[t0] w K :=
  yld_of mixed mem_Mem_Twin_ann Try.func95 (by kernel_rfl) (mem_Mem_Twin_eq t0 w K) h

/-! loam/bits.within: function 96 -/
def bits_within (K : K1) (t0 t1 t2 : Value) (w : World) : Prop :=
 xBin Try.prog .geq 3 false t1 true (.int .i64 1) w fun t8 w =>
 xGuard t8 true (fun w K => K t1 w) w fun t10 w =>
 xGuard t8 true (fun w K => xBin Try.prog .leq 3 false t10 true (.int .i64 8) w K) w fun t11 w =>
 xPick t8 t11 (.bool false) w fun t12 w =>
 xGuard t12 true (fun w K => K t0 w) w fun t14 w =>
 xGuard t12 true (fun w K => xBin Try.prog .geq 3 false t14 true (.int .i64 0) w K) w fun t15 w =>
 xPick t12 t15 (.bool false) w fun t16 w =>
 xGuard t16 true (fun w K => K t1 w) w fun t18 w =>
 xGuard t16 true (fun w K => K t2 w) w fun t19 w =>
 xGuard t16 true (fun w K => xBin Try.prog .leq 3 false t18 false t19 w K) w fun t20 w =>
 xPick t16 t20 (.bool false) w fun t21 w =>
 xGuard t21 true (fun w K => K t0 w) w fun t23 w =>
 xGuard t21 true (fun w K => K t2 w) w fun t24 w =>
 xGuard t21 true (fun w K => K t1 w) w fun t25 w =>
 xGuard t21 true (fun w K => xBin Try.prog .sub 3 false t24 false t25 w K) w fun t26 w =>
 xGuard t21 true (fun w K => xBin Try.prog .leq 3 false t23 false t26 w K) w fun t27 w =>
 xPick t21 t27 (.bool false) w fun t28 w =>
 K t28 w
abbrev n_bits_within : Nat := 96
def bits_within_ann : Ann := { loop := fun i => [], wr := fun i => [], told := fun i => [] }
theorem bits_within_eq (t0 t1 t2 : Value) (w : World) (K : K1) : reads Try.prog bits_within_ann Try.f96 #[t0, t1, t2] w K = bits_within K t0 t1 t2 w := by kernel_rfl
theorem bits_within_of {t0 t1 t2 : Value} {w : World} {K : K1} (h : bits_within K t0 t1 t2 w) : Yld Try.prog n_bits_within #[t0, t1, t2] w K :=
  yld_of mixed bits_within_ann Try.func96 (by kernel_rfl) (bits_within_eq t0 t1 t2 w K) h

/-! loam/geom.Sectors: function 97 -/
def geom_Sectors (K : K1) (t0 : Value) (w : World) : Prop :=
 xBox Try.prog 56 t0 w fun t1 w =>
 xDraw w.drew fun le H =>
 xDet le (H) (fun w K => xFieldAddr Try.prog 56 t1 1 w K) fun t3 =>
 xDet le (H) (fun w K => xLoad Try.prog 3 t3 w K) fun t4 =>
 xDet le (H) (fun w K => xBin Try.prog .add 3 true (.int .i64 2) false t4 w K) fun t5 =>
 xDet le (H) (fun w K => xLoad Try.prog 56 t1 w K) fun t6 =>
 xDet le (H) (fun w K => xCall Try.prog (fnv 107) [t6] w K) fun t7 =>
 xDet le (H) (fun w K => xBin Try.prog .mul 3 true (.int .i64 2) false t7 w K) fun t8 =>
 xDet le (H) (fun w K => xBin Try.prog .add 3 false t5 false t8 w K) fun t9 =>
 xDet le (H) (fun w K => K t9 w) fun t2 =>
 xEnd (H) fun w =>
 K t2 w
abbrev n_geom_Sectors : Nat := 97
def geom_Sectors_ann : Ann := { loop := fun i => [], wr := fun i => [], told := fun i => bif Nat.beq i 1 then [(0, false, ⟨0, 10, some 3⟩), (1, false, ⟨1, 24, some 4⟩), (2, false, ⟨2, 48, some 5⟩), (3, false, ⟨0, 66, some 6⟩), (4, false, ⟨8, 192, some 7⟩), (5, false, ⟨16, 384, some 8⟩), (6, false, ⟨36, 800, some 9⟩), (7, false, ⟨127, 516, some 2⟩)] else [] }
theorem geom_Sectors_eq (t0 : Value) (w : World) (K : K1) : reads Try.prog geom_Sectors_ann Try.f97 #[t0] w K = geom_Sectors K t0 w := by kernel_rfl
theorem geom_Sectors_of {t0 : Value} {w : World} {K : K1} (h : geom_Sectors K t0 w) : Yld Try.prog n_geom_Sectors #[t0] w K :=
  yld_of mixed geom_Sectors_ann Try.func97 (by kernel_rfl) (geom_Sectors_eq t0 w K) h

/-! loam/crc.Sum: function 98 -/
def crc_Sum_l1 (K : K1) (nxt0 : List Value → World → Prop) (t3 t6 t7 t8 : Value) (w : World) : Prop :=
 xBin Try.prog .lss 3 false t8 false t7 w fun t9_1 w =>
 xIf t9_1
 (xIndexAddr Try.prog 159 t6 t8 w fun t10_1 w =>
 xLoad Try.prog 26 t10_1 w fun t11_1 w =>
 xCall Try.prog (fnv 108) [t3, t11_1] w fun t14_1 w =>
 xBin Try.prog .add 3 false t8 true (.int .i64 1) w fun t15_1 w =>
 nxt0 [t14_1, t15_1] w)
 (K t3 w)
def crc_Sum (K : K1) (t0 : Value) (w : World) : Prop :=
 xBuiltin Try.prog .len #[159] 3 [false] [t0] w fun t7 w =>
 xLoop [(c32 0), (.int .i64 0)] w [3, 8] fun u w nxt0 =>
 crc_Sum_l1 K nxt0 (u 3) t0 t7 (u 8) w
abbrev n_crc_Sum : Nat := 98
def crc_Sum_ann : Ann := { loop := fun i => bif Nat.beq i 0 then [3, 8] else [], wr := fun i => bif Nat.beq i 0 then [3, 5, 8, 9, 10, 11, 12, 13, 14, 15] else [], told := fun i => [] }
theorem crc_Sum_eq (t0 : Value) (w : World) (K : K1) : reads Try.prog crc_Sum_ann Try.f98 #[t0] w K = crc_Sum K t0 w := by kernel_rfl
theorem crc_Sum_of {t0 : Value} {w : World} {K : K1} (h : crc_Sum K t0 w) : Yld Try.prog n_crc_Sum #[t0] w K :=
  yld_of mixed crc_Sum_ann Try.func98 (by kernel_rfl) (crc_Sum_eq t0 w K) h

/-! loam/loamref2.Low: function 99 -/
def loamref2_Low (K : K1) (t0 : Value) (w : World) : Prop :=
 xConv Try.prog 152 5 t0 w fun t4 w =>
 xBin Try.prog .shr 152 false t0 true (c64 8) w fun t6 w =>
 xConv Try.prog 152 5 t6 w fun t7 w =>
 xBin Try.prog .shr 152 false t0 true (c64 16) w fun t9 w =>
 xConv Try.prog 152 5 t9 w fun t10 w =>
 xBin Try.prog .shr 152 false t0 true (c64 24) w fun t12 w =>
 xConv Try.prog 152 5 t12 w fun t13 w =>
 xBuildSlice Try.prog 26 4 [(0, t4), (1, t7), (2, t10), (3, t13)] w fun t14 w =>
 K t14 w
abbrev n_loamref2_Low : Nat := 99
def loamref2_Low_ann : Ann := { loop := fun i => [], wr := fun i => [], told := fun i => [] }
theorem loamref2_Low_eq (t0 : Value) (w : World) (K : K1) : reads Try.prog loamref2_Low_ann Try.f99 #[t0] w K = loamref2_Low K t0 w := by kernel_rfl
theorem loamref2_Low_of {t0 : Value} {w : World} {K : K1} (h : loamref2_Low K t0 w) : Yld Try.prog n_loamref2_Low #[t0] w K :=
  yld_of mixed loamref2_Low_ann Try.func99 (by kernel_rfl) (loamref2_Low_eq t0 w K) h

/-! loam/loamref2.Sum: function 100 -/
def loamref2_Sum_j1 (K : K1) (nxt2 : List Value → World → Prop) (t3 t5 : Value) (w : World) : Prop :=
 xBin Try.prog .add 3 false t5 true (.int .i64 1) w fun t23_1 w =>
 nxt2 [t3, t23_1] w
def loamref2_Sum_l2 (K : K1) (nxt0 : List Value → World → Prop) (nxt2 : List Value → World → Prop) (t3 t4 t5 : Value) (w : World) : Prop :=
 xBin Try.prog .lss 3 false t5 true (.int .i64 8) w fun t21_1 w =>
 xIf t21_1
 (xBin Try.prog .and 152 false t3 true (c32 1) w fun t25_1 w =>
 xBin Try.prog .shr 152 false t3 true (c64 1) w fun t27_1 w =>
 xBin Try.prog .eql 152 false t25_1 true (c32 1) w fun t29_1 w =>
 xIf t29_1
 (xBin Try.prog .xor 152 false t27_1 true (c32 3988292384) w fun t31_1 w =>
 loamref2_Sum_j1 K nxt2 t31_1 t5 w)
 (loamref2_Sum_j1 K nxt2 t27_1 t5 w))
 (xBin Try.prog .add 3 false t4 true (.int .i64 1) w fun t12_1 w =>
 nxt0 [t3, t12_1] w)
def loamref2_Sum_l1 (K : K1) (nxt0 : List Value → World → Prop) (t0 t3 t4 : Value) (w : World) : Prop :=
 xBuiltin Try.prog .len #[26] 3 [false] [t0] w fun t9_1 w =>
 xBin Try.prog .lss 3 false t4 false t9_1 w fun t10_1 w =>
 xIf t10_1
 (xIndexAddr Try.prog 26 t0 t4 w fun t16_1 w =>
 xLoad Try.prog 5 t16_1 w fun t17_1 w =>
 xConv Try.prog 5 152 t17_1 w fun t18_1 w =>
 xBin Try.prog .xor 152 false t3 false t18_1 w fun t19_1 w =>
 xLoop [t19_1, (.int .i64 0)] w [3, 5] fun u w nxt2 =>
 loamref2_Sum_l2 K nxt0 nxt2 (u 3) t4 (u 5) w)
 (xUn Try.prog .xor t3 w fun t33 w =>
 K t33 w)
def loamref2_Sum (K : K1) (t0 : Value) (w : World) : Prop :=
 xLoop [(c32 4294967295), (.int .i64 0)] w [3, 4] fun u w nxt0 =>
 loamref2_Sum_l1 K nxt0 t0 (u 3) (u 4) w
abbrev n_loamref2_Sum : Nat := 100
def loamref2_Sum_ann : Ann := { loop := fun i => bif Nat.beq i 2 then [3, 5] else bif Nat.beq i 0 then [3, 4] else [], wr := fun i => bif Nat.beq i 2 then [3, 5, 6, 20, 21, 22, 23, 24, 25, 26, 27, 28, 29, 30, 31] else bif Nat.beq i 0 then [3, 4, 5, 6, 7, 8, 9, 10, 11, 12, 13, 14, 15, 16, 17, 18, 19, 20, 21, 22, 23, 24, 25, 26, 27, 28, 29, 30, 31] else [], told := fun i => [] }
theorem loamref2_Sum_eq (t0 : Value) (w : World) (K : K1) : reads Try.prog loamref2_Sum_ann Try.f100 #[t0] w K = loamref2_Sum K t0 w := by kernel_rfl
theorem loamref2_Sum_of {t0 : Value} {w : World} {K : K1} (h : loamref2_Sum K t0 w) : Yld Try.prog n_loamref2_Sum #[t0] w K :=
  yld_of mixed loamref2_Sum_ann Try.func100 (by kernel_rfl) (loamref2_Sum_eq t0 w K) h

/-! loam/loamref1.Get: function 101 -/
def loamref1_Get_l1 (K : K1) (nxt0 : List Value → World → Prop) (t0 t1 t8 t9 : Value) (w : World) : Prop :=
 xBin Try.prog .geq 3 false t9 true (.int .i64 0) w fun t27_1 w =>
 xIf t27_1
 (xBin Try.prog .shl 29 false t8 true (c64 8) w fun t31_1 w =>
 xBin Try.prog .add 3 false t1 false t9 w fun t35_1 w =>
 xIndexAddr Try.prog 26 t0 t35_1 w fun t36_1 w =>
 xLoad Try.prog 5 t36_1 w fun t37_1 w =>
 xConv Try.prog 5 29 t37_1 w fun t38_1 w =>
 xBin Try.prog .or 29 false t31_1 false t38_1 w fun t39_1 w =>
 xBin Try.prog .sub 3 false t9 true (.int .i64 1) w fun t29_1 w =>
 nxt0 [t39_1, t29_1] w)
 (K (.tuple #[t8, (.int .i64 0)]) w)
def loamref1_Get (K : K1) (t0 t1 t2 : Value) (w : World) : Prop :=
 xBin Try.prog .lss 3 false t2 true (.int .i64 1) w fun t11 w =>
 xGuard t11 false (fun w K => K t2 w) w fun t13 w =>
 xGuard t11 false (fun w K => xBin Try.prog .gtr 3 false t13 true (.int .i64 8) w K) w fun t14 w =>
 xPick t11 (.bool true) t14 w fun t15 w =>
 xGuard t15 false (fun w K => K t1 w) w fun t17 w =>
 xGuard t15 false (fun w K => K t2 w) w fun t18 w =>
 xGuard t15 false (fun w K => K t0 w) w fun t19 w =>
 xGuard t15 false (fun w K => xBuiltin Try.prog .len #[26] 3 [false] [t19] w K) w fun t20 w =>
 xGuard t15 false (fun w K => xCall Try.prog (fnv 109) [t17, t18, t20] w K) w fun t21 w =>
 xGuard t15 false (fun w K => xUn Try.prog .not t21 w K) w fun t22 w =>
 xPick t15 (.bool true) t22 w fun t23 w =>
 xIf t23
 (K (.tuple #[(c64 0), (.int .i64 1)]) w)
 (xBin Try.prog .sub 3 false t2 true (.int .i64 1) w fun t25 w =>
 xLoop [(c64 0), t25] w [8, 9] fun u w nxt0 =>
 loamref1_Get_l1 K nxt0 t0 t1 (u 8) (u 9) w)
abbrev n_loamref1_Get : Nat := 101
def loamref1_Get_ann : Ann := { loop := fun i => bif Nat.beq i 0 then [8, 9] else [], wr := fun i => bif Nat.beq i 0 then [8, 9, 26, 27, 28, 29, 30, 31, 32, 33, 34, 35, 36, 37, 38, 39] else [], told := fun i => [] }
theorem loamref1_Get_eq (t0 t1 t2 : Value) (w : World) (K : K1) : reads Try.prog loamref1_Get_ann Try.f101 #[t0, t1, t2] w K = loamref1_Get K t0 t1 t2 w := by kernel_rfl
theorem loamref1_Get_of {t0 t1 t2 : Value} {w : World} {K : K1} (h : loamref1_Get K t0 t1 t2 w) : Yld Try.prog n_loamref1_Get #[t0, t1, t2] w K :=
  yld_of mixed loamref1_Get_ann Try.func101 (by kernel_rfl) (loamref1_Get_eq t0 t1 t2 w K) h

/-! loam/loamref4.one: function 102 -/
def loamref4_one (K : K1) (t0 : Value) (w : World) : Prop :=
 xBox Try.prog 64 t0 w fun t1 w =>
 xFieldAddr Try.prog 64 t1 0 w fun t4 w =>
 xLoad Try.prog 3 t4 w fun t5 w =>
 xBin Try.prog .quo 3 false t5 true (.int .i64 8) w fun t6 w =>
 xDraw w.drew fun le H =>
 xDet le (H) (fun w K => xFieldAddr Try.prog 64 t1 2 w K) fun t7 =>
 xDet le (H) (fun w K => xLoad Try.prog 3 t7 w K) fun t8 =>
 xDet le (H) (fun w K => K t6 w) fun t9 =>
 xDet le (H) (fun w K => xBin Try.prog .add 3 false t8 false t9 w K) fun t10 =>
 xDet le (H) (fun w K => xBin Try.prog .sub 3 false t10 true (.int .i64 1) w K) fun t11 =>
 xDet le (H) (fun w K => K t6 w) fun t12 =>
 xDet le (H) (fun w K => xBin Try.prog .quo 3 false t11 false t12 w K) fun t13 =>
 xDet le (H) (fun w K => xFieldAddr Try.prog 64 t1 2 w K) fun t14 =>
 xDet le (H) (fun w K => xLoad Try.prog 3 t14 w K) fun t15 =>
 xDet le (H) (fun w K => xBin Try.prog .add 3 false t15 true (.int .i64 31) w K) fun t16 =>
 xDet le (H) (fun w K => xBin Try.prog .quo 3 false t16 true (.int .i64 32) w K) fun t17 =>
 xDet le (H) (fun w K => xBin Try.prog .add 3 false t13 false t17 w K) fun t18 =>
 xDet le (H) (fun w K => K t18 w) fun t2 =>
 xEnd (H) fun w =>
 K t2 w
abbrev n_loamref4_one : Nat := 102
def loamref4_one_ann : Ann := { loop := fun i => [], wr := fun i => [], told := fun i => bif Nat.beq i 2 then [(0, false, ⟨0, 130, some 7⟩), (1, false, ⟨1, 384, some 8⟩), (2, false, ⟨0, 520, some 9⟩), (3, false, ⟨6, 1792, some 10⟩), (4, false, ⟨8, 3072, some 11⟩), (5, false, ⟨0, 4104, some 12⟩), (6, false, ⟨48, 14336, some 13⟩), (7, false, ⟨0, 16386, some 14⟩), (8, false, ⟨128, 49152, some 15⟩), (9, false, ⟨256, 98304, some 16⟩), (10, false, ⟨512, 196608, some 17⟩), (11, false, ⟨1088, 401408, some 18⟩), (12, false, ⟨4095, 262148, some 2⟩)] else [] }
theorem loamref4_one_eq (t0 : Value) (w : World) (K : K1) : reads Try.prog loamref4_one_ann Try.f102 #[t0] w K = loamref4_one K t0 w := by kernel_rfl
theorem loamref4_one_of {t0 : Value} {w : World} {K : K1} (h : loamref4_one K t0 w) : Yld Try.prog n_loamref4_one #[t0] w K :=
  yld_of mixed loamref4_one_ann Try.func102 (by kernel_rfl) (loamref4_one_eq t0 w K) h

/-! (*loam/mem.Mem).Len: function 103 -/
def mem_Mem_Len (K : K1) (t0 : Value) (w : World) : Prop :=
 xNilCheck t0 w fun t4 w =>
 xFieldAddr Try.prog 138 t4 0 w fun t5 w =>
 xLoad Try.prog 30 t5 w fun t6 w =>
 xBuiltin Try.prog .len #[30] 3 [false] [t6] w fun t7 w =>
 K t7 w
abbrev n_mem_Mem_Len : Nat := 103
def mem_Mem_Len_ann : Ann := { loop := fun i => [], wr := fun i => [], told := fun i => [] }
theorem mem_Mem_Len_eq (t0 : Value) (w : World) (K : K1) : reads Try.prog mem_Mem_Len_ann Try.f103 #[t0] w K = mem_Mem_Len K t0 w := by kernel_rfl
theorem mem_Mem_Len_of {t0 : Value} {w : World} {K : K1} (h : mem_Mem_Len K t0 w) : Yld Try.prog n_mem_Mem_Len #[t0] w K :=
  yld_of mixed mem_Mem_Len_ann Try.func103 (by kernel_rfl) (mem_Mem_Len_eq t0 w K) h

/-! loam/bits.With: function 104 -/
def bits_With (K : K1) (t0 t1 t2 t3 : Value) (w : World) : Prop :=
 xCall Try.prog (fnv 110) [t1, t2] w fun t14 w =>
 xExtract Try.prog t14 0 w fun t15 w =>
 xExtract Try.prog t14 1 w fun t16 w =>
 xUn Try.prog .not t16 w fun t18 w =>
 xIf t18
 (K t0 w)
 (xBin Try.prog .andNot 29 false t0 false t15 w fun t22 w =>
 xBin Try.prog .shl 29 false t3 false t1 w fun t25 w =>
 xBin Try.prog .and 29 false t25 false t15 w fun t27 w =>
 xBin Try.prog .or 29 false t22 false t27 w fun t28 w =>
 K t28 w)
abbrev n_bits_With : Nat := 104
def bits_With_ann : Ann := { loop := fun i => [], wr := fun i => [], told := fun i => [] }
theorem bits_With_eq (t0 t1 t2 t3 : Value) (w : World) (K : K1) : reads Try.prog bits_With_ann Try.f104 #[t0, t1, t2, t3] w K = bits_With K t0 t1 t2 t3 w := by kernel_rfl
theorem bits_With_of {t0 t1 t2 t3 : Value} {w : World} {K : K1} (h : bits_With K t0 t1 t2 t3 w) : Yld Try.prog n_bits_With #[t0, t1, t2, t3] w K :=
  yld_of mixed bits_With_ann Try.func104 (by kernel_rfl) (bits_With_eq t0 t1 t2 t3 w K) h

/-! loam/loamref1.Field: function 105 -/
def loamref1_Field (K : K1) (t0 t1 t2 : Value) (w : World) : Prop :=
 xBin Try.prog .lss 3 false t1 true (.int .i64 0) w fun t8 w =>
 xGuard t8 false (fun w K => K t1 w) w fun t10 w =>
 xGuard t8 false (fun w K => xBin Try.prog .gtr 3 false t10 true (.int .i64 63) w K) w fun t11 w =>
 xPick t8 (.bool true) t11 w fun t12 w =>
 xGuard t12 false (fun w K => K t2 w) w fun t14 w =>
 xGuard t12 false (fun w K => xBin Try.prog .lss 3 false t14 true (.int .i64 1) w K) w fun t15 w =>
 xPick t12 (.bool true) t15 w fun t16 w =>
 xGuard t16 false (fun w K => K t2 w) w fun t18 w =>
 xGuard t16 false (fun w K => K t1 w) w fun t19 w =>
 xGuard t16 false (fun w K => xBin Try.prog .sub 3 true (.int .i64 64) false t19 w K) w fun t20 w =>
 xGuard t16 false (fun w K => xBin Try.prog .gtr 3 false t18 false t20 w K) w fun t21 w =>
 xPick t16 (.bool true) t21 w fun t22 w =>
 xIf t22
 (K (c64 0) w)
 (xConv Try.prog 3 51 t1 w fun t25 w =>
 xBin Try.prog .shr 29 false t0 false t25 w fun t26 w =>
 xCall Try.prog (fnv 111) [t2] w fun t28 w =>
 xBin Try.prog .and 29 false t26 false t28 w fun t29 w =>
 K t29 w)
abbrev n_loamref1_Field : Nat := 105
def loamref1_Field_ann : Ann := { loop := fun i => [], wr := fun i => [], told := fun i => [] }
theorem loamref1_Field_eq (t0 t1 t2 : Value) (w : World) (K : K1) : reads Try.prog loamref1_Field_ann Try.f105 #[t0, t1, t2] w K = loamref1_Field K t0 t1 t2 w := by kernel_rfl
theorem loamref1_Field_of {t0 t1 t2 : Value} {w : World} {K : K1} (h : loamref1_Field K t0 t1 t2 w) : Yld Try.prog n_loamref1_Field #[t0, t1, t2] w K :=
  yld_of mixed loamref1_Field_ann Try.func105 (by kernel_rfl) (loamref1_Field_eq t0 t1 t2 w K) h

/-! loam/bits.Field: function 106 -/
def bits_Field (K : K1) (t0 t1 t2 : Value) (w : World) : Prop :=
 xCall Try.prog (fnv 110) [t1, t2] w fun t12 w =>
 xExtract Try.prog t12 0 w fun t13 w =>
 xExtract Try.prog t12 1 w fun t14 w =>
 xUn Try.prog .not t14 w fun t16 w =>
 xIf t16
 (K (c64 0) w)
 (xBin Try.prog .and 29 false t0 false t13 w fun t19 w =>
 xBin Try.prog .shr 29 false t19 false t1 w fun t21 w =>
 K t21 w)
abbrev n_bits_Field : Nat := 106
def bits_Field_ann : Ann := { loop := fun i => [], wr := fun i => [], told := fun i => [] }
theorem bits_Field_eq (t0 t1 t2 : Value) (w : World) (K : K1) : reads Try.prog bits_Field_ann Try.f106 #[t0, t1, t2] w K = bits_Field K t0 t1 t2 w := by kernel_rfl
theorem bits_Field_of {t0 t1 t2 : Value} {w : World} {K : K1} (h : bits_Field K t0 t1 t2 w) : Yld Try.prog n_bits_Field #[t0, t1, t2] w K :=
  yld_of mixed bits_Field_ann Try.func106 (by kernel_rfl) (bits_Field_eq t0 t1 t2 w K) h

/-! (loam/geom.Geom).sectors: function 107 -/
def geom_Geom_sectors (K : K1) (t0 : Value) (w : World) : Prop :=
 xBox Try.prog 56 t0 w fun t1 w =>
 xDraw w.drew fun le H =>
 xDet le (H) (fun w K => xFieldAddr Try.prog 56 t1 2 w K) fun t3 =>
 xDet le (H) (fun w K => xLoad Try.prog 3 t3 w K) fun t4 =>
 xDet le (H) (fun w K => xBin Try.prog .mul 3 false t4 true (.int .i64 8) w K) fun t5 =>
 xDet le (H) (fun w K => xFieldAddr Try.prog 56 t1 0 w K) fun t6 =>
 xDet le (H) (fun w K => xLoad Try.prog 3 t6 w K) fun t7 =>
 xDet le (H) (fun w K => xFieldAddr Try.prog 56 t1 2 w K) fun t9 =>
 xDet le (H) (fun w K => xLoad Try.prog 3 t9 w K) fun t10 =>
 xDet le (H) (fun w K => xCall Try.prog (fnv 112) [t5, t7] w K) fun t8 =>
 xDet le (H) (fun w K => xCall Try.prog (fnv 112) [t10, (.int .i64 32)] w K) fun t11 =>
 xDet le (H) (fun w K => xBin Try.prog .add 3 false t8 false t11 w K) fun t12 =>
 xDet le (H) (fun w K => K t12 w) fun t2 =>
 xEnd (H) fun w =>
 K t2 w
abbrev n_geom_Geom_sectors : Nat := 107
def geom_Geom_sectors_ann : Ann := { loop := fun i => [], wr := fun i => [], told := fun i => bif Nat.beq i 1 then [(0, false, ⟨0, 10, some 3⟩), (1, false, ⟨1, 24, some 4⟩), (2, false, ⟨2, 48, some 5⟩), (3, false, ⟨0, 66, some 6⟩), (4, false, ⟨8, 192, some 7⟩), (6, false, ⟨0, 514, some 9⟩), (7, false, ⟨64, 1536, some 10⟩), (5, false, ⟨20, 416, some 8⟩), (8, false, ⟨160, 3072, some 11⟩), (9, false, ⟨288, 6400, some 12⟩), (10, false, ⟨1023, 4100, some 2⟩)] else [] }
theorem geom_Geom_sectors_eq (t0 : Value) (w : World) (K : K1) : reads Try.prog geom_Geom_sectors_ann Try.f107 #[t0] w K = geom_Geom_sectors K t0 w := by kernel_rfl
theorem geom_Geom_sectors_of {t0 : Value} {w : World} {K : K1} (h : geom_Geom_sectors K t0 w) : Yld Try.prog n_geom_Geom_sectors #[t0] w K :=
  yld_of mixed geom_Geom_sectors_ann Try.func107 (by kernel_rfl) (geom_Geom_sectors_eq t0 w K) h

/-! loam/crc.Add: function 108 -/
def crc_Add_j1 (K : K1) (nxt2 : List Value → World → Prop) (t0 t20 : Value) (w : World) : Prop :=
 xBin Try.prog .add 3 false t20 true (.int .i64 1) w fun t30_1 w =>
 nxt2 [t0, t30_1] w
def crc_Add_l2 (K : K1) (nxt0 : List Value → World → Prop) (nxt2 : List Value → World → Prop) (t0 t12 t20 : Value) (w : World) : Prop :=
 xBin Try.prog .lss 3 false t20 true (.int .i64 8) w fun t21_1 w =>
 xIf t21_1
 (xBin Try.prog .and 152 false t0 true (c32 1) w fun t23_1 w =>
 xBin Try.prog .shr 152 false t0 true (c64 1) w fun t25_1 w =>
 xBin Try.prog .eql 152 false t23_1 true (c32 1) w fun t27_1 w =>
 xIf t27_1
 (xBin Try.prog .xor 152 false t25_1 true (c32 3988292384) w fun t29_1 w =>
 crc_Add_j1 K nxt2 t29_1 t20 w)
 (crc_Add_j1 K nxt2 t25_1 t20 w))
 (xBin Try.prog .add 3 false t12 true (.int .i64 1) w fun t31_1 w =>
 nxt0 [t0, t31_1] w)
def crc_Add_l1 (K : K1) (nxt0 : List Value → World → Prop) (t0 t10 t11 t12 : Value) (w : World) : Prop :=
 xBin Try.prog .lss 3 false t12 false t11 w fun t13_1 w =>
 xIf t13_1
 (xIndexAddr Try.prog 26 t10 t12 w fun t14_1 w =>
 xLoad Try.prog 5 t14_1 w fun t15_1 w =>
 xConv Try.prog 5 152 t15_1 w fun t18_1 w =>
 xBin Try.prog .xor 152 false t0 false t18_1 w fun t19_1 w =>
 xLoop [t19_1, (.int .i64 0)] w [0, 20] fun u w nxt2 =>
 crc_Add_l2 K nxt0 nxt2 (u 0) t12 (u 20) w)
 (xUn Try.prog .xor t0 w fun t33 w =>
 K t33 w)
def crc_Add (K : K1) (t0 t1 : Value) (w : World) : Prop :=
 xUn Try.prog .xor t0 w fun t9 w =>
 xBuiltin Try.prog .len #[26] 3 [false] [t1] w fun t11 w =>
 xLoop [t9, (.int .i64 0)] w [0, 12] fun u w nxt0 =>
 crc_Add_l1 K nxt0 (u 0) t1 t11 (u 12) w
abbrev n_crc_Add : Nat := 108
def crc_Add_ann : Ann := { loop := fun i => bif Nat.beq i 2 then [0, 20] else bif Nat.beq i 0 then [0, 12] else [], wr := fun i => bif Nat.beq i 2 then [0, 7, 20, 21, 22, 23, 24, 25, 26, 27, 28, 29, 30] else bif Nat.beq i 0 then [0, 6, 7, 12, 13, 14, 15, 16, 17, 18, 19, 20, 21, 22, 23, 24, 25, 26, 27, 28, 29, 30, 31] else [], told := fun i => [] }
theorem crc_Add_eq (t0 t1 : Value) (w : World) (K : K1) : reads Try.prog crc_Add_ann Try.f108 #[t0, t1] w K = crc_Add K t0 t1 w := by kernel_rfl
theorem crc_Add_of {t0 t1 : Value} {w : World} {K : K1} (h : crc_Add K t0 t1 w) : Yld Try.prog n_crc_Add #[t0, t1] w K :=
  yld_of mixed crc_Add_ann Try.func108 (by kernel_rfl) (crc_Add_eq t0 t1 w K) h

/-! loam/loamref1.in: function 109 -/
def loamref1_in (K : K1) (t0 t1 t2 : Value) (w : World) : Prop :=
 xBin Try.prog .geq 3 false t0 true (.int .i64 0) w fun t8 w =>
 xGuard t8 true (fun w K => K t0 w) w fun t10 w =>
 xGuard t8 true (fun w K => K t2 w) w fun t11 w =>
 xGuard t8 true (fun w K => xBin Try.prog .leq 3 false t10 false t11 w K) w fun t12 w =>
 xPick t8 t12 (.bool false) w fun t13 w =>
 xGuard t13 true (fun w K => K t1 w) w fun t15 w =>
 xGuard t13 true (fun w K => K t2 w) w fun t16 w =>
 xGuard t13 true (fun w K => K t0 w) w fun t17 w =>
 xGuard t13 true (fun w K => xBin Try.prog .sub 3 false t16 false t17 w K) w fun t18 w =>
 xGuard t13 true (fun w K => xBin Try.prog .leq 3 false t15 false t18 w K) w fun t19 w =>
 xPick t13 t19 (.bool false) w fun t20 w =>
 K t20 w
abbrev n_loamref1_in : Nat := 109
def loamref1_in_ann : Ann := { loop := fun i => [], wr := fun i => [], told := fun i => [] }
theorem loamref1_in_eq (t0 t1 t2 : Value) (w : World) (K : K1) : reads Try.prog loamref1_in_ann Try.f109 #[t0, t1, t2] w K = loamref1_in K t0 t1 t2 w := by kernel_rfl
theorem loamref1_in_of {t0 t1 t2 : Value} {w : World} {K : K1} (h : loamref1_in K t0 t1 t2 w) : Yld Try.prog n_loamref1_in #[t0, t1, t2] w K :=
  yld_of mixed loamref1_in_ann Try.func109 (by kernel_rfl) (loamref1_in_eq t0 t1 t2 w K) h

/-! loam/bits.mask: function 110 -/
def bits_mask (K : K1) (t0 t1 : Value) (w : World) : Prop :=
 xBin Try.prog .lss 3 false t0 true (.int .i64 0) w fun t7 w =>
 xGuard t7 false (fun w K => K t0 w) w fun t9 w =>
 xGuard t7 false (fun w K => xBin Try.prog .geq 3 false t9 true (.int .i64 64) w K) w fun t10 w =>
 xPick t7 (.bool true) t10 w fun t11 w =>
 xGuard t11 false (fun w K => K t1 w) w fun t13 w =>
 xGuard t11 false (fun w K => xBin Try.prog .lss 3 false t13 true (.int .i64 1) w K) w fun t14 w =>
 xPick t11 (.bool true) t14 w fun t15 w =>
 xGuard t15 false (fun w K => K t1 w) w fun t17 w =>
 xGuard t15 false (fun w K => K t0 w) w fun t18 w =>
 xGuard t15 false (fun w K => xBin Try.prog .sub 3 true (.int .i64 64) false t18 w K) w fun t19 w =>
 xGuard t15 false (fun w K => xBin Try.prog .gtr 3 false t17 false t19 w K) w fun t20 w =>
 xPick t15 (.bool true) t20 w fun t21 w =>
 xIf t21
 (K (.tuple #[(c64 0), (.bool false)]) w)
 (xBin Try.prog .sub 3 true (.int .i64 64) false t1 w fun t23 w =>
 xBin Try.prog .shr 29 true (c64 18446744073709551615) false t23 w fun t24 w =>
 xBin Try.prog .shl 29 false t24 false t0 w fun t26 w =>
 K (.tuple #[t26, (.bool true)]) w)
abbrev n_bits_mask : Nat := 110
def bits_mask_ann : Ann := { loop := fun i => [], wr := fun i => [], told := fun i => [] }
theorem bits_mask_eq (t0 t1 : Value) (w : World) (K : K1) : reads Try.prog bits_mask_ann Try.f110 #[t0, t1] w K = bits_mask K t0 t1 w := by kernel_rfl
theorem bits_mask_of {t0 t1 : Value} {w : World} {K : K1} (h : bits_mask K t0 t1 w) : Yld Try.prog n_bits_mask #[t0, t1] w K :=
  yld_of mixed bits_mask_ann Try.func110 (by kernel_rfl) (bits_mask_eq t0 t1 w K) h

/-! loam/loamref1.mask: function 111 -/
def loamref1_mask (K : K1) (t0 : Value) (w : World) : Prop :=
 xBin Try.prog .geq 3 false t0 true (.int .i64 64) w fun t4 w =>
 xIf t4
 (K (c64 18446744073709551615) w)
 (xConv Try.prog 3 51 t0 w fun t6 w =>
 xBin Try.prog .shl 29 true (c64 1) false t6 w fun t7 w =>
 xBin Try.prog .sub 29 false t7 true (c64 1) w fun t8 w =>
 K t8 w)
abbrev n_loamref1_mask : Nat := 111
def loamref1_mask_ann : Ann := { loop := fun i => [], wr := fun i => [], told := fun i => [] }
theorem loamref1_mask_eq (t0 : Value) (w : World) (K : K1) : reads Try.prog loamref1_mask_ann Try.f111 #[t0] w K = loamref1_mask K t0 w := by kernel_rfl
theorem loamref1_mask_of {t0 : Value} {w : World} {K : K1} (h : loamref1_mask K t0 w) : Yld Try.prog n_loamref1_mask #[t0] w K :=
  yld_of mixed loamref1_mask_ann Try.func111 (by kernel_rfl) (loamref1_mask_eq t0 w K) h

/-! loam/geom.up: function 112 -/
def geom_up (K : K1) (t0 t1 : Value) (w : World) : Prop :=
 xBin Try.prog .add 3 false t0 false t1 w fun t7 w =>
 xBin Try.prog .sub 3 false t7 true (.int .i64 1) w fun t8 w =>
 xBin Try.prog .quo 3 false t8 false t1 w fun t10 w =>
 K t10 w
abbrev n_geom_up : Nat := 112
def geom_up_ann : Ann := { loop := fun i => [], wr := fun i => [], told := fun i => [] }
theorem geom_up_eq (t0 t1 : Value) (w : World) (K : K1) : reads Try.prog geom_up_ann Try.f112 #[t0, t1] w K = geom_up K t0 t1 w := by kernel_rfl
theorem geom_up_of {t0 t1 : Value} {w : World} {K : K1} (h : geom_up K t0 t1 w) : Yld Try.prog n_geom_up #[t0, t1] w K :=
  yld_of mixed geom_up_ann Try.func112 (by kernel_rfl) (geom_up_eq t0 t1 w K) h

end Go.Proofs.Ytlllabaipfmnjaa
