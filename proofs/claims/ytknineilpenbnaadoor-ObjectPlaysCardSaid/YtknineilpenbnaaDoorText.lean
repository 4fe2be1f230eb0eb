/- Each function of the set, as it is loaded, read as a statement on values; and that a call gives what the reading asks. -/
import Derived.Test.YtknineilpenbnaaDoorBase
set_option linter.unusedVariables false
namespace Go.Proofs.YtknineilpenbnaaDoor
open Go.Sh Go.RowKit
/-! loam/loamlaw16.ObjectApart: function 3 -/
/-! loam/loamlaw16.ObjectPtrs: function 4 -/
/-! loam/loamlaw16.ObjectWell: function 5 -/
/-! loam/loamlaw16.ObjectPlays: function 6 -/
def loamlaw16_ObjectPlays_j1 (K : K1) (nxt0 : List Value → World → Prop) (t9 t10 t11 t12 : Value) (w : World) : Prop :=
 xSq w.drew fun w =>
 xPur w (fun w K => K t9 w) fun t168_1 =>
 xPur w (fun w K => K t10 w) fun t169_1 =>
 xCall Tryd.prog (fnv 22) [t168_1, t169_1] w fun t170_1 w =>
 xPur w (fun w K => xUn Tryd.prog .not t170_1 w K) fun t171_1 =>
 xPur w (fun w K => K t171_1 w) fun t172_1 =>
 xPur w (fun w K => xGuard t172_1 false (fun w K => K t9 w) w K) fun t173_1 =>
 xPur w (fun w K => xGuard t172_1 false (fun w K => K t10 w) w K) fun t175_1 =>
 xGuard t172_1 false (fun w K => xCall Tryd.prog (fnv 13) [t173_1] w K) w fun t174_1 w =>
 xGuard t172_1 false (fun w K => xCall Tryd.prog (fnv 17) [t175_1] w K) w fun t176_1 w =>
 xPur w (fun w K => xGuard t172_1 false (fun w K => xBin Tryd.prog .neq 3 false t174_1 false t176_1 w K) w K) fun t177_1 =>
 xPur w (fun w K => xPick t172_1 (.bool true) t177_1 w K) fun t178_1 =>
 xPur w (fun w K => K t178_1 w) fun t179_1 =>
 xPur w (fun w K => xGuard t179_1 false (fun w K => K t9 w) w K) fun t180_1 =>
 xPur w (fun w K => xGuard t179_1 false (fun w K => xFieldAddr Tryd.prog 53 t12 1 w K) w K) fun t181_1 =>
 xRd w (fun K => xGuard t179_1 false (fun w K => xLoad Tryd.prog 3 t181_1 w K) w K) fun t182_1 =>
 xPur w (fun w K => xGuard t179_1 false (fun w K => K t10 w) w K) fun t184_1 =>
 xPur w (fun w K => xGuard t179_1 false (fun w K => xFieldAddr Tryd.prog 53 t12 1 w K) w K) fun t185_1 =>
 xRd w (fun K => xGuard t179_1 false (fun w K => xLoad Tryd.prog 3 t185_1 w K) w K) fun t186_1 =>
 xGuard t179_1 false (fun w K => xCall Tryd.prog (fnv 23) [t180_1, t182_1] w K) w fun t183_1 w =>
 xRe w (fun K => xGuard t179_1 false (fun w K => xLoad Tryd.prog 3 t185_1 w K) w K) t186_1 (
 xGuard t179_1 false (fun w K => xCall Tryd.prog (fnv 24) [t184_1, t186_1] w K) w fun t187_1 w =>
 xPur w (fun w K => xGuard t179_1 false (fun w K => xBin Tryd.prog .neq 9 false t183_1 false t187_1 w K) w K) fun t188_1 =>
 xPur w (fun w K => xPick t179_1 (.bool true) t188_1 w K) fun t189_1 =>
 xIf t189_1
 (K (.bool false) w)
 (xBin Tryd.prog .add 3 false t11 true (.int .i64 1) w fun t53_1 w =>
 nxt0 [t53_1] w))
def loamlaw16_ObjectPlays_l1 (K : K1) (nxt0 : List Value → World → Prop) (t3 t9 t10 t11 : Value) (w : World) : Prop :=
 xBuiltin Tryd.prog .len #[51] 3 [false] [t3] w fun t50_1 w =>
 xBin Tryd.prog .lss 3 false t11 false t50_1 w fun t51_1 w =>
 xIf t51_1
 (xIndexAddr Tryd.prog 51 t3 t11 w fun t56_1 w =>
 xLoad Tryd.prog 53 t56_1 w fun t57_1 w =>
 xAlloc Tryd.prog 53 w fun t12_1 w =>
 xStore Tryd.prog 53 t12_1 t57_1 w fun _ w =>
 xFieldAddr Tryd.prog 53 t12_1 4 w fun t58_1 w =>
 xLoad Tryd.prog 22 t58_1 w fun t59_1 w =>
 xBuiltin Tryd.prog .len #[22] 3 [false] [t59_1] w fun t60_1 w =>
 xBin Tryd.prog .gtr 3 false t60_1 true (.int .i64 300) w fun t61_1 w =>
 xIf t61_1
 (K (.bool true) w)
 (xFieldAddr Tryd.prog 53 t12_1 0 w fun t62_1 w =>
 xLoad Tryd.prog 3 t62_1 w fun t63_1 w =>
 xBin Tryd.prog .eql 3 false t63_1 true (.int .i64 1) w fun t65_1 w =>
 xIf t65_1
 (xFieldAddr Tryd.prog 53 t12_1 1 w fun t68_1 w =>
 xLoad Tryd.prog 3 t68_1 w fun t69_1 w =>
 xFieldAddr Tryd.prog 53 t12_1 2 w fun t70_1 w =>
 xLoad Tryd.prog 3 t70_1 w fun t71_1 w =>
 xCall Tryd.prog (fnv 15) [t9, t69_1, t71_1] w fun t72_1 w =>
 xExtract Tryd.prog t72_1 0 w fun t73_1 w =>
 xExtract Tryd.prog t72_1 1 w fun t74_1 w =>
 xFieldAddr Tryd.prog 53 t12_1 1 w fun t77_1 w =>
 xLoad Tryd.prog 3 t77_1 w fun t78_1 w =>
 xFieldAddr Tryd.prog 53 t12_1 2 w fun t79_1 w =>
 xLoad Tryd.prog 3 t79_1 w fun t80_1 w =>
 xCall Tryd.prog (fnv 18) [t10, t78_1, t80_1] w fun t81_1 w =>
 xExtract Tryd.prog t81_1 0 w fun t82_1 w =>
 xExtract Tryd.prog t81_1 1 w fun t83_1 w =>
 xBin Tryd.prog .neq 3 false t74_1 false t83_1 w fun t86_1 w =>
 xGuard t86_1 false (fun w K => K t83_1 w) w fun t88_1 w =>
 xGuard t86_1 false (fun w K => xBin Tryd.prog .eql 3 false t88_1 true (.int .i64 0) w K) w fun t89_1 w =>
 xGuard t86_1 false (fun w K => K t89_1 w) w fun t90_1 w =>
 xGuard t90_1 true (fun w K => K t73_1 w) w fun t91_1 w =>
 xGuard t90_1 true (fun w K => K t82_1 w) w fun t92_1 w =>
 xGuard t90_1 true (fun w K => xBin Tryd.prog .neq 3 false t91_1 false t92_1 w K) w fun t93_1 w =>
 xGuard t86_1 false (fun w K => xPick t90_1 t93_1 (.bool false) w K) w fun t94_1 w =>
 xPick t86_1 (.bool true) t94_1 w fun t95_1 w =>
 xIf t95_1
 (K (.bool false) w)
 (loamlaw16_ObjectPlays_j1 K nxt0 t9 t10 t11 t12_1 w))
 (xBin Tryd.prog .eql 3 false t63_1 true (.int .i64 2) w fun t97_1 w =>
 xIf t97_1
 (xSq w.drew fun w =>
 xPur w (fun w K => K t9 w) fun t98_1 =>
 xPur w (fun w K => xFieldAddr Tryd.prog 53 t12_1 1 w K) fun t99_1 =>
 xRd w (fun K => xLoad Tryd.prog 3 t99_1 w K) fun t100_1 =>
 xPur w (fun w K => xFieldAddr Tryd.prog 53 t12_1 2 w K) fun t101_1 =>
 xRd w (fun K => xLoad Tryd.prog 3 t101_1 w K) fun t102_1 =>
 xPur w (fun w K => xFieldAddr Tryd.prog 53 t12_1 3 w K) fun t103_1 =>
 xRd w (fun K => xLoad Tryd.prog 3 t103_1 w K) fun t104_1 =>
 xPur w (fun w K => K t10 w) fun t106_1 =>
 xPur w (fun w K => xFieldAddr Tryd.prog 53 t12_1 1 w K) fun t107_1 =>
 xRd w (fun K => xLoad Tryd.prog 3 t107_1 w K) fun t108_1 =>
 xPur w (fun w K => xFieldAddr Tryd.prog 53 t12_1 2 w K) fun t109_1 =>
 xRd w (fun K => xLoad Tryd.prog 3 t109_1 w K) fun t110_1 =>
 xPur w (fun w K => xFieldAddr Tryd.prog 53 t12_1 3 w K) fun t111_1 =>
 xRd w (fun K => xLoad Tryd.prog 3 t111_1 w K) fun t112_1 =>
 xCall Tryd.prog (fnv 14) [t98_1, t100_1, t102_1, t104_1] w fun t105_1 w =>
 xRe w (fun K => xLoad Tryd.prog 3 t107_1 w K) t108_1 (
 xRe w (fun K => xLoad Tryd.prog 3 t109_1 w K) t110_1 (
 xRe w (fun K => xLoad Tryd.prog 3 t111_1 w K) t112_1 (
 xCall Tryd.prog (fnv 19) [t106_1, t108_1, t110_1, t112_1] w fun t113_1 w =>
 xPur w (fun w K => xBin Tryd.prog .neq 3 false t105_1 false t113_1 w K) fun t114_1 =>
 xIf t114_1
 (K (.bool false) w)
 (loamlaw16_ObjectPlays_j1 K nxt0 t9 t10 t11 t12_1 w)))))
 (xBin Tryd.prog .eql 3 false t63_1 true (.int .i64 3) w fun t116_1 w =>
 xIf t116_1
 (xFieldAddr Tryd.prog 53 t12_1 1 w fun t119_1 w =>
 xLoad Tryd.prog 3 t119_1 w fun t120_1 w =>
 xFieldAddr Tryd.prog 53 t12_1 2 w fun t121_1 w =>
 xLoad Tryd.prog 3 t121_1 w fun t122_1 w =>
 xFieldAddr Tryd.prog 53 t12_1 3 w fun t123_1 w =>
 xLoad Tryd.prog 3 t123_1 w fun t124_1 w =>
 xCall Tryd.prog (fnv 12) [t9, t120_1, t122_1, t124_1] w fun t125_1 w =>
 xExtract Tryd.prog t125_1 0 w fun t126_1 w =>
 xExtract Tryd.prog t125_1 1 w fun t127_1 w =>
 xFieldAddr Tryd.prog 53 t12_1 1 w fun t130_1 w =>
 xLoad Tryd.prog 3 t130_1 w fun t131_1 w =>
 xFieldAddr Tryd.prog 53 t12_1 2 w fun t132_1 w =>
 xLoad Tryd.prog 3 t132_1 w fun t133_1 w =>
 xFieldAddr Tryd.prog 53 t12_1 3 w fun t134_1 w =>
 xLoad Tryd.prog 3 t134_1 w fun t135_1 w =>
 xCall Tryd.prog (fnv 20) [t10, t131_1, t133_1, t135_1] w fun t136_1 w =>
 xExtract Tryd.prog t136_1 0 w fun t137_1 w =>
 xExtract Tryd.prog t136_1 1 w fun t138_1 w =>
 xBin Tryd.prog .neq 3 false t127_1 false t138_1 w fun t141_1 w =>
 xGuard t141_1 false (fun w K => K t126_1 w) w fun t143_1 w =>
 xGuard t141_1 false (fun w K => xConv Tryd.prog 22 9 t143_1 w K) w fun t144_1 w =>
 xGuard t141_1 false (fun w K => K t137_1 w) w fun t145_1 w =>
 xGuard t141_1 false (fun w K => xConv Tryd.prog 22 9 t145_1 w K) w fun t146_1 w =>
 xGuard t141_1 false (fun w K => xBin Tryd.prog .neq 9 false t144_1 false t146_1 w K) w fun t147_1 w =>
 xPick t141_1 (.bool true) t147_1 w fun t148_1 w =>
 xIf t148_1
 (K (.bool false) w)
 (loamlaw16_ObjectPlays_j1 K nxt0 t9 t10 t11 t12_1 w))
 (xBin Tryd.prog .eql 3 false t63_1 true (.int .i64 4) w fun t150_1 w =>
 xIf t150_1
 (xSq w.drew fun w =>
 xPur w (fun w K => K t9 w) fun t151_1 =>
 xPur w (fun w K => xFieldAddr Tryd.prog 53 t12_1 1 w K) fun t152_1 =>
 xRd w (fun K => xLoad Tryd.prog 3 t152_1 w K) fun t153_1 =>
 xPur w (fun w K => xFieldAddr Tryd.prog 53 t12_1 2 w K) fun t154_1 =>
 xRd w (fun K => xLoad Tryd.prog 3 t154_1 w K) fun t155_1 =>
 xPur w (fun w K => xFieldAddr Tryd.prog 53 t12_1 4 w K) fun t156_1 =>
 xRd w (fun K => xLoad Tryd.prog 22 t156_1 w K) fun t157_1 =>
 xPur w (fun w K => K t10 w) fun t159_1 =>
 xPur w (fun w K => xFieldAddr Tryd.prog 53 t12_1 1 w K) fun t160_1 =>
 xRd w (fun K => xLoad Tryd.prog 3 t160_1 w K) fun t161_1 =>
 xPur w (fun w K => xFieldAddr Tryd.prog 53 t12_1 2 w K) fun t162_1 =>
 xRd w (fun K => xLoad Tryd.prog 3 t162_1 w K) fun t163_1 =>
 xPur w (fun w K => xFieldAddr Tryd.prog 53 t12_1 4 w K) fun t164_1 =>
 xRd w (fun K => xLoad Tryd.prog 22 t164_1 w K) fun t165_1 =>
 xCall Tryd.prog (fnv 11) [t151_1, t153_1, t155_1, t157_1] w fun t158_1 w =>
 xRe w (fun K => xLoad Tryd.prog 3 t160_1 w K) t161_1 (
 xRe w (fun K => xLoad Tryd.prog 3 t162_1 w K) t163_1 (
 xRe w (fun K => xLoad Tryd.prog 22 t164_1 w K) t165_1 (
 xCall Tryd.prog (fnv 21) [t159_1, t161_1, t163_1, t165_1] w fun t166_1 w =>
 xPur w (fun w K => xBin Tryd.prog .neq 3 false t158_1 false t166_1 w K) fun t167_1 =>
 xIf t167_1
 (K (.bool false) w)
 (loamlaw16_ObjectPlays_j1 K nxt0 t9 t10 t11 t12_1 w)))))
 (loamlaw16_ObjectPlays_j1 K nxt0 t9 t10 t11 t12_1 w))))))
 (K (.bool true) w)
def loamlaw16_ObjectPlays (K : K1) (t0 t1 t2 t3 : Value) (w : World) : Prop :=
 xCall Tryd.prog (fnv 7) [] w fun t21 w =>
 xUn Tryd.prog .not t21 w fun t22 w =>
 xIf t22
 (K (.bool false) w)
 (xBuiltin Tryd.prog .len #[44] 3 [false] [t0] w fun t24 w =>
 xBin Tryd.prog .gtr 3 false t24 true (.int .i64 300) w fun t25 w =>
 xGuard t25 false (fun w K => K t3 w) w fun t27 w =>
 xGuard t25 false (fun w K => xBuiltin Tryd.prog .len #[51] 3 [false] [t27] w K) w fun t28 w =>
 xGuard t25 false (fun w K => xBin Tryd.prog .gtr 3 false t28 true (.int .i64 60) w K) w fun t29 w =>
 xPick t25 (.bool true) t29 w fun t30 w =>
 xIf t30
 (K (.bool true) w)
 (xBuiltin Tryd.prog .len #[44] 3 [false] [t0] w fun t35 w =>
 xCall Tryd.prog (fnv 16) [t0, t1, t2, t35] w fun t36 w =>
 xBuildSlice Tryd.prog 44 0 [] w fun t37 w =>
 xBuiltin Tryd.prog .append #[44, 44] 44 [false, false] [t37, t0] w fun t39 w =>
 xBuiltin Tryd.prog .len #[44] 3 [false] [t0] w fun t43 w =>
 xBuild Tryd.prog 48 [(0, t39), (1, t1), (2, t2), (3, t43)] w fun t44 w =>
 xBox Tryd.prog 48 t44 w fun t45 w =>
 xBin Tryd.prog .eql 28 false t36 true (.pointer none) w fun t47 w =>
 xIf t47
 (K (.bool true) w)
 (xLoop [(.int .i64 0)] w [11] fun u w nxt0 =>
 loamlaw16_ObjectPlays_l1 K nxt0 t3 t36 t45 (u 11) w)))
abbrev n_loamlaw16_ObjectPlays : Nat := 6
def loamlaw16_ObjectPlays_ann : Ann := { loop := fun i => bif Nat.beq i 0 then [11] else [], wr := fun i => bif Nat.beq i 0 then [8, 11, 12, 13, 14, 15, 16, 17, 18, 19, 20, 48, 49, 50, 51, 52, 53, 54, 55, 56, 57, 58, 59, 60, 61, 62, 63, 64, 65, 66, 67, 68, 69, 70, 71, 72, 73, 74, 75, 76, 77, 78, 79, 80, 81, 82, 83, 84, 85, 86, 87, 88, 89, 90, 91, 92, 93, 94, 95, 96, 97, 98, 99, 100, 101, 102, 103, 104, 105, 106, 107, 108, 109, 110, 111, 112, 113, 114, 115, 116, 117, 118, 119, 120, 121, 122, 123, 124, 125, 126, 127, 128, 129, 130, 131, 132, 133, 134, 135, 136, 137, 138, 139, 140, 141, 142, 143, 144, 145, 146, 147, 148, 149, 150, 151, 152, 153, 154, 155, 156, 157, 158, 159, 160, 161, 162, 163, 164, 165, 166, 167, 168, 169, 170, 171, 172, 173, 174, 175, 176, 177, 178, 179, 180, 181, 182, 183, 184, 185, 186, 187, 188, 189] else [], told := fun i => bif Nat.beq i 32 then [(0, false, ⟨0, 374144419156711147060143317175368453031918731002368, some 168⟩), (1, false, ⟨0, 748288838313422294120286634350736906063837462004736, some 169⟩), (2, false, ⟨3, 2619010934096978029421003220227579171223431117012992, some 170⟩), (3, false, ⟨4, 4489733029880533764721719806104421436383024772022272, some 171⟩), (4, false, ⟨12, 8979466059761067529443439612208842872766049544044544, some 172⟩), (5, false, ⟨16, 17958932119522135058886879224417685745532099088089600, some 173⟩), (7, false, ⟨16, 53876796358566405176660637673253057236596297264268288, some 175⟩), (6, false, ⟨48, 41904174945551648470736051523641266739574897872207872, some 174⟩), (8, false, ⟨208, 149657767662684458824057326870147381212767492400742400, some 176⟩), (9, false, ⟨336, 317274467444891052707001532964712448171067083889573888, some 177⟩), (10, false, ⟨528, 580672138531215700237342428256171839105537870514880512, some 178⟩), (11, false, ⟨1280, 1149371655649416643768760270362731887714054341637701632, some 179⟩), (12, false, ⟨2048, 2298743311298833287537520540725463775428108683275403776, some 180⟩), (13, false, ⟨2048, 3831238852164722145895867567875772959046847805459009536, some 181⟩), (14, false, ⟨10240, 9961221015628277579329255676477009693521804294193414144, some 182⟩), (16, false, ⟨2048, 25286176424287166162912725947980101529709195516029436928, some 184⟩), (17, false, ⟨2048, 49806105078141387896646278382385048467609021470967074816, some 185⟩), (18, false, ⟨133120, 147885819693558274831580488120004836219208325290717609984, some 186⟩), (15, false, ⟨22528, 20688689801689499587837684866529173978852978149478629376, some 183⟩), (19, false, ⟨362496, 319525320270537826967715355160839464784507106975281053696, some 187⟩), (20, false, ⟨559104, 601504499789861376905651208156496354570355105457063854080, some 188⟩), (21, false, ⟨1050624, 1177722823155435587648389690365012607611001015398098272256, some 189⟩)] else bif Nat.beq i 22 then [(0, false, ⟨0, 316912650057057350374175801856, some 98⟩), (1, false, ⟨0, 633825300114114700748351606784, some 99⟩), (2, false, ⟨2, 1901475900342344102245054808064, some 100⟩), (3, false, ⟨0, 2535301200456458802993406414848, some 101⟩), (4, false, ⟨8, 7605903601369376408980219232256, some 102⟩), (5, false, ⟨0, 10141204801825835211973625647104, some 103⟩), (6, false, ⟨32, 30423614405477505635920876929024, some 104⟩), (8, false, ⟨0, 81129638414606681695789005145088, some 106⟩), (9, false, ⟨0, 162259276829213363391578010292224, some 107⟩), (10, false, ⟨512, 486777830487640090174734030864384, some 108⟩), (11, false, ⟨0, 649037107316853453566312041156608, some 109⟩), (12, false, ⟨2048, 1947111321950560360698936123457536, some 110⟩), (13, false, ⟨0, 2596148429267413814265248164614144, some 111⟩), (14, false, ⟨8192, 7788445287802241442795744493830144, some 112⟩), (7, false, ⟨85, 67502394462153215629699445686272, some 105⟩), (15, false, ⟨21888, 17280612982311223201203058095685632, some 113⟩), (16, false, ⟨32896, 31194345970416269112030872477892608, some 114⟩)] else bif Nat.beq i 30 then [(0, false, ⟨0, 2854495385411919762116571938898990272765493760, some 151⟩), (1, false, ⟨0, 5708990770823839524233143877797980545530990592, some 152⟩), (2, false, ⟨2, 17126972312471518572699431633393941636592959488, some 153⟩), (3, false, ⟨0, 22835963083295358096932575511191922182123950080, some 154⟩), (4, false, ⟨8, 68507889249886074290797726533575766546371837952, some 155⟩), (5, false, ⟨0, 91343852333181432387730302044767688728495788032, some 156⟩), (6, false, ⟨32, 274031556999544297163190906134303066185487351808, some 157⟩), (8, false, ⟨0, 730750818665451459101842416358141509827966272512, some 159⟩), (9, false, ⟨0, 1461501637330902918203684832716283019655932547072, some 160⟩), (10, false, ⟨512, 4384504911992708754611054498148849058967797628928, some 161⟩), (11, false, ⟨0, 5846006549323611672814739330865132078623730176000, some 162⟩), (12, false, ⟨2048, 17538019647970835018444217992595396235871190515712, some 163⟩), (13, false, ⟨0, 23384026197294446691258957323460528314494920691712, some 164⟩), (14, false, ⟨8192, 70152078591883340073776871970381584943484762062848, some 165⟩), (7, false, ⟨85, 608007517092738909330829822985484928099050061824, some 158⟩), (15, false, ⟨21888, 155649924375741160788692434684284141593356815826944, some 166⟩), (16, false, ⟨32896, 280973689776866086024658409089705410528853031387136, some 167⟩)] else [], sq := fun i => bif Nat.beq i 32 then some (.rd true 0 (.rd true 1 (.ef 2 [] (.rd true 3 (.rd true 4 (.rd true 5 (.rd true 7 (.ef 6 [] (.ef 8 [] (.rd true 9 (.rd true 10 (.rd true 11 (.rd true 12 (.rd true 13 (.rd false 14 (.rd true 16 (.rd true 17 (.rd false 18 (.ef 15 [18] (.ef 19 [] (.rd true 20 (.rd true 21 .done)))))))))))))))))))))) else bif Nat.beq i 22 then some (.rd true 0 (.rd true 1 (.rd false 2 (.rd true 3 (.rd false 4 (.rd true 5 (.rd false 6 (.rd true 8 (.rd true 9 (.rd false 10 (.rd true 11 (.rd false 12 (.rd true 13 (.rd false 14 (.ef 7 [10, 12, 14] (.ef 15 [] (.rd true 16 .done))))))))))))))))) else bif Nat.beq i 30 then some (.rd true 0 (.rd true 1 (.rd false 2 (.rd true 3 (.rd false 4 (.rd true 5 (.rd false 6 (.rd true 8 (.rd true 9 (.rd false 10 (.rd true 11 (.rd false 12 (.rd true 13 (.rd false 14 (.ef 7 [10, 12, 14] (.ef 15 [] (.rd true 16 .done))))))))))))))))) else none }
theorem loamlaw16_ObjectPlays_eq (t0 t1 t2 t3 : Value) (w : World) (K : K1) : reads Tryd.prog loamlaw16_ObjectPlays_ann Tryd.f6 #[t0, t1, t2, t3] w K = loamlaw16_ObjectPlays K t0 t1 t2 t3 w := by kernel_rfl
theorem loamlaw16_ObjectPlays_of {t0 t1 t2 t3 : Value} {w : World} {K : K1} (h : loamlaw16_ObjectPlays K t0 t1 t2 t3 w) : Yld Tryd.prog n_loamlaw16_ObjectPlays #[t0, t1, t2, t3] w K :=
  yld_of mixed loamlaw16_ObjectPlays_ann Tryd.func6 (by kernel_rfl) (loamlaw16_ObjectPlays_eq t0 t1 t2 t3 w K) h

/-! loam/loamlaw16.known: function 7 -/
def loamlaw16_known (K : K1) (w : World) : Prop :=
 xCall Tryd.prog (fnv 8) [(.int .i64 20)] w fun t16 w =>
 xExtract Tryd.prog t16 0 w fun t17 w =>
 xExtract Tryd.prog t16 1 w fun t18 w =>
 xBin Tryd.prog .neq 3 false t18 true (.int .i64 0) w fun t20 w =>
 xGuard t20 false (fun w K => K t17 w) w fun t22 w =>
 xGuard t20 false (fun w K => xBin Tryd.prog .eql 24 false t22 true (.pointer none) w K) w fun t23 w =>
 xPick t20 (.bool true) t23 w fun t24 w =>
 xIf t24
 (K (.bool false) w)
 (xCall Tryd.prog (fnv 9) [t17, (.int .i64 0), (.int .i64 20)] w fun t27 w =>
 xExtract Tryd.prog t27 0 w fun t28 w =>
 xExtract Tryd.prog t27 1 w fun t29 w =>
 xBin Tryd.prog .neq 3 false t29 true (.int .i64 0) w fun t31 w =>
 xGuard t31 false (fun w K => K t28 w) w fun t33 w =>
 xGuard t31 false (fun w K => xBin Tryd.prog .eql 28 false t33 true (.pointer none) w K) w fun t34 w =>
 xPick t31 (.bool true) t34 w fun t35 w =>
 xGuard t35 false (fun w K => K t28 w) w fun t37 w =>
 xGuard t35 false (fun w K => xNilCheck t37 w K) w fun t38 w =>
 xGuard t35 false (fun w K => xFieldAddr Tryd.prog 65 t38 0 w K) w fun t39 w =>
 xGuard t35 false (fun w K => xLoad Tryd.prog 24 t39 w K) w fun t40 w =>
 xGuard t35 false (fun w K => xBin Tryd.prog .eql 24 false t40 true (.pointer none) w K) w fun t41 w =>
 xPick t35 (.bool true) t41 w fun t42 w =>
 xIf t42
 (K (.bool false) w)
 (xBuild Tryd.prog 34 [(0, (.int .i64 1)), (1, (.int .i64 3))] w fun t45 w =>
 xCall Tryd.prog (fnv 10) [t28, t45] w fun t46 w =>
 xExtract Tryd.prog t46 0 w fun t47 w =>
 xExtract Tryd.prog t46 1 w fun t48 w =>
 xCall Tryd.prog (fnv 14) [t28, t47, (.int .i64 0), t47] w fun t52 w =>
 xBuildSlice Tryd.prog 22 1 [(0, (c8 120))] w fun t55 w =>
 xConv Tryd.prog 22 22 t55 w fun t56 w =>
 xCall Tryd.prog (fnv 11) [t28, t47, (.int .i64 1), t56] w fun t57 w =>
 xCall Tryd.prog (fnv 15) [t28, t47, (.int .i64 0)] w fun t61 w =>
 xExtract Tryd.prog t61 0 w fun t62 w =>
 xExtract Tryd.prog t61 1 w fun t63 w =>
 xCall Tryd.prog (fnv 12) [t28, t47, (.int .i64 0), (.int .i64 3)] w fun t67 w =>
 xExtract Tryd.prog t67 0 w fun t68 w =>
 xExtract Tryd.prog t67 1 w fun t69 w =>
 xCall Tryd.prog (fnv 15) [t28, t47, (.int .i64 1)] w fun t73 w =>
 xExtract Tryd.prog t73 0 w fun t74 w =>
 xExtract Tryd.prog t73 1 w fun t75 w =>
 xBin Tryd.prog .add 3 false t52 false t57 w fun t78 w =>
 xBin Tryd.prog .add 3 false t78 false t63 w fun t80 w =>
 xBin Tryd.prog .add 3 false t80 false t69 w fun t82 w =>
 xBin Tryd.prog .eql 3 false t82 true (.int .i64 0) w fun t83 w =>
 xGuard t83 true (fun w K => K t62 w) w fun t85 w =>
 xGuard t83 true (fun w K => K t47 w) w fun t86 w =>
 xGuard t83 true (fun w K => xBin Tryd.prog .eql 3 false t85 false t86 w K) w fun t87 w =>
 xPick t83 t87 (.bool false) w fun t88 w =>
 xGuard t88 true (fun w K => K t68 w) w fun t90 w =>
 xGuard t88 true (fun w K => xConv Tryd.prog 22 9 t90 w K) w fun t91 w =>
 xGuard t88 true (fun w K => xBin Tryd.prog .eql 9 false t91 true (.string { data := #[0, 120, 0] }) w K) w fun t92 w =>
 xPick t88 t92 (.bool false) w fun t93 w =>
 xGuard t93 true (fun w K => K t75 w) w fun t95 w =>
 xGuard t93 true (fun w K => xBin Tryd.prog .eql 3 false t95 true (.int .i64 1) w K) w fun t96 w =>
 xPick t93 t96 (.bool false) w fun t97 w =>
 xGuard t97 true (fun w K => K t28 w) w fun t99 w =>
 xGuard t97 true (fun w K => xCall Tryd.prog (fnv 13) [t99] w K) w fun t100 w =>
 xGuard t97 true (fun w K => xBin Tryd.prog .eql 3 false t100 true (.int .i64 0) w K) w fun t101 w =>
 xPick t97 t101 (.bool false) w fun t102 w =>
 xGuard t102 true (fun w K => K t28 w) w fun t104 w =>
 xGuard t102 true (fun w K => K t47 w) w fun t105 w =>
 xGuard t102 true (fun w K => xCall Tryd.prog (fnv 23) [t104, t105] w K) w fun t106 w =>
 xGuard t102 true (fun w K => xBin Tryd.prog .eql 9 false t106 true (.string { data := #[49, 32, 51, 58, 32, 48, 32, 48, 48, 55, 56, 48, 48] }) w K) w fun t107 w =>
 xPick t102 t107 (.bool false) w fun t108 w =>
 K t108 w))
abbrev n_loamlaw16_known : Nat := 7
def loamlaw16_known_ann : Ann := { loop := fun i => [], wr := fun i => [], told := fun i => [] }
theorem loamlaw16_known_eq (w : World) (K : K1) : reads Tryd.prog loamlaw16_known_ann Tryd.f7 #[] w K = loamlaw16_known K  w := by kernel_rfl
theorem loamlaw16_known_of {w : World} {K : K1} (h : loamlaw16_known K w) : Yld Tryd.prog n_loamlaw16_known #[] w K :=
  yld_of mixed loamlaw16_known_ann Tryd.func7 (by kernel_rfl) (loamlaw16_known_eq  w K) h

/-! loam/mem.New: function 8 -/
def mem_New (K : K1) (t0 : Value) (w : World) : Prop :=
 xBin Tryd.prog .lss 3 false t0 true (.int .i64 0) w fun t5 w =>
 xGuard t5 false (fun w K => K t0 w) w fun t7 w =>
 xGuard t5 false (fun w K => xBin Tryd.prog .gtr 3 false t7 true (.int .i64 8192) w K) w fun t8 w =>
 xPick t5 (.bool true) t8 w fun t9 w =>
 xIf t9
 (K (.tuple #[(.pointer none), (.int .i64 1)]) w)
 (xMakeSlice Tryd.prog 44 t0 t0 w fun t11 w =>
 xBuild Tryd.prog 67 [(0, t11)] w fun t12 w =>
 xBox Tryd.prog 67 t12 w fun t13 w =>
 K (.tuple #[t13, (.int .i64 0)]) w)
abbrev n_mem_New : Nat := 8
def mem_New_ann : Ann := { loop := fun i => [], wr := fun i => [], told := fun i => [] }
theorem mem_New_eq (t0 : Value) (w : World) (K : K1) : reads Tryd.prog mem_New_ann Tryd.f8 #[t0] w K = mem_New K t0 w := by kernel_rfl
theorem mem_New_of {t0 : Value} {w : World} {K : K1} (h : mem_New K t0 w) : Yld Tryd.prog n_mem_New #[t0] w K :=
  yld_of mixed mem_New_ann Tryd.func8 (by kernel_rfl) (mem_New_eq t0 w K) h

/-! loam/space.New: function 9 -/
def space_New (K : K1) (t0 t1 t2 : Value) (w : World) : Prop :=
 xCall Tryd.prog (fnv 25) [t0, t1, t1, t2] w fun t12 w =>
 xUn Tryd.prog .not t12 w fun t13 w =>
 xIf t13
 (K (.tuple #[(.pointer none), (.int .i64 1)]) w)
 (xBuild Tryd.prog 65 [(0, t0), (1, t1), (2, t1), (3, t2)] w fun t18 w =>
 xBox Tryd.prog 65 t18 w fun t19 w =>
 K (.tuple #[t19, (.int .i64 0)]) w)
abbrev n_space_New : Nat := 9
def space_New_ann : Ann := { loop := fun i => [], wr := fun i => [], told := fun i => [] }
theorem space_New_eq (t0 t1 t2 : Value) (w : World) (K : K1) : reads Tryd.prog space_New_ann Tryd.f9 #[t0, t1, t2] w K = space_New K t0 t1 t2 w := by kernel_rfl
theorem space_New_of {t0 t1 t2 : Value} {w : World} {K : K1} (h : space_New K t0 t1 t2 w) : Yld Tryd.prog n_space_New #[t0, t1, t2] w K :=
  yld_of mixed space_New_ann Tryd.func9 (by kernel_rfl) (space_New_eq t0 t1 t2 w K) h

/-! (*loam/space.Space).Alloc: function 10 -/
def space_Space_Alloc_l1 (K : K1) (nxt1 : List Value → World → Prop) (t0 t8 t9 : Value) (w : World) : Prop :=
 xNilCheck t0 w fun t52_1 w =>
 xFieldAddr Tryd.prog 65 t52_1 2 w fun t53_1 w =>
 xLoad Tryd.prog 3 t53_1 w fun t54_1 w =>
 xBin Tryd.prog .lss 3 false t9 false t54_1 w fun t55_1 w =>
 xIf t55_1
 (xNilCheck t0 w fun t59_1 w =>
 xFieldAddr Tryd.prog 65 t59_1 0 w fun t60_1 w =>
 xLoad Tryd.prog 24 t60_1 w fun t61_1 w =>
 xCall Tryd.prog (fnv 29) [t61_1, t9, (c64 0)] w fun t63_1 w =>
 xBin Tryd.prog .add 3 false t9 true (.int .i64 1) w fun t57_1 w =>
 nxt1 [t57_1] w)
 (K (.tuple #[t8, (.int .i64 0)]) w)
def space_Space_Alloc (K : K1) (t0 t1 : Value) (w : World) : Prop :=
 xBox Tryd.prog 34 t1 w fun t3 w =>
 xLoad Tryd.prog 34 t3 w fun t11 w =>
 xCall Tryd.prog (fnv 26) [t11] w fun t12 w =>
 xExtract Tryd.prog t12 0 w fun t13 w =>
 xExtract Tryd.prog t12 1 w fun t14 w =>
 xBin Tryd.prog .neq 25 false t14 true (.int .i64 0) w fun t17 w =>
 xGuard t17 false (fun w K => xFieldAddr Tryd.prog 34 t3 2 w K) w fun t19 w =>
 xGuard t17 false (fun w K => xLoad Tryd.prog 4 t19 w K) w fun t20 w =>
 xPick t17 (.bool true) t20 w fun t21 w =>
 xIf t21
 (K (.tuple #[(.int .i64 0), (.int .i64 1)]) w)
 (xLoad Tryd.prog 34 t3 w fun t23 w =>
 xCall Tryd.prog (fnv 27) [t23] w fun t24 w =>
 xCall Tryd.prog (fnv 28) [t0] w fun t26 w =>
 xBin Tryd.prog .gtr 3 false t24 false t26 w fun t27 w =>
 xIf t27
 (K (.tuple #[(.int .i64 0), (.int .i64 6)]) w)
 (xNilCheck t0 w fun t29 w =>
 xFieldAddr Tryd.prog 65 t29 2 w fun t30 w =>
 xLoad Tryd.prog 3 t30 w fun t31 w =>
 xNilCheck t0 w fun t33 w =>
 xFieldAddr Tryd.prog 65 t33 0 w fun t34 w =>
 xLoad Tryd.prog 24 t34 w fun t35 w =>
 xCall Tryd.prog (fnv 29) [t35, t31, t13] w fun t38 w =>
 xSq w.drew fun w =>
 xPur w (fun w K => K t0 w) fun t39 =>
 xPur w (fun w K => xNilCheck t39 w K) fun t40 =>
 xPur w (fun w K => xFieldAddr Tryd.prog 65 t40 2 w K) fun t41 =>
 xRd w (fun K => xLoad Tryd.prog 3 t41 w K) fun t42 =>
 xRd w (fun K => xLoad Tryd.prog 34 t3 w K) fun t43 =>
 xCall Tryd.prog (fnv 27) [t43] w fun t44 w =>
 xRe w (fun K => xLoad Tryd.prog 3 t41 w K) t42 (
 xPur w (fun w K => xBin Tryd.prog .add 3 false t42 false t44 w K) fun t45 =>
 xPur w (fun w K => xNilCheck t39 w K) fun t46 =>
 xPur w (fun w K => xFieldAddr Tryd.prog 65 t46 2 w K) fun t47 =>
 xStore Tryd.prog 3 t47 t45 w fun _x9 w =>
 xBin Tryd.prog .add 3 false t31 true (.int .i64 1) w fun t49 w =>
 xLoop [t49] w [9] fun u w nxt1 =>
 space_Space_Alloc_l1 K nxt1 t0 t31 (u 9) w)))
abbrev n_space_Space_Alloc : Nat := 10
def space_Space_Alloc_ann : Ann := { loop := fun i => bif Nat.beq i 1 then [9] else [], wr := fun i => bif Nat.beq i 1 then [9, 50, 51, 52, 53, 54, 55, 56, 57, 58, 59, 60, 61, 62, 63] else [], told := fun i => bif Nat.beq i 8 then [(0, false, ⟨0, 549755813889, some 39⟩), (1, false, ⟨1, 1649267441664, some 40⟩), (2, false, ⟨2, 3298534883328, some 41⟩), (3, false, ⟨4, 6597069766656, some 42⟩), (4, false, ⟨0, 8796093022216, some 43⟩), (5, false, ⟨16, 26388279066624, some 44⟩), (6, false, ⟨40, 57174604644352, some 45⟩), (7, false, ⟨127, 70918499991552, some 46⟩), (8, false, ⟨255, 211106232532992, some 47⟩), (9, false, ⟨383, 175921860444160, none⟩)] else [], sq := fun i => bif Nat.beq i 8 then some (.rd true 0 (.rd true 1 (.rd true 2 (.rd false 3 (.rd false 4 (.ef 5 [3] (.rd true 6 (.rd true 7 (.rd true 8 (.ef 9 [] .done)))))))))) else none }
theorem space_Space_Alloc_eq (t0 t1 : Value) (w : World) (K : K1) : reads Tryd.prog space_Space_Alloc_ann Tryd.f10 #[t0, t1] w K = space_Space_Alloc K t0 t1 w := by kernel_rfl
theorem space_Space_Alloc_of {t0 t1 : Value} {w : World} {K : K1} (h : space_Space_Alloc K t0 t1 w) : Yld Tryd.prog n_space_Space_Alloc #[t0, t1] w K :=
  yld_of mixed space_Space_Alloc_ann Tryd.func10 (by kernel_rfl) (space_Space_Alloc_eq t0 t1 w K) h

/-! loam/obj.Write: function 11 -/
def obj_Write (K : K1) (t0 t1 t2 t3 : Value) (w : World) : Prop :=
 xBuiltin Tryd.prog .len #[22] 3 [false] [t3] w fun t16 w =>
 xCall Tryd.prog (fnv 30) [t0, t1, t2, t16] w fun t17 w =>
 xExtract Tryd.prog t17 0 w fun t18 w =>
 xExtract Tryd.prog t17 1 w fun t19 w =>
 xBin Tryd.prog .neq 25 false t19 true (.int .i64 0) w fun t21 w =>
 xIf t21
 (K t19 w)
 (xNilCheck t0 w fun t24 w =>
 xFieldAddr Tryd.prog 65 t24 0 w fun t25 w =>
 xLoad Tryd.prog 24 t25 w fun t26 w =>
 xCall Tryd.prog (fnv 31) [t26, t18, t3] w fun t29 w =>
 K t29 w)
abbrev n_obj_Write : Nat := 11
def obj_Write_ann : Ann := { loop := fun i => [], wr := fun i => [], told := fun i => [] }
theorem obj_Write_eq (t0 t1 t2 t3 : Value) (w : World) (K : K1) : reads Tryd.prog obj_Write_ann Tryd.f11 #[t0, t1, t2, t3] w K = obj_Write K t0 t1 t2 t3 w := by kernel_rfl
theorem obj_Write_of {t0 t1 t2 t3 : Value} {w : World} {K : K1} (h : obj_Write K t0 t1 t2 t3 w) : Yld Tryd.prog n_obj_Write #[t0, t1, t2, t3] w K :=
  yld_of mixed obj_Write_ann Tryd.func11 (by kernel_rfl) (obj_Write_eq t0 t1 t2 t3 w K) h

/-! loam/obj.Read: function 12 -/
def obj_Read (K : K1) (t0 t1 t2 t3 : Value) (w : World) : Prop :=
 xCall Tryd.prog (fnv 30) [t0, t1, t2, t3] w fun t17 w =>
 xExtract Tryd.prog t17 0 w fun t18 w =>
 xExtract Tryd.prog t17 1 w fun t19 w =>
 xBin Tryd.prog .neq 25 false t19 true (.int .i64 0) w fun t21 w =>
 xIf t21
 (K (.tuple #[(.slice none 0 0), t19]) w)
 (xNilCheck t0 w fun t24 w =>
 xFieldAddr Tryd.prog 65 t24 0 w fun t25 w =>
 xLoad Tryd.prog 24 t25 w fun t26 w =>
 xCall Tryd.prog (fnv 32) [t26, t18, t3] w fun t29 w =>
 xExtract Tryd.prog t29 0 w fun t30 w =>
 xExtract Tryd.prog t29 1 w fun t31 w =>
 K (.tuple #[t30, t31]) w)
abbrev n_obj_Read : Nat := 12
def obj_Read_ann : Ann := { loop := fun i => [], wr := fun i => [], told := fun i => [] }
theorem obj_Read_eq (t0 t1 t2 t3 : Value) (w : World) (K : K1) : reads Tryd.prog obj_Read_ann Tryd.f12 #[t0, t1, t2, t3] w K = obj_Read K t0 t1 t2 t3 w := by kernel_rfl
theorem obj_Read_of {t0 t1 t2 t3 : Value} {w : World} {K : K1} (h : obj_Read K t0 t1 t2 t3 w) : Yld Tryd.prog n_obj_Read #[t0, t1, t2, t3] w K :=
  yld_of mixed obj_Read_ann Tryd.func12 (by kernel_rfl) (obj_Read_eq t0 t1 t2 t3 w K) h

/-! loam/obj.Well: function 13 -/
def obj_Well_l2 (K : K1) (nxt0 : List Value → World → Prop) (nxt2 : List Value → World → Prop) (t0 t3 t6 t7 t28 t39 t40 : Value) (w : World) : Prop :=
 xBin Tryd.prog .lss 3 false t40 false t39 w fun t41_1 w =>
 xIf t41_1
 (xCall Tryd.prog (fnv 15) [t0, t6, t40] w fun t47_1 w =>
 xExtract Tryd.prog t47_1 0 w fun t48_1 w =>
 xExtract Tryd.prog t47_1 1 w fun t49_1 w =>
 xBin Tryd.prog .neq 25 false t49_1 true (.int .i64 0) w fun t51_1 w =>
 xIf t51_1
 (K (.int .i64 2) w)
 (xCall Tryd.prog (fnv 35) [t3, t48_1] w fun t55_1 w =>
 xExtract Tryd.prog t55_1 0 w fun t56_1 w =>
 xExtract Tryd.prog t55_1 1 w fun t57_1 w =>
 xBin Tryd.prog .neq 3 false t48_1 true (.int .i64 (-1)) w fun t59_1 w =>
 xGuard t59_1 true (fun w K => K t57_1 w) w fun t61_1 w =>
 xGuard t59_1 true (fun w K => xUn Tryd.prog .not t61_1 w K) w fun t62_1 w =>
 xPick t59_1 t62_1 (.bool false) w fun t63_1 w =>
 xIf t63_1
 (K (.int .i64 2) w)
 (xBin Tryd.prog .add 3 false t40 true (.int .i64 1) w fun t64_1 w =>
 nxt2 [t64_1] w)))
 (xLoad Tryd.prog 34 t7 w fun t66_1 w =>
 xCall Tryd.prog (fnv 27) [t66_1] w fun t67_1 w =>
 xBin Tryd.prog .add 3 false t6 false t67_1 w fun t68_1 w =>
 xBin Tryd.prog .mul 3 false t68_1 true (.int .i64 8) w fun t69_1 w =>
 xBin Tryd.prog .add 3 false t6 true (.int .i64 1) w fun t71_1 w =>
 xFieldAddr Tryd.prog 34 t7 0 w fun t72_1 w =>
 xLoad Tryd.prog 3 t72_1 w fun t73_1 w =>
 xBin Tryd.prog .add 3 false t71_1 false t73_1 w fun t74_1 w =>
 xBin Tryd.prog .mul 3 false t74_1 true (.int .i64 8) w fun t75_1 w =>
 xFieldAddr Tryd.prog 34 t7 1 w fun t76_1 w =>
 xLoad Tryd.prog 3 t76_1 w fun t77_1 w =>
 xBin Tryd.prog .add 3 false t75_1 false t77_1 w fun t78_1 w =>
 xNilCheck t0 w fun t81_1 w =>
 xFieldAddr Tryd.prog 65 t81_1 0 w fun t82_1 w =>
 xLoad Tryd.prog 24 t82_1 w fun t83_1 w =>
 xBin Tryd.prog .sub 3 false t69_1 false t78_1 w fun t87_1 w =>
 xCall Tryd.prog (fnv 32) [t83_1, t78_1, t87_1] w fun t88_1 w =>
 xExtract Tryd.prog t88_1 0 w fun t89_1 w =>
 xExtract Tryd.prog t88_1 1 w fun t90_1 w =>
 xCall Tryd.prog (fnv 36) [t89_1, (fnv 37)] w fun t92_1 w =>
 xIf t92_1
 (K (.int .i64 2) w)
 (xBin Tryd.prog .add 3 false t28 true (.int .i64 1) w fun t93_1 w =>
 nxt0 [t93_1] w))
def obj_Well_l1 (K : K1) (nxt0 : List Value → World → Prop) (t0 t3 t26 t27 t28 : Value) (w : World) : Prop :=
 xBin Tryd.prog .lss 3 false t28 false t27 w fun t29_1 w =>
 xIf t29_1
 (xIndexAddr Tryd.prog 40 t26 t28 w fun t30_1 w =>
 xLoad Tryd.prog 3 t30_1 w fun t31_1 w =>
 xCall Tryd.prog (fnv 34) [t0, t31_1] w fun t35_1 w =>
 xExtract Tryd.prog t35_1 0 w fun t36_1 w =>
 xExtract Tryd.prog t35_1 1 w fun t37_1 w =>
 xAlloc Tryd.prog 34 w fun t7_1 w =>
 xStore Tryd.prog 34 t7_1 t36_1 w fun _ w =>
 xFieldAddr Tryd.prog 34 t7_1 0 w fun t38_1 w =>
 xLoad Tryd.prog 3 t38_1 w fun t39_1 w =>
 xLoop [(.int .i64 0)] w [40] fun u w nxt2 =>
 obj_Well_l2 K nxt0 nxt2 t0 t3 t31_1 t7_1 t28 t39_1 (u 40) w)
 (K (.int .i64 0) w)
def obj_Well (K : K1) (t0 : Value) (w : World) : Prop :=
 xCall Tryd.prog (fnv 33) [t0] w fun t20 w =>
 xExtract Tryd.prog t20 0 w fun t21 w =>
 xExtract Tryd.prog t20 1 w fun t22 w =>
 xBin Tryd.prog .neq 25 false t22 true (.int .i64 0) w fun t24 w =>
 xIf t24
 (K t22 w)
 (xBuiltin Tryd.prog .len #[40] 3 [false] [t21] w fun t27 w =>
 xLoop [(.int .i64 0)] w [28] fun u w nxt0 =>
 obj_Well_l1 K nxt0 t0 t21 t21 t27 (u 28) w)
abbrev n_obj_Well : Nat := 13
def obj_Well_ann : Ann := { loop := fun i => bif Nat.beq i 2 then [40] else bif Nat.beq i 0 then [28] else [], wr := fun i => bif Nat.beq i 2 then [2, 9, 10, 11, 12, 13, 40, 41, 42, 43, 44, 45, 46, 47, 48, 49, 50, 51, 52, 53, 54, 55, 56, 57, 58, 59, 60, 61, 62, 63, 64] else bif Nat.beq i 0 then [2, 6, 7, 8, 9, 10, 11, 12, 13, 14, 15, 16, 17, 28, 29, 30, 31, 32, 33, 34, 35, 36, 37, 38, 39, 40, 41, 42, 43, 44, 45, 46, 47, 48, 49, 50, 51, 52, 53, 54, 55, 56, 57, 58, 59, 60, 61, 62, 63, 64, 65, 66, 67, 68, 69, 70, 71, 72, 73, 74, 75, 76, 77, 78, 79, 80, 81, 82, 83, 84, 85, 86, 87, 88, 89, 90, 91, 92, 93] else [], told := fun i => [] }
theorem obj_Well_eq (t0 : Value) (w : World) (K : K1) : reads Tryd.prog obj_Well_ann Tryd.f13 #[t0] w K = obj_Well K t0 w := by kernel_rfl
theorem obj_Well_of {t0 : Value} {w : World} {K : K1} (h : obj_Well K t0 w) : Yld Tryd.prog n_obj_Well #[t0] w K :=
  yld_of mixed obj_Well_ann Tryd.func13 (by kernel_rfl) (obj_Well_eq t0 w K) h

/-! loam/obj.SetPtr: function 14 -/
def obj_SetPtr (K : K1) (t0 t1 t2 t3 : Value) (w : World) : Prop :=
 xCall Tryd.prog (fnv 38) [t0, t1] w fun t14 w =>
 xExtract Tryd.prog t14 0 w fun t15 w =>
 xExtract Tryd.prog t14 1 w fun t16 w =>
 xAlloc Tryd.prog 34 w fun t9 w =>
 xStore Tryd.prog 34 t9 t15 w fun _ w =>
 xBin Tryd.prog .neq 25 false t16 true (.int .i64 0) w fun t19 w =>
 xIf t19
 (K t16 w)
 (xBin Tryd.prog .lss 3 false t2 true (.int .i64 0) w fun t23 w =>
 xGuard t23 false (fun w K => K t2 w) w fun t25 w =>
 xGuard t23 false (fun w K => xFieldAddr Tryd.prog 34 t9 0 w K) w fun t26 w =>
 xGuard t23 false (fun w K => xLoad Tryd.prog 3 t26 w K) w fun t27 w =>
 xGuard t23 false (fun w K => xBin Tryd.prog .geq 3 false t25 false t27 w K) w fun t28 w =>
 xPick t23 (.bool true) t28 w fun t29 w =>
 xGuard t29 false (fun w K => K t3 w) w fun t31 w =>
 xGuard t29 false (fun w K => xBin Tryd.prog .neq 3 false t31 true (.int .i64 (-1)) w K) w fun t32 w =>
 xGuard t29 false (fun w K => K t32 w) w fun t33 w =>
 xGuard t33 true (fun w K => K t0 w) w fun t34 w =>
 xGuard t33 true (fun w K => K t3 w) w fun t35 w =>
 xGuard t33 true (fun w K => xCall Tryd.prog (fnv 39) [t34, t35] w K) w fun t36 w =>
 xGuard t33 true (fun w K => xUn Tryd.prog .not t36 w K) w fun t37 w =>
 xGuard t29 false (fun w K => xPick t33 t37 (.bool false) w K) w fun t38 w =>
 xPick t29 (.bool true) t38 w fun t39 w =>
 xIf t39
 (K (.int .i64 1) w)
 (xNilCheck t0 w fun t41 w =>
 xFieldAddr Tryd.prog 65 t41 0 w fun t42 w =>
 xLoad Tryd.prog 24 t42 w fun t43 w =>
 xBin Tryd.prog .add 3 false t1 true (.int .i64 1) w fun t45 w =>
 xBin Tryd.prog .add 3 false t45 false t2 w fun t47 w =>
 xBin Tryd.prog .add 3 false t3 true (.int .i64 1) w fun t49 w =>
 xConv Tryd.prog 3 69 t49 w fun t50 w =>
 xCall Tryd.prog (fnv 29) [t43, t47, t50] w fun t51 w =>
 K t51 w))
abbrev n_obj_SetPtr : Nat := 14
def obj_SetPtr_ann : Ann := { loop := fun i => [], wr := fun i => [], told := fun i => [] }
theorem obj_SetPtr_eq (t0 t1 t2 t3 : Value) (w : World) (K : K1) : reads Tryd.prog obj_SetPtr_ann Tryd.f14 #[t0, t1, t2, t3] w K = obj_SetPtr K t0 t1 t2 t3 w := by kernel_rfl
theorem obj_SetPtr_of {t0 t1 t2 t3 : Value} {w : World} {K : K1} (h : obj_SetPtr K t0 t1 t2 t3 w) : Yld Tryd.prog n_obj_SetPtr #[t0, t1, t2, t3] w K :=
  yld_of mixed obj_SetPtr_ann Tryd.func14 (by kernel_rfl) (obj_SetPtr_eq t0 t1 t2 t3 w K) h

/-! loam/obj.Ptr: function 15 -/
def obj_Ptr (K : K1) (t0 t1 t2 : Value) (w : World) : Prop :=
 xCall Tryd.prog (fnv 38) [t0, t1] w fun t15 w =>
 xExtract Tryd.prog t15 0 w fun t16 w =>
 xExtract Tryd.prog t15 1 w fun t17 w =>
 xAlloc Tryd.prog 34 w fun t8 w =>
 xStore Tryd.prog 34 t8 t16 w fun _ w =>
 xBin Tryd.prog .neq 25 false t17 true (.int .i64 0) w fun t20 w =>
 xIf t20
 (K (.tuple #[(.int .i64 0), t17]) w)
 (xBin Tryd.prog .lss 3 false t2 true (.int .i64 0) w fun t24 w =>
 xGuard t24 false (fun w K => K t2 w) w fun t26 w =>
 xGuard t24 false (fun w K => xFieldAddr Tryd.prog 34 t8 0 w K) w fun t27 w =>
 xGuard t24 false (fun w K => xLoad Tryd.prog 3 t27 w K) w fun t28 w =>
 xGuard t24 false (fun w K => xBin Tryd.prog .geq 3 false t26 false t28 w K) w fun t29 w =>
 xPick t24 (.bool true) t29 w fun t30 w =>
 xIf t30
 (K (.tuple #[(.int .i64 0), (.int .i64 1)]) w)
 (xNilCheck t0 w fun t33 w =>
 xFieldAddr Tryd.prog 65 t33 0 w fun t34 w =>
 xLoad Tryd.prog 24 t34 w fun t35 w =>
 xBin Tryd.prog .add 3 false t1 true (.int .i64 1) w fun t37 w =>
 xBin Tryd.prog .add 3 false t37 false t2 w fun t39 w =>
 xCall Tryd.prog (fnv 40) [t35, t39] w fun t40 w =>
 xExtract Tryd.prog t40 0 w fun t41 w =>
 xExtract Tryd.prog t40 1 w fun t42 w =>
 xBin Tryd.prog .eql 69 false t41 true (c64 0) w fun t45 w =>
 xIf t45
 (K (.tuple #[(.int .i64 (-1)), (.int .i64 0)]) w)
 (xBin Tryd.prog .gtr 69 false t41 true (c64 8192) w fun t48 w =>
 xGuard t48 false (fun w K => K t0 w) w fun t50 w =>
 xGuard t48 false (fun w K => K t41 w) w fun t51 w =>
 xGuard t48 false (fun w K => xConv Tryd.prog 69 3 t51 w K) w fun t52 w =>
 xGuard t48 false (fun w K => xBin Tryd.prog .sub 3 false t52 true (.int .i64 1) w K) w fun t53 w =>
 xGuard t48 false (fun w K => xCall Tryd.prog (fnv 39) [t50, t53] w K) w fun t54 w =>
 xGuard t48 false (fun w K => xUn Tryd.prog .not t54 w K) w fun t55 w =>
 xPick t48 (.bool true) t55 w fun t56 w =>
 xIf t56
 (K (.tuple #[(.int .i64 0), (.int .i64 2)]) w)
 (xConv Tryd.prog 69 3 t41 w fun t58 w =>
 xBin Tryd.prog .sub 3 false t58 true (.int .i64 1) w fun t59 w =>
 K (.tuple #[t59, (.int .i64 0)]) w))))
abbrev n_obj_Ptr : Nat := 15
def obj_Ptr_ann : Ann := { loop := fun i => [], wr := fun i => [], told := fun i => [] }
theorem obj_Ptr_eq (t0 t1 t2 : Value) (w : World) (K : K1) : reads Tryd.prog obj_Ptr_ann Tryd.f15 #[t0, t1, t2] w K = obj_Ptr K t0 t1 t2 w := by kernel_rfl
theorem obj_Ptr_of {t0 t1 t2 : Value} {w : World} {K : K1} (h : obj_Ptr K t0 t1 t2 w) : Yld Tryd.prog n_obj_Ptr #[t0, t1, t2] w K :=
  yld_of mixed obj_Ptr_ann Tryd.func15 (by kernel_rfl) (obj_Ptr_eq t0 t1 t2 w K) h

/-! loam/loamlaw16.To: function 16 -/
def loamlaw16_To (K : K1) (t0 t1 t2 t3 : Value) (w : World) : Prop :=
 xCall Tryd.prog (fnv 42) [t0] w fun t13 w =>
 xCall Tryd.prog (fnv 41) [t13, t1, t2, t3] w fun t17 w =>
 xExtract Tryd.prog t17 0 w fun t18 w =>
 xExtract Tryd.prog t17 1 w fun t19 w =>
 xBin Tryd.prog .neq 3 false t19 true (.int .i64 0) w fun t21 w =>
 xIf t21
 (K (.pointer none) w)
 (K t18 w)
abbrev n_loamlaw16_To : Nat := 16
def loamlaw16_To_ann : Ann := { loop := fun i => [], wr := fun i => [], told := fun i => [] }
theorem loamlaw16_To_eq (t0 t1 t2 t3 : Value) (w : World) (K : K1) : reads Tryd.prog loamlaw16_To_ann Tryd.f16 #[t0, t1, t2, t3] w K = loamlaw16_To K t0 t1 t2 t3 w := by kernel_rfl
theorem loamlaw16_To_of {t0 t1 t2 t3 : Value} {w : World} {K : K1} (h : loamlaw16_To K t0 t1 t2 t3 w) : Yld Tryd.prog n_loamlaw16_To #[t0, t1, t2, t3] w K :=
  yld_of mixed loamlaw16_To_ann Tryd.func16 (by kernel_rfl) (loamlaw16_To_eq t0 t1 t2 t3 w K) h

/-! (*loam/loamref14.Space).Well: function 17 -/
def loamref14_Space_Well_l3 (K : K1) (nxt0 : List Value → World → Prop) (nxt2 : List Value → World → Prop) (t0 t3 t5 t6 t8 : Value) (w : World) : Prop :=
 xFieldAddr Tryd.prog 92 t6 0 w fun t37_1 w =>
 xLoad Tryd.prog 3 t37_1 w fun t38_1 w =>
 xBin Tryd.prog .lss 3 false t8 false t38_1 w fun t39_1 w =>
 xIf t39_1
 (xSq w.drew fun w =>
 xPur w (fun w K => K t3 w) fun t42_1 =>
 xPur w (fun w K => K t0 w) fun t43_1 =>
 xPur w (fun w K => xNilCheck t43_1 w K) fun t44_1 =>
 xPur w (fun w K => xFieldAddr Tryd.prog 48 t44_1 0 w K) fun t45_1 =>
 xRd w (fun K => xLoad Tryd.prog 44 t45_1 w K) fun t46_1 =>
 xPur w (fun w K => K t3 w) fun t47_1 =>
 xPur w (fun w K => K t5 w) fun t48_1 =>
 xPur w (fun w K => xIndexAddr Tryd.prog 40 t47_1 t48_1 w K) fun t49_1 =>
 xRd w (fun K => xLoad Tryd.prog 3 t49_1 w K) fun t50_1 =>
 xPur w (fun w K => xBin Tryd.prog .add 3 false t50_1 true (.int .i64 1) w K) fun t51_1 =>
 xPur w (fun w K => K t8 w) fun t52_1 =>
 xPur w (fun w K => xBin Tryd.prog .add 3 false t51_1 false t52_1 w K) fun t53_1 =>
 xPur w (fun w K => xIndexAddr Tryd.prog 44 t46_1 t53_1 w K) fun t54_1 =>
 xRd w (fun K => xLoad Tryd.prog 69 t54_1 w K) fun t55_1 =>
 xCall Tryd.prog (fnv 45) [t42_1, t55_1] w fun t56_1 w =>
 xPur w (fun w K => xUn Tryd.prog .not t56_1 w K) fun t57_1 =>
 xIf t57_1
 (K (.int .i64 2) w)
 (xBin Tryd.prog .add 3 false t8 true (.int .i64 1) w fun t41_1 w =>
 nxt2 [t41_1] w))
 (xSq w.drew fun w =>
 xPur w (fun w K => K t0 w) fun t58_1 =>
 xPur w (fun w K => K t3 w) fun t59_1 =>
 xPur w (fun w K => K t5 w) fun t60_1 =>
 xPur w (fun w K => xIndexAddr Tryd.prog 40 t59_1 t60_1 w K) fun t61_1 =>
 xRd w (fun K => xLoad Tryd.prog 3 t61_1 w K) fun t62_1 =>
 xRd w (fun K => xLoad Tryd.prog 92 t6 w K) fun t63_1 =>
 xCall Tryd.prog (fnv 46) [t58_1, t62_1, t63_1] w fun t64_1 w =>
 xIf t64_1
 (K (.int .i64 2) w)
 (xBin Tryd.prog .add 3 false t5 true (.int .i64 1) w fun t21_1 w =>
 nxt0 [t21_1] w))
def loamref14_Space_Well_j1 (K : K1) (nxt0 : List Value → World → Prop) (t0 t3 t5 t6 : Value) (w : World) : Prop :=
 xLoop [(.int .i64 0)] w [8] fun u w nxt2 =>
 loamref14_Space_Well_l3 K nxt0 nxt2 t0 t3 t5 t6 (u 8) w
def loamref14_Space_Well_l1 (K : K1) (nxt0 : List Value → World → Prop) (t0 t3 t5 : Value) (w : World) : Prop :=
 xBuiltin Tryd.prog .len #[40] 3 [false] [t3] w fun t18_1 w =>
 xBin Tryd.prog .lss 3 false t5 false t18_1 w fun t19_1 w =>
 xIf t19_1
 (xSq w.drew fun w =>
 xPur w (fun w K => K t0 w) fun t23_1 =>
 xPur w (fun w K => xNilCheck t23_1 w K) fun t24_1 =>
 xPur w (fun w K => xFieldAddr Tryd.prog 48 t24_1 0 w K) fun t25_1 =>
 xRd w (fun K => xLoad Tryd.prog 44 t25_1 w K) fun t26_1 =>
 xPur w (fun w K => K t3 w) fun t27_1 =>
 xPur w (fun w K => K t5 w) fun t28_1 =>
 xPur w (fun w K => xIndexAddr Tryd.prog 40 t27_1 t28_1 w K) fun t29_1 =>
 xRd w (fun K => xLoad Tryd.prog 3 t29_1 w K) fun t30_1 =>
 xPur w (fun w K => xIndexAddr Tryd.prog 44 t26_1 t30_1 w K) fun t31_1 =>
 xRd w (fun K => xLoad Tryd.prog 69 t31_1 w K) fun t32_1 =>
 xAlt
 (xCall Tryd.prog (fnv 44) [t32_1] w fun t33_1 w =>
 xPur w (fun w K => K t33_1 w) fun t22_1 =>
 xPur w (fun w K => xExtract Tryd.prog t22_1 0 w K) fun t34_1 =>
 xPur w (fun w K => xExtract Tryd.prog t22_1 1 w K) fun t35_1 =>
 xAlloc Tryd.prog 92 w fun t6_1 w =>
 xStore Tryd.prog 92 t6_1 t34_1 w fun _x15 w =>
 xPur w (fun w K => K t35_1 w) fun t7_1 =>
 loamref14_Space_Well_j1 K nxt0 t0 t3 t5 t6_1 w)
 (xAlloc Tryd.prog 92 w fun t6_1 w =>
 xRe w (fun K => xLoad Tryd.prog 44 t25_1 w K) t26_1 (
 xRe w (fun K => xLoad Tryd.prog 3 t29_1 w K) t30_1 (
 xRe w (fun K => xLoad Tryd.prog 69 t31_1 w K) t32_1 (
 xCall Tryd.prog (fnv 44) [t32_1] w fun t33_1 w =>
 xPur w (fun w K => K t33_1 w) fun t22_1 =>
 xPur w (fun w K => xExtract Tryd.prog t22_1 0 w K) fun t34_1 =>
 xPur w (fun w K => xExtract Tryd.prog t22_1 1 w K) fun t35_1 =>
 xStore Tryd.prog 92 t6_1 t34_1 w fun _x15 w =>
 xPur w (fun w K => K t35_1 w) fun t7_1 =>
 loamref14_Space_Well_j1 K nxt0 t0 t3 t5 t6_1 w)))))
 (K (.int .i64 0) w)
def loamref14_Space_Well (K : K1) (t0 : Value) (w : World) : Prop :=
 xCall Tryd.prog (fnv 43) [t0] w fun t11 w =>
 xExtract Tryd.prog t11 0 w fun t12 w =>
 xExtract Tryd.prog t11 1 w fun t13 w =>
 xUn Tryd.prog .not t13 w fun t15 w =>
 xIf t15
 (K (.int .i64 2) w)
 (xLoop [(.int .i64 0)] w [5] fun u w nxt0 =>
 loamref14_Space_Well_l1 K nxt0 t0 t12 (u 5) w)
abbrev n_loamref14_Space_Well : Nat := 17
def loamref14_Space_Well_ann : Ann := { loop := fun i => bif Nat.beq i 2 then [8] else bif Nat.beq i 0 then [5] else [], wr := fun i => bif Nat.beq i 2 then [2, 8, 36, 37, 38, 39, 40, 41, 42, 43, 44, 45, 46, 47, 48, 49, 50, 51, 52, 53, 54, 55, 56, 57] else bif Nat.beq i 0 then [2, 5, 6, 7, 8, 16, 17, 18, 19, 20, 21, 22, 23, 24, 25, 26, 27, 28, 29, 30, 31, 32, 33, 34, 35, 36, 37, 38, 39, 40, 41, 42, 43, 44, 45, 46, 47, 48, 49, 50, 51, 52, 53, 54, 55, 56, 57, 58, 59, 60, 61, 62, 63, 64] else [], told := fun i => bif Nat.beq i 7 then [(0, false, ⟨0, 8388609, some 23⟩), (1, false, ⟨1, 25165824, some 24⟩), (2, false, ⟨2, 50331648, some 25⟩), (3, false, ⟨4, 100663296, some 26⟩), (4, false, ⟨0, 134217736, some 27⟩), (5, false, ⟨0, 268435488, some 28⟩), (6, false, ⟨48, 939524096, some 29⟩), (7, false, ⟨64, 1610612736, some 30⟩), (8, false, ⟨136, 3288334336, some 31⟩), (9, false, ⟨256, 6442450944, some 32⟩), (10, false, ⟨512, 12884901888, some 33⟩), (11, false, ⟨1024, 8594128896, some 22⟩), (12, false, ⟨2048, 17184063488, some 34⟩), (13, false, ⟨2048, 34363932672, some 35⟩), (14, false, ⟨0, 64, some 6⟩), (15, false, ⟨24575, 17179869248, none⟩), (16, false, ⟨65535, 34359738496, some 7⟩)] else bif Nat.beq i 11 then [(0, false, ⟨0, 4398046511112, some 42⟩), (1, false, ⟨0, 8796093022209, some 43⟩), (2, false, ⟨2, 26388279066624, some 44⟩), (3, false, ⟨4, 52776558133248, some 45⟩), (4, false, ⟨8, 105553116266496, some 46⟩), (5, false, ⟨0, 140737488355336, some 47⟩), (6, false, ⟨0, 281474976710688, some 48⟩), (7, false, ⟨96, 985162418487296, some 49⟩), (8, false, ⟨128, 1688849860263936, some 50⟩), (9, false, ⟨256, 3377699720527872, some 51⟩), (10, false, ⟨0, 4503599627370752, some 52⟩), (11, false, ⟨1536, 15762598695796736, some 53⟩), (12, false, ⟨2064, 27091966508400640, some 54⟩), (13, false, ⟨4096, 54043195528445952, some 55⟩), (14, false, ⟨8193, 108090789103403008, some 56⟩), (15, false, ⟨16384, 216172782113783808, some 57⟩)] else bif Nat.beq i 13 then [(0, false, ⟨0, 288230376151711745, some 58⟩), (1, false, ⟨0, 576460752303423496, some 59⟩), (2, false, ⟨0, 1152921504606847008, some 60⟩), (3, false, ⟨6, 4035225266123964416, some 61⟩), (4, false, ⟨8, 6917529027641081856, some 62⟩), (5, false, ⟨0, 9223372036854775872, some 63⟩), (6, false, ⟨49, 32570032505143427072, some 64⟩)] else [], sq := fun i => bif Nat.beq i 7 then some (.rd true 0 (.rd true 1 (.rd true 2 (.rd false 3 (.rd true 4 (.rd true 5 (.rd true 6 (.rd false 7 (.rd true 8 (.rd false 9 (.alt (.ef 10 [] (.rd true 11 (.rd true 12 (.rd true 13 (.ef 14 [] (.ef 15 [] (.rd true 16 .done))))))) (.ef 14 [3, 7, 9] (.ef 10 [] (.rd true 11 (.rd true 12 (.rd true 13 (.ef 15 [] (.rd true 16 .done)))))))))))))))))) else bif Nat.beq i 11 then some (.rd true 0 (.rd true 1 (.rd true 2 (.rd true 3 (.rd false 4 (.rd true 5 (.rd true 6 (.rd true 7 (.rd false 8 (.rd true 9 (.rd true 10 (.rd true 11 (.rd true 12 (.rd false 13 (.ef 14 [] (.rd true 15 .done)))))))))))))))) else bif Nat.beq i 13 then some (.rd true 0 (.rd true 1 (.rd true 2 (.rd true 3 (.rd false 4 (.rd false 5 (.ef 6 [] .done))))))) else none }
theorem loamref14_Space_Well_eq (t0 : Value) (w : World) (K : K1) : reads Tryd.prog loamref14_Space_Well_ann Tryd.f17 #[t0] w K = loamref14_Space_Well K t0 w := by kernel_rfl
theorem loamref14_Space_Well_of {t0 : Value} {w : World} {K : K1} (h : loamref14_Space_Well K t0 w) : Yld Tryd.prog n_loamref14_Space_Well #[t0] w K :=
  yld_of mixed loamref14_Space_Well_ann Tryd.func17 (by kernel_rfl) (loamref14_Space_Well_eq t0 w K) h

/-! (*loam/loamref14.Space).Ptr: function 18 -/
def loamref14_Space_Ptr (K : K1) (t0 t1 t2 : Value) (w : World) : Prop :=
 xCall Tryd.prog (fnv 47) [t0, t1] w fun t14 w =>
 xExtract Tryd.prog t14 0 w fun t15 w =>
 xExtract Tryd.prog t14 1 w fun t16 w =>
 xAlloc Tryd.prog 92 w fun t8 w =>
 xStore Tryd.prog 92 t8 t15 w fun _ w =>
 xBin Tryd.prog .neq 3 false t16 true (.int .i64 0) w fun t18 w =>
 xIf t18
 (K (.tuple #[(.int .i64 0), t16]) w)
 (xBin Tryd.prog .lss 3 false t2 true (.int .i64 0) w fun t21 w =>
 xGuard t21 false (fun w K => K t2 w) w fun t23 w =>
 xGuard t21 false (fun w K => xFieldAddr Tryd.prog 92 t8 0 w K) w fun t24 w =>
 xGuard t21 false (fun w K => xLoad Tryd.prog 3 t24 w K) w fun t25 w =>
 xGuard t21 false (fun w K => xBin Tryd.prog .geq 3 false t23 false t25 w K) w fun t26 w =>
 xPick t21 (.bool true) t26 w fun t27 w =>
 xIf t27
 (K (.tuple #[(.int .i64 0), (.int .i64 1)]) w)
 (xNilCheck t0 w fun t29 w =>
 xFieldAddr Tryd.prog 48 t29 0 w fun t30 w =>
 xLoad Tryd.prog 44 t30 w fun t31 w =>
 xBin Tryd.prog .add 3 false t1 true (.int .i64 1) w fun t33 w =>
 xBin Tryd.prog .add 3 false t33 false t2 w fun t35 w =>
 xIndexAddr Tryd.prog 44 t31 t35 w fun t36 w =>
 xLoad Tryd.prog 69 t36 w fun t37 w =>
 xBin Tryd.prog .eql 69 false t37 true (c64 0) w fun t39 w =>
 xIf t39
 (K (.tuple #[(.int .i64 (-1)), (.int .i64 0)]) w)
 (xBin Tryd.prog .sub 69 false t37 true (c64 1) w fun t41 w =>
 xBin Tryd.prog .geq 69 false t41 true (c64 1073741824) w fun t42 w =>
 xGuard t42 false (fun w K => K t0 w) w fun t44 w =>
 xGuard t42 false (fun w K => K t37 w) w fun t45 w =>
 xGuard t42 false (fun w K => xBin Tryd.prog .sub 69 false t45 true (c64 1) w K) w fun t46 w =>
 xGuard t42 false (fun w K => xConv Tryd.prog 69 3 t46 w K) w fun t47 w =>
 xGuard t42 false (fun w K => xCall Tryd.prog (fnv 48) [t44, t47] w K) w fun t48 w =>
 xGuard t42 false (fun w K => xUn Tryd.prog .not t48 w K) w fun t49 w =>
 xPick t42 (.bool true) t49 w fun t50 w =>
 xIf t50
 (K (.tuple #[(.int .i64 0), (.int .i64 2)]) w)
 (xBin Tryd.prog .sub 69 false t37 true (c64 1) w fun t52 w =>
 xConv Tryd.prog 69 3 t52 w fun t53 w =>
 K (.tuple #[t53, (.int .i64 0)]) w))))
abbrev n_loamref14_Space_Ptr : Nat := 18
def loamref14_Space_Ptr_ann : Ann := { loop := fun i => [], wr := fun i => [], told := fun i => [] }
theorem loamref14_Space_Ptr_eq (t0 t1 t2 : Value) (w : World) (K : K1) : reads Tryd.prog loamref14_Space_Ptr_ann Tryd.f18 #[t0, t1, t2] w K = loamref14_Space_Ptr K t0 t1 t2 w := by kernel_rfl
theorem loamref14_Space_Ptr_of {t0 t1 t2 : Value} {w : World} {K : K1} (h : loamref14_Space_Ptr K t0 t1 t2 w) : Yld Tryd.prog n_loamref14_Space_Ptr #[t0, t1, t2] w K :=
  yld_of mixed loamref14_Space_Ptr_ann Tryd.func18 (by kernel_rfl) (loamref14_Space_Ptr_eq t0 t1 t2 w K) h

/-! (*loam/loamref14.Space).SetPtr: function 19 -/
def loamref14_Space_SetPtr (K : K1) (t0 t1 t2 t3 : Value) (w : World) : Prop :=
 xCall Tryd.prog (fnv 47) [t0, t1] w fun t15 w =>
 xExtract Tryd.prog t15 0 w fun t16 w =>
 xExtract Tryd.prog t15 1 w fun t17 w =>
 xAlloc Tryd.prog 92 w fun t9 w =>
 xStore Tryd.prog 92 t9 t16 w fun _ w =>
 xBin Tryd.prog .neq 3 false t17 true (.int .i64 0) w fun t19 w =>
 xIf t19
 (K t17 w)
 (xBin Tryd.prog .lss 3 false t2 true (.int .i64 0) w fun t22 w =>
 xGuard t22 false (fun w K => K t2 w) w fun t24 w =>
 xGuard t22 false (fun w K => xFieldAddr Tryd.prog 92 t9 0 w K) w fun t25 w =>
 xGuard t22 false (fun w K => xLoad Tryd.prog 3 t25 w K) w fun t26 w =>
 xGuard t22 false (fun w K => xBin Tryd.prog .geq 3 false t24 false t26 w K) w fun t27 w =>
 xPick t22 (.bool true) t27 w fun t28 w =>
 xGuard t28 false (fun w K => K t3 w) w fun t30 w =>
 xGuard t28 false (fun w K => xBin Tryd.prog .neq 3 false t30 true (.int .i64 (-1)) w K) w fun t31 w =>
 xGuard t28 false (fun w K => K t31 w) w fun t32 w =>
 xGuard t32 true (fun w K => K t0 w) w fun t33 w =>
 xGuard t32 true (fun w K => K t3 w) w fun t34 w =>
 xGuard t32 true (fun w K => xCall Tryd.prog (fnv 48) [t33, t34] w K) w fun t35 w =>
 xGuard t32 true (fun w K => xUn Tryd.prog .not t35 w K) w fun t36 w =>
 xGuard t28 false (fun w K => xPick t32 t36 (.bool false) w K) w fun t37 w =>
 xPick t28 (.bool true) t37 w fun t38 w =>
 xIf t38
 (K (.int .i64 1) w)
 (xBuildSlice Tryd.prog 44 0 [] w fun t39 w =>
 xNilCheck t0 w fun t41 w =>
 xFieldAddr Tryd.prog 48 t41 0 w fun t42 w =>
 xLoad Tryd.prog 44 t42 w fun t43 w =>
 xBuiltin Tryd.prog .append #[44, 44] 44 [false, false] [t39, t43] w fun t44 w =>
 xBin Tryd.prog .add 3 false t1 true (.int .i64 1) w fun t47 w =>
 xBin Tryd.prog .add 3 false t47 false t2 w fun t49 w =>
 xBin Tryd.prog .add 3 false t3 true (.int .i64 1) w fun t51 w =>
 xConv Tryd.prog 3 69 t51 w fun t52 w =>
 xIndexAddr Tryd.prog 44 t44 t49 w fun t53 w =>
 xStore Tryd.prog 69 t53 t52 w fun _ w =>
 xNilCheck t0 w fun t56 w =>
 xFieldAddr Tryd.prog 48 t56 0 w fun t57 w =>
 xStore Tryd.prog 44 t57 t44 w fun _ w =>
 K (.int .i64 0) w))
abbrev n_loamref14_Space_SetPtr : Nat := 19
def loamref14_Space_SetPtr_ann : Ann := { loop := fun i => [], wr := fun i => [], told := fun i => [] }
theorem loamref14_Space_SetPtr_eq (t0 t1 t2 t3 : Value) (w : World) (K : K1) : reads Tryd.prog loamref14_Space_SetPtr_ann Tryd.f19 #[t0, t1, t2, t3] w K = loamref14_Space_SetPtr K t0 t1 t2 t3 w := by kernel_rfl
theorem loamref14_Space_SetPtr_of {t0 t1 t2 t3 : Value} {w : World} {K : K1} (h : loamref14_Space_SetPtr K t0 t1 t2 t3 w) : Yld Tryd.prog n_loamref14_Space_SetPtr #[t0, t1, t2, t3] w K :=
  yld_of mixed loamref14_Space_SetPtr_ann Tryd.func19 (by kernel_rfl) (loamref14_Space_SetPtr_eq t0 t1 t2 t3 w K) h

/-! (*loam/loamref14.Space).Read: function 20 -/
def loamref14_Space_Read (K : K1) (t0 t1 t2 t3 : Value) (w : World) : Prop :=
 xCall Tryd.prog (fnv 47) [t0, t1] w fun t15 w =>
 xExtract Tryd.prog t15 0 w fun t16 w =>
 xExtract Tryd.prog t15 1 w fun t17 w =>
 xAlloc Tryd.prog 92 w fun t10 w =>
 xStore Tryd.prog 92 t10 t16 w fun _ w =>
 xBin Tryd.prog .neq 3 false t17 true (.int .i64 0) w fun t19 w =>
 xIf t19
 (K (.tuple #[(.slice none 0 0), t17]) w)
 (xBin Tryd.prog .lss 3 false t2 true (.int .i64 0) w fun t22 w =>
 xGuard t22 false (fun w K => K t3 w) w fun t24 w =>
 xGuard t22 false (fun w K => xBin Tryd.prog .lss 3 false t24 true (.int .i64 0) w K) w fun t25 w =>
 xPick t22 (.bool true) t25 w fun t26 w =>
 xGuard t26 false (fun w K => K t2 w) w fun t28 w =>
 xGuard t26 false (fun w K => xFieldAddr Tryd.prog 92 t10 1 w K) w fun t29 w =>
 xGuard t26 false (fun w K => xLoad Tryd.prog 3 t29 w K) w fun t30 w =>
 xGuard t26 false (fun w K => xBin Tryd.prog .gtr 3 false t28 false t30 w K) w fun t31 w =>
 xPick t26 (.bool true) t31 w fun t32 w =>
 xGuard t32 false (fun w K => K t3 w) w fun t34 w =>
 xGuard t32 false (fun w K => xFieldAddr Tryd.prog 92 t10 1 w K) w fun t35 w =>
 xGuard t32 false (fun w K => xLoad Tryd.prog 3 t35 w K) w fun t36 w =>
 xGuard t32 false (fun w K => K t2 w) w fun t37 w =>
 xGuard t32 false (fun w K => xBin Tryd.prog .sub 3 false t36 false t37 w K) w fun t38 w =>
 xGuard t32 false (fun w K => xBin Tryd.prog .gtr 3 false t34 false t38 w K) w fun t39 w =>
 xPick t32 (.bool true) t39 w fun t40 w =>
 xIf t40
 (K (.tuple #[(.slice none 0 0), (.int .i64 1)]) w)
 (xSq w.drew fun w =>
 xPur w (fun w K => K t0 w) fun t41 =>
 xPur w (fun w K => xNilCheck t41 w K) fun t42 =>
 xPur w (fun w K => xFieldAddr Tryd.prog 48 t42 0 w K) fun t43 =>
 xRd w (fun K => xLoad Tryd.prog 44 t43 w K) fun t44 =>
 xPur w (fun w K => K t1 w) fun t45 =>
 xPur w (fun w K => xBin Tryd.prog .add 3 false t45 true (.int .i64 1) w K) fun t46 =>
 xPur w (fun w K => xFieldAddr Tryd.prog 92 t10 0 w K) fun t47 =>
 xRd w (fun K => xLoad Tryd.prog 3 t47 w K) fun t48 =>
 xPur w (fun w K => xBin Tryd.prog .add 3 false t46 false t48 w K) fun t49 =>
 xPur w (fun w K => xBin Tryd.prog .mul 3 true (.int .i64 8) false t49 w K) fun t50 =>
 xPur w (fun w K => K t2 w) fun t51 =>
 xPur w (fun w K => xBin Tryd.prog .add 3 false t50 false t51 w K) fun t52 =>
 xPur w (fun w K => K t3 w) fun t53 =>
 xCall Tryd.prog (fnv 49) [t44, t52, t53] w fun t54 w =>
 xPur w (fun w K => K t54 w) fun t8 =>
 xPur w (fun w K => K (.int .i64 0) w) fun t9 =>
 K (.tuple #[t8, t9]) w))
abbrev n_loamref14_Space_Read : Nat := 20
def loamref14_Space_Read_ann : Ann := { loop := fun i => [], wr := fun i => [], told := fun i => bif Nat.beq i 6 then [(0, false, ⟨0, 2199023255553, some 41⟩), (1, false, ⟨1, 6597069766656, some 42⟩), (2, false, ⟨2, 13194139533312, some 43⟩), (3, false, ⟨4, 26388279066624, some 44⟩), (4, false, ⟨0, 35184372088834, some 45⟩), (5, false, ⟨16, 105553116266496, some 46⟩), (6, false, ⟨0, 140737488356352, some 47⟩), (7, false, ⟨64, 422212465065984, some 48⟩), (8, false, ⟨160, 914793674309632, some 49⟩), (9, false, ⟨256, 1688849860263936, some 50⟩), (10, false, ⟨0, 2251799813685252, some 51⟩), (11, false, ⟨1536, 7881299347898368, some 52⟩), (12, false, ⟨0, 9007199254741000, some 53⟩), (13, false, ⟨6152, 31542789577637888, some 54⟩), (14, false, ⟨16383, 18014398509482240, some 8⟩), (15, false, ⟨32767, 512, some 9⟩)] else [], sq := fun i => bif Nat.beq i 6 then some (.rd true 0 (.rd true 1 (.rd true 2 (.rd false 3 (.rd true 4 (.rd true 5 (.rd true 6 (.rd false 7 (.rd true 8 (.rd true 9 (.rd true 10 (.rd true 11 (.rd true 12 (.ef 13 [] (.rd true 14 (.rd true 15 .done)))))))))))))))) else none }
theorem loamref14_Space_Read_eq (t0 t1 t2 t3 : Value) (w : World) (K : K1) : reads Tryd.prog loamref14_Space_Read_ann Tryd.f20 #[t0, t1, t2, t3] w K = loamref14_Space_Read K t0 t1 t2 t3 w := by kernel_rfl
theorem loamref14_Space_Read_of {t0 t1 t2 t3 : Value} {w : World} {K : K1} (h : loamref14_Space_Read K t0 t1 t2 t3 w) : Yld Tryd.prog n_loamref14_Space_Read #[t0, t1, t2, t3] w K :=
  yld_of mixed loamref14_Space_Read_ann Tryd.func20 (by kernel_rfl) (loamref14_Space_Read_eq t0 t1 t2 t3 w K) h

/-! (*loam/loamref14.Space).Write: function 21 -/
def loamref14_Space_Write (K : K1) (t0 t1 t2 t3 : Value) (w : World) : Prop :=
 xCall Tryd.prog (fnv 47) [t0, t1] w fun t14 w =>
 xExtract Tryd.prog t14 0 w fun t15 w =>
 xExtract Tryd.prog t14 1 w fun t16 w =>
 xAlloc Tryd.prog 92 w fun t9 w =>
 xStore Tryd.prog 92 t9 t15 w fun _ w =>
 xBin Tryd.prog .neq 3 false t16 true (.int .i64 0) w fun t18 w =>
 xIf t18
 (K t16 w)
 (xBin Tryd.prog .lss 3 false t2 true (.int .i64 0) w fun t21 w =>
 xGuard t21 false (fun w K => K t2 w) w fun t23 w =>
 xGuard t21 false (fun w K => xFieldAddr Tryd.prog 92 t9 1 w K) w fun t24 w =>
 xGuard t21 false (fun w K => xLoad Tryd.prog 3 t24 w K) w fun t25 w =>
 xGuard t21 false (fun w K => xBin Tryd.prog .gtr 3 false t23 false t25 w K) w fun t26 w =>
 xPick t21 (.bool true) t26 w fun t27 w =>
 xGuard t27 false (fun w K => K t3 w) w fun t29 w =>
 xGuard t27 false (fun w K => xBuiltin Tryd.prog .len #[22] 3 [false] [t29] w K) w fun t30 w =>
 xGuard t27 false (fun w K => xFieldAddr Tryd.prog 92 t9 1 w K) w fun t31 w =>
 xGuard t27 false (fun w K => xLoad Tryd.prog 3 t31 w K) w fun t32 w =>
 xGuard t27 false (fun w K => K t2 w) w fun t33 w =>
 xGuard t27 false (fun w K => xBin Tryd.prog .sub 3 false t32 false t33 w K) w fun t34 w =>
 xGuard t27 false (fun w K => xBin Tryd.prog .gtr 3 false t30 false t34 w K) w fun t35 w =>
 xPick t27 (.bool true) t35 w fun t36 w =>
 xIf t36
 (K (.int .i64 1) w)
 (xSq w.drew fun w =>
 xPur w (fun w K => K t0 w) fun t37 =>
 xPur w (fun w K => K t0 w) fun t38 =>
 xPur w (fun w K => xNilCheck t38 w K) fun t39 =>
 xPur w (fun w K => xFieldAddr Tryd.prog 48 t39 0 w K) fun t40 =>
 xRd w (fun K => xLoad Tryd.prog 44 t40 w K) fun t41 =>
 xPur w (fun w K => K t1 w) fun t42 =>
 xPur w (fun w K => xBin Tryd.prog .add 3 false t42 true (.int .i64 1) w K) fun t43 =>
 xPur w (fun w K => xFieldAddr Tryd.prog 92 t9 0 w K) fun t44 =>
 xRd w (fun K => xLoad Tryd.prog 3 t44 w K) fun t45 =>
 xPur w (fun w K => xBin Tryd.prog .add 3 false t43 false t45 w K) fun t46 =>
 xPur w (fun w K => xBin Tryd.prog .mul 3 true (.int .i64 8) false t46 w K) fun t47 =>
 xPur w (fun w K => K t2 w) fun t48 =>
 xPur w (fun w K => xBin Tryd.prog .add 3 false t47 false t48 w K) fun t49 =>
 xPur w (fun w K => K t3 w) fun t50 =>
 xCall Tryd.prog (fnv 50) [t41, t49, t50] w fun t51 w =>
 xPur w (fun w K => xNilCheck t37 w K) fun t52 =>
 xPur w (fun w K => xFieldAddr Tryd.prog 48 t52 0 w K) fun t53 =>
 xStore Tryd.prog 44 t53 t51 w fun _x17 w =>
 K (.int .i64 0) w))
abbrev n_loamref14_Space_Write : Nat := 21
def loamref14_Space_Write_ann : Ann := { loop := fun i => [], wr := fun i => [], told := fun i => bif Nat.beq i 6 then [(0, false, ⟨0, 137438953473, some 37⟩), (1, false, ⟨0, 274877906945, some 38⟩), (2, false, ⟨2, 824633720832, some 39⟩), (3, false, ⟨4, 1649267441664, some 40⟩), (4, false, ⟨8, 3298534883328, some 41⟩), (5, false, ⟨0, 4398046511106, some 42⟩), (6, false, ⟨32, 13194139533312, some 43⟩), (7, false, ⟨0, 17592186044928, some 44⟩), (8, false, ⟨128, 52776558133248, some 45⟩), (9, false, ⟨320, 114349209288704, some 46⟩), (10, false, ⟨512, 211106232532992, some 47⟩), (11, false, ⟨0, 281474976710660, some 48⟩), (12, false, ⟨3072, 985162418487296, some 49⟩), (13, false, ⟨0, 1125899906842632, some 50⟩), (14, false, ⟨12304, 3942848697204736, some 51⟩), (15, false, ⟨32767, 4503737066323968, some 52⟩), (16, false, ⟨65535, 13510798882111488, some 53⟩), (17, false, ⟨98303, 11258999068426240, none⟩)] else [], sq := fun i => bif Nat.beq i 6 then some (.rd true 0 (.rd true 1 (.rd true 2 (.rd true 3 (.rd false 4 (.rd true 5 (.rd true 6 (.rd true 7 (.rd false 8 (.rd true 9 (.rd true 10 (.rd true 11 (.rd true 12 (.rd true 13 (.ef 14 [] (.rd true 15 (.rd true 16 (.ef 17 [] .done)))))))))))))))))) else none }
theorem loamref14_Space_Write_eq (t0 t1 t2 t3 : Value) (w : World) (K : K1) : reads Tryd.prog loamref14_Space_Write_ann Tryd.f21 #[t0, t1, t2, t3] w K = loamref14_Space_Write K t0 t1 t2 t3 w := by kernel_rfl
theorem loamref14_Space_Write_of {t0 t1 t2 t3 : Value} {w : World} {K : K1} (h : loamref14_Space_Write K t0 t1 t2 t3 w) : Yld Tryd.prog n_loamref14_Space_Write #[t0, t1, t2, t3] w K :=
  yld_of mixed loamref14_Space_Write_ann Tryd.func21 (by kernel_rfl) (loamref14_Space_Write_eq t0 t1 t2 t3 w K) h

/-! loam/loamlaw15.Same: function 22 -/
def loamlaw15_Same_l1 (K : K1) (nxt0 : List Value → World → Prop) (t0 t1 t5 t6 : Value) (w : World) : Prop :=
 xBuiltin Tryd.prog .len #[44] 3 [false] [t5] w fun t55_1 w =>
 xBin Tryd.prog .lss 3 false t6 false t55_1 w fun t56_1 w =>
 xIf t56_1
 (xSq w.drew fun w =>
 xPur w (fun w K => K t5 w) fun t59_1 =>
 xPur w (fun w K => K t6 w) fun t60_1 =>
 xPur w (fun w K => xIndexAddr Tryd.prog 44 t59_1 t60_1 w K) fun t61_1 =>
 xRd w (fun K => xLoad Tryd.prog 69 t61_1 w K) fun t62_1 =>
 xPur w (fun w K => K t1 w) fun t63_1 =>
 xPur w (fun w K => xNilCheck t63_1 w K) fun t64_1 =>
 xPur w (fun w K => xFieldAddr Tryd.prog 48 t64_1 0 w K) fun t65_1 =>
 xRd w (fun K => xLoad Tryd.prog 44 t65_1 w K) fun t66_1 =>
 xPur w (fun w K => K t6 w) fun t67_1 =>
 xPur w (fun w K => xIndexAddr Tryd.prog 44 t66_1 t67_1 w K) fun t68_1 =>
 xRd w (fun K => xLoad Tryd.prog 69 t68_1 w K) fun t69_1 =>
 xPur w (fun w K => xBin Tryd.prog .neq 69 false t62_1 false t69_1 w K) fun t70_1 =>
 xIf t70_1
 (K (.bool false) w)
 (xBin Tryd.prog .add 3 false t6 true (.int .i64 1) w fun t58_1 w =>
 nxt0 [t58_1] w))
 (xSq w.drew fun w =>
 xPur w (fun w K => K t0 w) fun t71 =>
 xPur w (fun w K => K t1 w) fun t73 =>
 xPur w (fun w K => xNilCheck t73 w K) fun t74 =>
 xPur w (fun w K => xFieldAddr Tryd.prog 48 t74 2 w K) fun t75 =>
 xRd w (fun K => xLoad Tryd.prog 3 t75 w K) fun t76 =>
 xPur w (fun w K => K t1 w) fun t77 =>
 xPur w (fun w K => xNilCheck t77 w K) fun t78 =>
 xPur w (fun w K => xFieldAddr Tryd.prog 48 t78 1 w K) fun t79 =>
 xRd w (fun K => xLoad Tryd.prog 3 t79 w K) fun t80 =>
 xPur w (fun w K => xBin Tryd.prog .sub 3 false t76 false t80 w K) fun t81 =>
 xCall Tryd.prog (fnv 52) [t71] w fun t72 w =>
 xRe w (fun K => xLoad Tryd.prog 3 t75 w K) t76 (
 xRe w (fun K => xLoad Tryd.prog 3 t79 w K) t80 (
 xPur w (fun w K => xBin Tryd.prog .eql 3 false t72 false t81 w K) fun t82 =>
 xPur w (fun w K => K t82 w) fun t83 =>
 xPur w (fun w K => xGuard t83 true (fun w K => K t0 w) w K) fun t84 =>
 xPur w (fun w K => xGuard t83 true (fun w K => K t1 w) w K) fun t86 =>
 xPur w (fun w K => xGuard t83 true (fun w K => xNilCheck t86 w K) w K) fun t87 =>
 xPur w (fun w K => xGuard t83 true (fun w K => xFieldAddr Tryd.prog 48 t87 3 w K) w K) fun t88 =>
 xRd w (fun K => xGuard t83 true (fun w K => xLoad Tryd.prog 3 t88 w K) w K) fun t89 =>
 xPur w (fun w K => xGuard t83 true (fun w K => K t1 w) w K) fun t90 =>
 xPur w (fun w K => xGuard t83 true (fun w K => xNilCheck t90 w K) w K) fun t91 =>
 xPur w (fun w K => xGuard t83 true (fun w K => xFieldAddr Tryd.prog 48 t91 2 w K) w K) fun t92 =>
 xRd w (fun K => xGuard t83 true (fun w K => xLoad Tryd.prog 3 t92 w K) w K) fun t93 =>
 xPur w (fun w K => xGuard t83 true (fun w K => xBin Tryd.prog .sub 3 false t89 false t93 w K) w K) fun t94 =>
 xGuard t83 true (fun w K => xCall Tryd.prog (fnv 28) [t84] w K) w fun t85 w =>
 xRe w (fun K => xGuard t83 true (fun w K => xLoad Tryd.prog 3 t88 w K) w K) t89 (
 xRe w (fun K => xGuard t83 true (fun w K => xLoad Tryd.prog 3 t92 w K) w K) t93 (
 xPur w (fun w K => xGuard t83 true (fun w K => xBin Tryd.prog .eql 3 false t85 false t94 w K) w K) fun t95 =>
 xPur w (fun w K => xPick t83 t95 (.bool false) w K) fun t96 =>
 xPur w (fun w K => K t96 w) fun t4_1 =>
 K t4_1 w)))))
def loamlaw15_Same (K : K1) (t0 t1 : Value) (w : World) : Prop :=
 xNilCheck t0 w fun t8 w =>
 xFieldAddr Tryd.prog 65 t8 0 w fun t9 w =>
 xLoad Tryd.prog 24 t9 w fun t10 w =>
 xCall Tryd.prog (fnv 51) [t10] w fun t11 w =>
 xSq w.drew fun w =>
 xPur w (fun w K => K t0 w) fun t12 =>
 xPur w (fun w K => xNilCheck t12 w K) fun t13 =>
 xPur w (fun w K => xFieldAddr Tryd.prog 65 t13 1 w K) fun t14 =>
 xRd w (fun K => xLoad Tryd.prog 3 t14 w K) fun t15 =>
 xPur w (fun w K => K t1 w) fun t16 =>
 xPur w (fun w K => xNilCheck t16 w K) fun t17 =>
 xPur w (fun w K => xFieldAddr Tryd.prog 48 t17 1 w K) fun t18 =>
 xRd w (fun K => xLoad Tryd.prog 3 t18 w K) fun t19 =>
 xPur w (fun w K => xBin Tryd.prog .neq 3 false t15 false t19 w K) fun t20 =>
 xPur w (fun w K => K t20 w) fun t21 =>
 xPur w (fun w K => xGuard t21 false (fun w K => K t0 w) w K) fun t22 =>
 xPur w (fun w K => xGuard t21 false (fun w K => xNilCheck t22 w K) w K) fun t23 =>
 xPur w (fun w K => xGuard t21 false (fun w K => xFieldAddr Tryd.prog 65 t23 2 w K) w K) fun t24 =>
 xRd w (fun K => xGuard t21 false (fun w K => xLoad Tryd.prog 3 t24 w K) w K) fun t25 =>
 xPur w (fun w K => xGuard t21 false (fun w K => K t1 w) w K) fun t26 =>
 xPur w (fun w K => xGuard t21 false (fun w K => xNilCheck t26 w K) w K) fun t27 =>
 xPur w (fun w K => xGuard t21 false (fun w K => xFieldAddr Tryd.prog 48 t27 2 w K) w K) fun t28 =>
 xRd w (fun K => xGuard t21 false (fun w K => xLoad Tryd.prog 3 t28 w K) w K) fun t29 =>
 xPur w (fun w K => xGuard t21 false (fun w K => xBin Tryd.prog .neq 3 false t25 false t29 w K) w K) fun t30 =>
 xPur w (fun w K => xPick t21 (.bool true) t30 w K) fun t31 =>
 xPur w (fun w K => K t31 w) fun t32 =>
 xPur w (fun w K => xGuard t32 false (fun w K => K t0 w) w K) fun t33 =>
 xPur w (fun w K => xGuard t32 false (fun w K => xNilCheck t33 w K) w K) fun t34 =>
 xPur w (fun w K => xGuard t32 false (fun w K => xFieldAddr Tryd.prog 65 t34 3 w K) w K) fun t35 =>
 xRd w (fun K => xGuard t32 false (fun w K => xLoad Tryd.prog 3 t35 w K) w K) fun t36 =>
 xPur w (fun w K => xGuard t32 false (fun w K => K t1 w) w K) fun t37 =>
 xPur w (fun w K => xGuard t32 false (fun w K => xNilCheck t37 w K) w K) fun t38 =>
 xPur w (fun w K => xGuard t32 false (fun w K => xFieldAddr Tryd.prog 48 t38 3 w K) w K) fun t39 =>
 xRd w (fun K => xGuard t32 false (fun w K => xLoad Tryd.prog 3 t39 w K) w K) fun t40 =>
 xPur w (fun w K => xGuard t32 false (fun w K => xBin Tryd.prog .neq 3 false t36 false t40 w K) w K) fun t41 =>
 xPur w (fun w K => xPick t32 (.bool true) t41 w K) fun t42 =>
 xPur w (fun w K => K t42 w) fun t43 =>
 xPur w (fun w K => xGuard t43 false (fun w K => K t11 w) w K) fun t44 =>
 xPur w (fun w K => xGuard t43 false (fun w K => xBuiltin Tryd.prog .len #[44] 3 [false] [t44] w K) w K) fun t45 =>
 xPur w (fun w K => xGuard t43 false (fun w K => K t1 w) w K) fun t46 =>
 xPur w (fun w K => xGuard t43 false (fun w K => xNilCheck t46 w K) w K) fun t47 =>
 xPur w (fun w K => xGuard t43 false (fun w K => xFieldAddr Tryd.prog 48 t47 0 w K) w K) fun t48 =>
 xRd w (fun K => xGuard t43 false (fun w K => xLoad Tryd.prog 44 t48 w K) w K) fun t49 =>
 xPur w (fun w K => xGuard t43 false (fun w K => xBuiltin Tryd.prog .len #[44] 3 [false] [t49] w K) w K) fun t50 =>
 xPur w (fun w K => xGuard t43 false (fun w K => xBin Tryd.prog .neq 3 false t45 false t50 w K) w K) fun t51 =>
 xPur w (fun w K => xPick t43 (.bool true) t51 w K) fun t52 =>
 xIf t52
 (K (.bool false) w)
 (xLoop [(.int .i64 0)] w [6] fun u w nxt0 =>
 loamlaw15_Same_l1 K nxt0 t0 t1 t11 (u 6) w)
abbrev n_loamlaw15_Same : Nat := 22
def loamlaw15_Same_ann : Ann := { loop := fun i => bif Nat.beq i 0 then [6] else [], wr := fun i => bif Nat.beq i 0 then [4, 6, 53, 54, 55, 56, 57, 58, 59, 60, 61, 62, 63, 64, 65, 66, 67, 68, 69, 70] else [], told := fun i => bif Nat.beq i 2 then [(0, false, ⟨0, 4097, some 12⟩), (1, false, ⟨1, 12288, some 13⟩), (2, false, ⟨2, 24576, some 14⟩), (3, false, ⟨4, 49152, some 15⟩), (4, false, ⟨0, 65538, some 16⟩), (5, false, ⟨16, 196608, some 17⟩), (6, false, ⟨32, 393216, some 18⟩), (7, false, ⟨64, 786432, some 19⟩), (8, false, ⟨136, 1605632, some 20⟩), (9, false, ⟨256, 3145728, some 21⟩), (10, false, ⟨512, 6291457, some 22⟩), (11, false, ⟨1536, 14680064, some 23⟩), (12, false, ⟨2560, 27262976, some 24⟩), (13, false, ⟨4608, 52428800, some 25⟩), (14, false, ⟨512, 69206018, some 26⟩), (15, false, ⟨16896, 203423744, some 27⟩), (16, false, ⟨33280, 404750336, some 28⟩), (17, false, ⟨66048, 807403520, some 29⟩), (18, false, ⟨139776, 1646264320, some 30⟩), (19, false, ⟨262656, 3223322624, some 31⟩), (20, false, ⟨524800, 6442450944, some 32⟩), (21, false, ⟨1048576, 12884901889, some 33⟩), (22, false, ⟨3145728, 30064771072, some 34⟩), (23, false, ⟨5242880, 55834574848, some 35⟩), (24, false, ⟨9437184, 107374182400, some 36⟩), (25, false, ⟨1048576, 141733920770, some 37⟩), (26, false, ⟨34603008, 416611827712, some 38⟩), (27, false, ⟨68157440, 828928688128, some 39⟩), (28, false, ⟨135266304, 1653562408960, some 40⟩), (29, false, ⟨286261248, 3371549327360, some 41⟩), (30, false, ⟨537919488, 6601364733952, some 42⟩), (31, false, ⟨1074790400, 13194139533312, some 43⟩), (32, false, ⟨2147483648, 26388279066656, some 44⟩), (33, false, ⟨6442450944, 61572651155456, some 45⟩), (34, false, ⟨2147483648, 79164837199874, some 46⟩), (35, false, ⟨19327352832, 219902325555200, some 47⟩), (36, false, ⟨36507222016, 431008558088192, some 48⟩), (37, false, ⟨70866960384, 853221023154176, some 49⟩), (38, false, ⟨139586437120, 1697645953286144, some 50⟩), (39, false, ⟨285615325184, 3421680185638912, some 51⟩), (40, false, ⟨551903297536, 6764195534077952, some 52⟩)] else bif Nat.beq i 7 then [(0, false, ⟨0, 576460752303423520, some 59⟩), (1, false, ⟨0, 1152921504606847040, some 60⟩), (2, false, ⟨3, 4035225266123964416, some 61⟩), (3, false, ⟨4, 6917529027641081856, some 62⟩), (4, false, ⟨0, 9223372036854775810, some 63⟩), (5, false, ⟨16, 27670116110564327424, some 64⟩), (6, false, ⟨32, 55340232221128654848, some 65⟩), (7, false, ⟨64, 110680464442257309696, some 66⟩), (8, false, ⟨0, 147573952589676412992, some 67⟩), (9, false, ⟨384, 516508834063867445248, some 68⟩), (10, false, ⟨512, 885443715538058477568, some 69⟩), (11, false, ⟨1032, 1775499117094544343040, some 70⟩)] else bif Nat.beq i 9 then [(0, false, ⟨0, 2361183241434822606849, some 71⟩), (2, false, ⟨0, 9444732965739290427394, some 73⟩), (3, false, ⟨4, 28334198897217871282176, some 74⟩), (4, false, ⟨8, 56668397794435742564352, some 75⟩), (5, false, ⟨16, 113336795588871485128704, some 76⟩), (6, false, ⟨0, 151115727451828646838274, some 77⟩), (7, false, ⟨64, 453347182355485940514816, some 78⟩), (8, false, ⟨128, 906694364710971881029632, some 79⟩), (9, false, ⟨256, 1813388729421943762059264, some 80⟩), (10, false, ⟨544, 3702335322569801847537664, some 81⟩), (1, false, ⟨1, 7083549724304467820544, some 72⟩), (11, false, ⟨1026, 7258277284170644693450752, some 82⟩), (12, false, ⟨2050, 14507109835375550096474112, some 83⟩), (13, false, ⟨4096, 29014219670751100192948225, some 84⟩), (15, false, ⟨4096, 87042659012253300578844674, some 86⟩), (16, false, ⟨36864, 241785163922925834941235200, some 87⟩), (17, false, ⟨69632, 473898921288934636484820992, some 88⟩), (18, false, ⟨135168, 938126436020952239571992576, some 89⟩), (19, false, ⟨4096, 1247611445842297308296773634, some 90⟩), (20, false, ⟨528384, 3723491524413057858095022080, some 91⟩), (21, false, ⟨1052672, 7437311642269198682792394752, some 92⟩), (22, false, ⟨2101248, 14864951877981480332187140096, some 93⟩), (23, false, ⟨4460544, 30339202369048733768426192896, some 94⟩), (14, false, ⟨12288, 67699845898419233783545856, some 85⟩), (24, false, ⟨8409088, 59469478918482838362146209792, some 95⟩), (25, false, ⟨16781312, 118851915177953423423713574912, some 96⟩), (26, false, ⟨67108863, 79228162514264337593543950352, some 4⟩)] else [], sq := fun i => bif Nat.beq i 2 then some (.rd true 0 (.rd true 1 (.rd true 2 (.rd false 3 (.rd true 4 (.rd true 5 (.rd true 6 (.rd false 7 (.rd true 8 (.rd true 9 (.rd true 10 (.rd true 11 (.rd true 12 (.rd false 13 (.rd true 14 (.rd true 15 (.rd true 16 (.rd false 17 (.rd true 18 (.rd true 19 (.rd true 20 (.rd true 21 (.rd true 22 (.rd true 23 (.rd false 24 (.rd true 25 (.rd true 26 (.rd true 27 (.rd false 28 (.rd true 29 (.rd true 30 (.rd true 31 (.rd true 32 (.rd true 33 (.rd true 34 (.rd true 35 (.rd true 36 (.rd false 37 (.rd true 38 (.rd true 39 (.rd true 40 .done))))))))))))))))))))))))))))))))))))))))) else bif Nat.beq i 7 then some (.rd true 0 (.rd true 1 (.rd true 2 (.rd false 3 (.rd true 4 (.rd true 5 (.rd true 6 (.rd false 7 (.rd true 8 (.rd true 9 (.rd false 10 (.rd true 11 .done)))))))))))) else bif Nat.beq i 9 then some (.rd true 0 (.rd true 2 (.rd true 3 (.rd true 4 (.rd false 5 (.rd true 6 (.rd true 7 (.rd true 8 (.rd false 9 (.rd true 10 (.ef 1 [5, 9] (.rd true 11 (.rd true 12 (.rd true 13 (.rd true 15 (.rd true 16 (.rd true 17 (.rd false 18 (.rd true 19 (.rd true 20 (.rd true 21 (.rd false 22 (.rd true 23 (.ef 14 [18, 22] (.rd true 24 (.rd true 25 (.rd true 26 .done))))))))))))))))))))))))))) else none }
theorem loamlaw15_Same_eq (t0 t1 : Value) (w : World) (K : K1) : reads Tryd.prog loamlaw15_Same_ann Tryd.f22 #[t0, t1] w K = loamlaw15_Same K t0 t1 w := by kernel_rfl
theorem loamlaw15_Same_of {t0 t1 : Value} {w : World} {K : K1} (h : loamlaw15_Same K t0 t1 w) : Yld Tryd.prog n_loamlaw15_Same #[t0, t1] w K :=
  yld_of mixed loamlaw15_Same_ann Tryd.func22 (by kernel_rfl) (loamlaw15_Same_eq t0 t1 w K) h

/-! loam/obj.Text: function 23 -/
def obj_Text_j1 (K : K1) (nxt0 : List Value → World → Prop) (t37 : Value) (w : World) : Prop :=
 xBin Tryd.prog .add 3 false t37 true (.int .i64 1) w fun t60_1 w =>
 nxt0 [t60_1] w
def obj_Text_j2 (K : K1) (nxt3 : List Value → World → Prop) (t7 t14 t71 : Value) (w : World) : Prop :=
 xBin Tryd.prog .shr 5 false t14 true (c64 4) w fun t80_1 w =>
 xIndex Tryd.prog 9 (.string { data := #[48, 49, 50, 51, 52, 53, 54, 55, 56, 57, 97, 98, 99, 100, 101, 102] }) t80_1 w fun t81_1 w =>
 xCall Tryd.prog (fnv 56) [t7, t81_1] w fun t82_1 w =>
 xBin Tryd.prog .and 5 false t14 true (c8 15) w fun t84_1 w =>
 xIndex Tryd.prog 9 (.string { data := #[48, 49, 50, 51, 52, 53, 54, 55, 56, 57, 97, 98, 99, 100, 101, 102] }) t84_1 w fun t85_1 w =>
 xCall Tryd.prog (fnv 56) [t7, t85_1] w fun t86_1 w =>
 xBin Tryd.prog .add 3 false t71 true (.int .i64 1) w fun t87_1 w =>
 nxt3 [t87_1] w
def obj_Text_l2 (K : K1) (nxt3 : List Value → World → Prop) (t7 t69 t70 t71 : Value) (w : World) : Prop :=
 xBin Tryd.prog .lss 3 false t71 false t70 w fun t72_1 w =>
 xIf t72_1
 (xIndexAddr Tryd.prog 22 t69 t71 w fun t74_1 w =>
 xLoad Tryd.prog 5 t74_1 w fun t75_1 w =>
 xBin Tryd.prog .eql 3 false t71 true (.int .i64 0) w fun t77_1 w =>
 xIf t77_1
 (xCall Tryd.prog (fnv 56) [t7, (c8 32)] w fun t78_1 w =>
 obj_Text_j2 K nxt3 t7 t75_1 t71 w)
 (obj_Text_j2 K nxt3 t7 t75_1 t71 w))
 (xCall Tryd.prog (fnv 57) [t7] w fun t88 w =>
 K t88 w)
def obj_Text_l1 (K : K1) (nxt0 : List Value → World → Prop) (t0 t1 t5 t7 t36 t37 : Value) (w : World) : Prop :=
 xBin Tryd.prog .lss 3 false t37 false t36 w fun t38_1 w =>
 xIf t38_1
 (xCall Tryd.prog (fnv 15) [t0, t1, t37] w fun t44_1 w =>
 xExtract Tryd.prog t44_1 0 w fun t45_1 w =>
 xExtract Tryd.prog t44_1 1 w fun t46_1 w =>
 xBin Tryd.prog .neq 25 false t46_1 true (.int .i64 0) w fun t53_1 w =>
 xIf t53_1
 (xCall Tryd.prog (fnv 53) [t46_1] w fun t55_1 w =>
 K t55_1 w)
 (xBin Tryd.prog .eql 3 false t45_1 true (.int .i64 (-1)) w fun t58_1 w =>
 xIf t58_1
 (xCall Tryd.prog (fnv 54) [t7, (.string { data := #[32, 45] })] w fun t59_1 w =>
 obj_Text_j1 K nxt0 t37 w)
 (xCall Tryd.prog (fnv 55) [t45_1] w fun t48_1 w =>
 xBin Tryd.prog .add 9 true (.string { data := #[32] }) false t48_1 w fun t49_1 w =>
 xCall Tryd.prog (fnv 54) [t7, t49_1] w fun t50_1 w =>
 obj_Text_j1 K nxt0 t37 w)))
 (xFieldAddr Tryd.prog 34 t5 1 w fun t64 w =>
 xLoad Tryd.prog 3 t64 w fun t65 w =>
 xCall Tryd.prog (fnv 12) [t0, t1, (.int .i64 0), t65] w fun t66 w =>
 xExtract Tryd.prog t66 0 w fun t67 w =>
 xExtract Tryd.prog t66 1 w fun t68 w =>
 xBuiltin Tryd.prog .len #[22] 3 [false] [t67] w fun t70 w =>
 xLoop [(.int .i64 0)] w [71] fun u w nxt3 =>
 obj_Text_l2 K nxt3 t7 t67 t70 (u 71) w)
def obj_Text (K : K1) (t0 t1 : Value) (w : World) : Prop :=
 xCall Tryd.prog (fnv 38) [t0, t1] w fun t18 w =>
 xExtract Tryd.prog t18 0 w fun t19 w =>
 xExtract Tryd.prog t18 1 w fun t20 w =>
 xAlloc Tryd.prog 34 w fun t5 w =>
 xStore Tryd.prog 34 t5 t19 w fun _ w =>
 xBin Tryd.prog .neq 25 false t20 true (.int .i64 0) w fun t22 w =>
 xIf t22
 (xCall Tryd.prog (fnv 53) [t20] w fun t24 w =>
 K t24 w)
 (xAlloc Tryd.prog 105 w fun t7 w =>
 xSq w.drew fun w =>
 xPur w (fun w K => xFieldAddr Tryd.prog 34 t5 0 w K) fun t25 =>
 xRd w (fun K => xLoad Tryd.prog 3 t25 w K) fun t26 =>
 xPur w (fun w K => xFieldAddr Tryd.prog 34 t5 1 w K) fun t29 =>
 xRd w (fun K => xLoad Tryd.prog 3 t29 w K) fun t30 =>
 xCall Tryd.prog (fnv 55) [t26] w fun t27 w =>
 xRe w (fun K => xLoad Tryd.prog 3 t29 w K) t30 (
 xPur w (fun w K => xBin Tryd.prog .add 9 false t27 true (.string { data := #[32] }) w K) fun t28 =>
 xCall Tryd.prog (fnv 55) [t30] w fun t31 w =>
 xPur w (fun w K => xBin Tryd.prog .add 9 false t28 false t31 w K) fun t32 =>
 xPur w (fun w K => xBin Tryd.prog .add 9 false t32 true (.string { data := #[58] }) w K) fun t33 =>
 xCall Tryd.prog (fnv 54) [t7, t33] w fun t34 w =>
 xFieldAddr Tryd.prog 34 t5 0 w fun t35 w =>
 xLoad Tryd.prog 3 t35 w fun t36 w =>
 xLoop [(.int .i64 0)] w [37] fun u w nxt0 =>
 obj_Text_l1 K nxt0 t0 t1 t5 t7 t36 (u 37) w))
abbrev n_obj_Text : Nat := 23
def obj_Text_ann : Ann := { loop := fun i => bif Nat.beq i 3 then [71] else bif Nat.beq i 0 then [37] else [], wr := fun i => bif Nat.beq i 3 then [13, 14, 71, 72, 73, 74, 75, 76, 77, 78, 79, 80, 81, 82, 83, 84, 85, 86, 87] else bif Nat.beq i 0 then [4, 8, 9, 10, 37, 38, 39, 40, 41, 42, 43, 44, 45, 46, 47, 48, 49, 50, 51, 52, 53, 54, 55, 56, 57, 58, 59, 60] else [], told := fun i => bif Nat.beq i 5 then [(0, false, ⟨0, 33554464, some 25⟩), (1, false, ⟨1, 100663296, some 26⟩), (4, false, ⟨0, 536870944, some 29⟩), (5, false, ⟨16, 1610612736, some 30⟩), (2, false, ⟨2, 201326592, some 27⟩), (3, false, ⟨4, 402653184, some 28⟩), (6, false, ⟨36, 3221225472, some 31⟩), (7, false, ⟨72, 6710886400, some 32⟩), (8, false, ⟨128, 12884901888, some 33⟩), (9, false, ⟨320, 25769803904, some 34⟩)] else [], sq := fun i => bif Nat.beq i 5 then some (.rd true 0 (.rd false 1 (.rd true 4 (.rd false 5 (.ef 2 [5] (.rd true 3 (.ef 6 [] (.rd true 7 (.rd true 8 (.ef 9 [] .done)))))))))) else none }
theorem obj_Text_eq (t0 t1 : Value) (w : World) (K : K1) : reads Tryd.prog obj_Text_ann Tryd.f23 #[t0, t1] w K = obj_Text K t0 t1 w := by kernel_rfl
theorem obj_Text_of {t0 t1 : Value} {w : World} {K : K1} (h : obj_Text K t0 t1 w) : Yld Tryd.prog n_obj_Text #[t0, t1] w K :=
  yld_of mixed obj_Text_ann Tryd.func23 (by kernel_rfl) (obj_Text_eq t0 t1 w K) h

/-! loam/loamlaw16.text: function 24 -/
def loamlaw16_text_j1 (K : K1) (nxt0 : List Value → World → Prop) (t9 t10 : Value) (w : World) : Prop :=
 xBin Tryd.prog .add 3 false t10 true (.int .i64 1) w fun t50_1 w =>
 nxt0 [t9, t50_1] w
def loamlaw16_text_l1 (K : K1) (nxt0 : List Value → World → Prop) (t0 t1 t7 t9 t10 : Value) (w : World) : Prop :=
 xFieldAddr Tryd.prog 92 t7 0 w fun t46_1 w =>
 xLoad Tryd.prog 3 t46_1 w fun t47_1 w =>
 xBin Tryd.prog .lss 3 false t10 false t47_1 w fun t48_1 w =>
 xIf t48_1
 (xCall Tryd.prog (fnv 18) [t0, t1, t10] w fun t55_1 w =>
 xExtract Tryd.prog t55_1 0 w fun t56_1 w =>
 xExtract Tryd.prog t55_1 1 w fun t57_1 w =>
 xBin Tryd.prog .neq 3 false t57_1 true (.int .i64 0) w fun t65_1 w =>
 xIf t65_1
 (K (.string { data := #[102, 111, 114, 109] }) w)
 (xBin Tryd.prog .lss 3 false t56_1 true (.int .i64 0) w fun t68_1 w =>
 xIf t68_1
 (xBin Tryd.prog .add 9 false t9 true (.string { data := #[32, 45] }) w fun t70_1 w =>
 loamlaw16_text_j1 K nxt0 t70_1 t10 w)
 (xBin Tryd.prog .add 9 false t9 true (.string { data := #[32] }) w fun t59_1 w =>
 xCall Tryd.prog (fnv 59) [t56_1] w fun t61_1 w =>
 xBin Tryd.prog .add 9 false t59_1 false t61_1 w fun t62_1 w =>
 loamlaw16_text_j1 K nxt0 t62_1 t10 w)))
 (xFieldAddr Tryd.prog 92 t7 1 w fun t74 w =>
 xLoad Tryd.prog 3 t74 w fun t75 w =>
 xCall Tryd.prog (fnv 20) [t0, t1, (.int .i64 0), t75] w fun t76 w =>
 xExtract Tryd.prog t76 0 w fun t77 w =>
 xExtract Tryd.prog t76 1 w fun t78 w =>
 xBuiltin Tryd.prog .len #[22] 3 [false] [t77] w fun t80 w =>
 xBin Tryd.prog .gtr 3 false t80 true (.int .i64 0) w fun t81 w =>
 xIf t81
 (xBin Tryd.prog .add 9 false t9 true (.string { data := #[32] }) w fun t83 w =>
 xCall Tryd.prog (fnv 60) [t77] w fun t85 w =>
 xBin Tryd.prog .add 9 false t83 false t85 w fun t86 w =>
 K t86 w)
 (K t9 w))
def loamlaw16_text (K : K1) (t0 t1 : Value) (w : World) : Prop :=
 xCall Tryd.prog (fnv 20) [t0, t1, (.int .i64 0), (.int .i64 0)] w fun t16 w =>
 xExtract Tryd.prog t16 0 w fun t17 w =>
 xExtract Tryd.prog t16 1 w fun t18 w =>
 xBin Tryd.prog .neq 3 false t18 true (.int .i64 0) w fun t20 w =>
 xGuard t20 false (fun w K => K t17 w) w fun t22 w =>
 xGuard t20 false (fun w K => xBuiltin Tryd.prog .len #[22] 3 [false] [t22] w K) w fun t23 w =>
 xGuard t20 false (fun w K => xBin Tryd.prog .gtr 3 false t23 true (.int .i64 0) w K) w fun t24 w =>
 xPick t20 (.bool true) t24 w fun t25 w =>
 xIf t25
 (xBuildSlice Tryd.prog 113 3 [(0, (.string { data := #[111, 107] })), (1, (.string { data := #[97, 114, 103] })), (2, (.string { data := #[102, 111, 114, 109] }))] w fun t26 w =>
 xIndexAddr Tryd.prog 113 t26 t18 w fun t28 w =>
 xLoad Tryd.prog 9 t28 w fun t29 w =>
 K t29 w)
 (xCall Tryd.prog (fnv 58) [t0, t1] w fun t33 w =>
 xExtract Tryd.prog t33 0 w fun t34 w =>
 xExtract Tryd.prog t33 1 w fun t35 w =>
 xAlloc Tryd.prog 92 w fun t7 w =>
 xStore Tryd.prog 92 t7 t34 w fun _ w =>
 xSq w.drew fun w =>
 xPur w (fun w K => xFieldAddr Tryd.prog 92 t7 0 w K) fun t36 =>
 xRd w (fun K => xLoad Tryd.prog 3 t36 w K) fun t37 =>
 xPur w (fun w K => xFieldAddr Tryd.prog 92 t7 1 w K) fun t40 =>
 xRd w (fun K => xLoad Tryd.prog 3 t40 w K) fun t41 =>
 xCall Tryd.prog (fnv 59) [t37] w fun t38 w =>
 xRe w (fun K => xLoad Tryd.prog 3 t40 w K) t41 (
 xPur w (fun w K => xBin Tryd.prog .add 9 false t38 true (.string { data := #[32] }) w K) fun t39 =>
 xCall Tryd.prog (fnv 59) [t41] w fun t42 w =>
 xPur w (fun w K => xBin Tryd.prog .add 9 false t39 false t42 w K) fun t43 =>
 xPur w (fun w K => xBin Tryd.prog .add 9 false t43 true (.string { data := #[58] }) w K) fun t44 =>
 xPur w (fun w K => K t44 w) fun t9 =>
 xLoop [t9, (.int .i64 0)] w [9, 10] fun u w nxt0 =>
 loamlaw16_text_l1 K nxt0 t0 t1 t7 (u 9) (u 10) w))
abbrev n_loamlaw16_text : Nat := 24
def loamlaw16_text_ann : Ann := { loop := fun i => bif Nat.beq i 0 then [9, 10] else [], wr := fun i => bif Nat.beq i 0 then [4, 9, 10, 11, 12, 45, 46, 47, 48, 49, 50, 51, 52, 53, 54, 55, 56, 57, 58, 59, 60, 61, 62, 63, 64, 65, 66, 67, 68, 69, 70] else [], told := fun i => bif Nat.beq i 5 then [(0, false, ⟨0, 68719476864, some 36⟩), (1, false, ⟨1, 206158430208, some 37⟩), (4, false, ⟨0, 1099511627904, some 40⟩), (5, false, ⟨16, 3298534883328, some 41⟩), (2, false, ⟨2, 412316860416, some 38⟩), (3, false, ⟨4, 824633720832, some 39⟩), (6, false, ⟨36, 6597069766656, some 42⟩), (7, false, ⟨72, 13743895347200, some 43⟩), (8, false, ⟨128, 26388279066624, some 44⟩), (9, false, ⟨511, 17592186044928, some 9⟩)] else [], sq := fun i => bif Nat.beq i 5 then some (.rd true 0 (.rd false 1 (.rd true 4 (.rd false 5 (.ef 2 [5] (.rd true 3 (.ef 6 [] (.rd true 7 (.rd true 8 (.rd true 9 .done)))))))))) else none }
theorem loamlaw16_text_eq (t0 t1 : Value) (w : World) (K : K1) : reads Tryd.prog loamlaw16_text_ann Tryd.f24 #[t0, t1] w K = loamlaw16_text K t0 t1 w := by kernel_rfl
theorem loamlaw16_text_of {t0 t1 : Value} {w : World} {K : K1} (h : loamlaw16_text K t0 t1 w) : Yld Tryd.prog n_loamlaw16_text #[t0, t1] w K :=
  yld_of mixed loamlaw16_text_ann Tryd.func24 (by kernel_rfl) (loamlaw16_text_eq t0 t1 w K) h

/-! loam/space.may: function 25 -/
def space_may (K : K1) (t0 t1 t2 t3 : Value) (w : World) : Prop :=
 xBin Tryd.prog .neq 24 false t0 true (.pointer none) w fun t10 w =>
 xGuard t10 true (fun w K => K t1 w) w fun t12 w =>
 xGuard t10 true (fun w K => xBin Tryd.prog .geq 3 false t12 true (.int .i64 0) w K) w fun t13 w =>
 xPick t10 t13 (.bool false) w fun t14 w =>
 xGuard t14 true (fun w K => K t1 w) w fun t16 w =>
 xGuard t14 true (fun w K => K t2 w) w fun t17 w =>
 xGuard t14 true (fun w K => xBin Tryd.prog .leq 3 false t16 false t17 w K) w fun t18 w =>
 xPick t14 t18 (.bool false) w fun t19 w =>
 xGuard t19 true (fun w K => K t2 w) w fun t21 w =>
 xGuard t19 true (fun w K => K t3 w) w fun t22 w =>
 xGuard t19 true (fun w K => xBin Tryd.prog .leq 3 false t21 false t22 w K) w fun t23 w =>
 xPick t19 t23 (.bool false) w fun t24 w =>
 xGuard t24 true (fun w K => K t3 w) w fun t26 w =>
 xGuard t24 true (fun w K => K t0 w) w fun t27 w =>
 xGuard t24 true (fun w K => xCall Tryd.prog (fnv 61) [t27] w K) w fun t28 w =>
 xGuard t24 true (fun w K => xBin Tryd.prog .leq 3 false t26 false t28 w K) w fun t29 w =>
 xPick t24 t29 (.bool false) w fun t30 w =>
 K t30 w
abbrev n_space_may : Nat := 25
def space_may_ann : Ann := { loop := fun i => [], wr := fun i => [], told := fun i => [] }
theorem space_may_eq (t0 t1 t2 t3 : Value) (w : World) (K : K1) : reads Tryd.prog space_may_ann Tryd.f25 #[t0, t1, t2, t3] w K = space_may K t0 t1 t2 t3 w := by kernel_rfl
theorem space_may_of {t0 t1 t2 t3 : Value} {w : World} {K : K1} (h : space_may K t0 t1 t2 t3 w) : Yld Tryd.prog n_space_may #[t0, t1, t2, t3] w K :=
  yld_of mixed space_may_ann Tryd.func25 (by kernel_rfl) (space_may_eq t0 t1 t2 t3 w K) h

/-! loam/head.Pack: function 26 -/
def head_Pack (K : K1) (t0 : Value) (w : World) : Prop :=
 xBox Tryd.prog 34 t0 w fun t1 w =>
 xLoad Tryd.prog 34 t1 w fun t5 w =>
 xCall Tryd.prog (fnv 62) [t5] w fun t6 w =>
 xUn Tryd.prog .not t6 w fun t7 w =>
 xIf t7
 (K (.tuple #[(c64 0), (.int .i64 1)]) w)
 (xFieldAddr Tryd.prog 34 t1 2 w fun t8 w =>
 xLoad Tryd.prog 4 t8 w fun t9 w =>
 xIf t9
 (xBin Tryd.prog .or 69 false (c64 9223372036854775808) true (c64 1) w fun t11 w =>
 xFieldAddr Tryd.prog 34 t1 3 w fun t12 w =>
 xLoad Tryd.prog 3 t12 w fun t13 w =>
 xConv Tryd.prog 3 69 t13 w fun t14 w =>
 xCall Tryd.prog (fnv 63) [t11, (.int .i64 32), (.int .i64 16), t14] w fun t15 w =>
 K (.tuple #[t15, (.int .i64 0)]) w)
 (xDraw w.drew fun le H =>
 xDet le (H) (fun w K => K (c64 9223372036854775808) w) fun t16 =>
 xDet le (H) (fun w K => xFieldAddr Tryd.prog 34 t1 0 w K) fun t17 =>
 xDet le (H) (fun w K => xLoad Tryd.prog 3 t17 w K) fun t18 =>
 xDet le (H) (fun w K => xConv Tryd.prog 3 69 t18 w K) fun t19 =>
 xDet le (H) (fun w K => xFieldAddr Tryd.prog 34 t1 1 w K) fun t21 =>
 xDet le (H) (fun w K => xLoad Tryd.prog 3 t21 w K) fun t22 =>
 xDet le (H) (fun w K => xConv Tryd.prog 3 69 t22 w K) fun t23 =>
 xDet le (H) (fun w K => xCall Tryd.prog (fnv 63) [t16, (.int .i64 1), (.int .i64 8), t19] w K) fun t20 =>
 xDet le (H) (fun w K => xCall Tryd.prog (fnv 63) [t20, (.int .i64 16), (.int .i64 12), t23] w K) fun t24 =>
 xDet le (H) (fun w K => K t24 w) fun t2 =>
 xDet le (H) (fun w K => K (.int .i64 0) w) fun t3 =>
 xEnd (H) fun w =>
 K (.tuple #[t2, t3]) w))
abbrev n_head_Pack : Nat := 26
def head_Pack_ann : Ann := { loop := fun i => [], wr := fun i => [], told := fun i => bif Nat.beq i 6 then [(0, false, ⟨0, 65552, some 16⟩), (1, false, ⟨0, 131074, some 17⟩), (2, false, ⟨2, 393216, some 18⟩), (3, false, ⟨4, 786432, some 19⟩), (5, false, ⟨0, 2097154, some 21⟩), (6, false, ⟨32, 6291456, some 22⟩), (7, false, ⟨64, 12582912, some 23⟩), (4, false, ⟨9, 1638400, some 20⟩), (8, false, ⟨144, 26214400, some 24⟩), (9, false, ⟨511, 16777220, some 2⟩), (10, false, ⟨1023, 8, some 3⟩)] else [] }
theorem head_Pack_eq (t0 : Value) (w : World) (K : K1) : reads Tryd.prog head_Pack_ann Tryd.f26 #[t0] w K = head_Pack K t0 w := by kernel_rfl
theorem head_Pack_of {t0 : Value} {w : World} {K : K1} (h : head_Pack K t0 w) : Yld Tryd.prog n_head_Pack #[t0] w K :=
  yld_of mixed head_Pack_ann Tryd.func26 (by kernel_rfl) (head_Pack_eq t0 w K) h

/-! loam/head.Size: function 27 -/
def head_Size (K : K1) (t0 : Value) (w : World) : Prop :=
 xBox Tryd.prog 34 t0 w fun t1 w =>
 xLoad Tryd.prog 34 t1 w fun t3 w =>
 xCall Tryd.prog (fnv 62) [t3] w fun t4 w =>
 xUn Tryd.prog .not t4 w fun t5 w =>
 xGuard t5 false (fun w K => xFieldAddr Tryd.prog 34 t1 2 w K) w fun t7 w =>
 xGuard t5 false (fun w K => xLoad Tryd.prog 4 t7 w K) w fun t8 w =>
 xPick t5 (.bool true) t8 w fun t9 w =>
 xIf t9
 (K (.int .i64 0) w)
 (xFieldAddr Tryd.prog 34 t1 0 w fun t10 w =>
 xLoad Tryd.prog 3 t10 w fun t11 w =>
 xBin Tryd.prog .add 3 true (.int .i64 1) false t11 w fun t12 w =>
 xFieldAddr Tryd.prog 34 t1 1 w fun t13 w =>
 xLoad Tryd.prog 3 t13 w fun t14 w =>
 xBin Tryd.prog .add 3 false t14 true (.int .i64 8) w fun t15 w =>
 xBin Tryd.prog .sub 3 false t15 true (.int .i64 1) w fun t16 w =>
 xBin Tryd.prog .quo 3 false t16 true (.int .i64 8) w fun t17 w =>
 xBin Tryd.prog .add 3 false t12 false t17 w fun t18 w =>
 K t18 w)
abbrev n_head_Size : Nat := 27
def head_Size_ann : Ann := { loop := fun i => [], wr := fun i => [], told := fun i => [] }
theorem head_Size_eq (t0 : Value) (w : World) (K : K1) : reads Tryd.prog head_Size_ann Tryd.f27 #[t0] w K = head_Size K t0 w := by kernel_rfl
theorem head_Size_of {t0 : Value} {w : World} {K : K1} (h : head_Size K t0 w) : Yld Tryd.prog n_head_Size #[t0] w K :=
  yld_of mixed head_Size_ann Tryd.func27 (by kernel_rfl) (head_Size_eq t0 w K) h

/-! (*loam/space.Space).Free: function 28 -/
def space_Space_Free (K : K1) (t0 : Value) (w : World) : Prop :=
 xSq w.drew fun w =>
 xPur w (fun w K => K t0 w) fun t3 =>
 xPur w (fun w K => xNilCheck t3 w K) fun t4 =>
 xPur w (fun w K => xFieldAddr Tryd.prog 65 t4 3 w K) fun t5 =>
 xRd w (fun K => xLoad Tryd.prog 3 t5 w K) fun t6 =>
 xPur w (fun w K => K t0 w) fun t7 =>
 xPur w (fun w K => xNilCheck t7 w K) fun t8 =>
 xPur w (fun w K => xFieldAddr Tryd.prog 65 t8 2 w K) fun t9 =>
 xRd w (fun K => xLoad Tryd.prog 3 t9 w K) fun t10 =>
 xPur w (fun w K => xBin Tryd.prog .sub 3 false t6 false t10 w K) fun t11 =>
 xPur w (fun w K => K t11 w) fun t2 =>
 K t2 w
abbrev n_space_Space_Free : Nat := 28
def space_Space_Free_ann : Ann := { loop := fun i => [], wr := fun i => [], told := fun i => bif Nat.beq i 1 then [(0, false, ⟨0, 9, some 3⟩), (1, false, ⟨1, 24, some 4⟩), (2, false, ⟨2, 48, some 5⟩), (3, false, ⟨4, 96, some 6⟩), (4, false, ⟨0, 129, some 7⟩), (5, false, ⟨16, 384, some 8⟩), (6, false, ⟨32, 768, some 9⟩), (7, false, ⟨64, 1536, some 10⟩), (8, false, ⟨136, 3136, some 11⟩), (9, false, ⟨511, 2052, some 2⟩)] else [], sq := fun i => bif Nat.beq i 1 then some (.rd true 0 (.rd true 1 (.rd true 2 (.rd false 3 (.rd true 4 (.rd true 5 (.rd true 6 (.rd false 7 (.rd true 8 (.rd true 9 .done)))))))))) else none }
theorem space_Space_Free_eq (t0 : Value) (w : World) (K : K1) : reads Tryd.prog space_Space_Free_ann Tryd.f28 #[t0] w K = space_Space_Free K t0 w := by kernel_rfl
theorem space_Space_Free_of {t0 : Value} {w : World} {K : K1} (h : space_Space_Free K t0 w) : Yld Tryd.prog n_space_Space_Free #[t0] w K :=
  yld_of mixed space_Space_Free_ann Tryd.func28 (by kernel_rfl) (space_Space_Free_eq t0 w K) h

/-! (*loam/mem.Mem).Set: function 29 -/
def mem_Mem_Set (K : K1) (t0 t1 t2 : Value) (w : World) : Prop :=
 xNilCheck t0 w fun t9 w =>
 xFieldAddr Tryd.prog 67 t9 0 w fun t10 w =>
 xLoad Tryd.prog 44 t10 w fun t11 w =>
 xBuiltin Tryd.prog .len #[44] 3 [false] [t11] w fun t12 w =>
 xCall Tryd.prog (fnv 64) [t1, (.int .i64 1), t12] w fun t13 w =>
 xUn Tryd.prog .not t13 w fun t14 w =>
 xIf t14
 (K (.int .i64 1) w)
 (xNilCheck t0 w fun t16 w =>
 xFieldAddr Tryd.prog 67 t16 0 w fun t17 w =>
 xLoad Tryd.prog 44 t17 w fun t18 w =>
 xIndexAddr Tryd.prog 44 t18 t1 w fun t21 w =>
 xStore Tryd.prog 69 t21 t2 w fun _ w =>
 K (.int .i64 0) w)
abbrev n_mem_Mem_Set : Nat := 29
def mem_Mem_Set_ann : Ann := { loop := fun i => [], wr := fun i => [], told := fun i => [] }
theorem mem_Mem_Set_eq (t0 t1 t2 : Value) (w : World) (K : K1) : reads Tryd.prog mem_Mem_Set_ann Tryd.f29 #[t0, t1, t2] w K = mem_Mem_Set K t0 t1 t2 w := by kernel_rfl
theorem mem_Mem_Set_of {t0 t1 t2 : Value} {w : World} {K : K1} (h : mem_Mem_Set K t0 t1 t2 w) : Yld Tryd.prog n_mem_Mem_Set #[t0, t1, t2] w K :=
  yld_of mixed mem_Mem_Set_ann Tryd.func29 (by kernel_rfl) (mem_Mem_Set_eq t0 t1 t2 w K) h

/-! loam/obj.bytes: function 30 -/
def obj_bytes (K : K1) (t0 t1 t2 t3 : Value) (w : World) : Prop :=
 xCall Tryd.prog (fnv 38) [t0, t1] w fun t15 w =>
 xExtract Tryd.prog t15 0 w fun t16 w =>
 xExtract Tryd.prog t15 1 w fun t17 w =>
 xAlloc Tryd.prog 34 w fun t10 w =>
 xStore Tryd.prog 34 t10 t16 w fun _ w =>
 xBin Tryd.prog .neq 25 false t17 true (.int .i64 0) w fun t20 w =>
 xIf t20
 (K (.tuple #[(.int .i64 0), t17]) w)
 (xBin Tryd.prog .lss 3 false t2 true (.int .i64 0) w fun t24 w =>
 xGuard t24 false (fun w K => K t3 w) w fun t26 w =>
 xGuard t24 false (fun w K => xBin Tryd.prog .lss 3 false t26 true (.int .i64 0) w K) w fun t27 w =>
 xPick t24 (.bool true) t27 w fun t28 w =>
 xGuard t28 false (fun w K => K t3 w) w fun t30 w =>
 xGuard t28 false (fun w K => xFieldAddr Tryd.prog 34 t10 1 w K) w fun t31 w =>
 xGuard t28 false (fun w K => xLoad Tryd.prog 3 t31 w K) w fun t32 w =>
 xGuard t28 false (fun w K => xBin Tryd.prog .gtr 3 false t30 false t32 w K) w fun t33 w =>
 xPick t28 (.bool true) t33 w fun t34 w =>
 xGuard t34 false (fun w K => K t2 w) w fun t36 w =>
 xGuard t34 false (fun w K => xFieldAddr Tryd.prog 34 t10 1 w K) w fun t37 w =>
 xGuard t34 false (fun w K => xLoad Tryd.prog 3 t37 w K) w fun t38 w =>
 xGuard t34 false (fun w K => K t3 w) w fun t39 w =>
 xGuard t34 false (fun w K => xBin Tryd.prog .sub 3 false t38 false t39 w K) w fun t40 w =>
 xGuard t34 false (fun w K => xBin Tryd.prog .gtr 3 false t36 false t40 w K) w fun t41 w =>
 xPick t34 (.bool true) t41 w fun t42 w =>
 xIf t42
 (K (.tuple #[(.int .i64 0), (.int .i64 1)]) w)
 (xBin Tryd.prog .add 3 false t1 true (.int .i64 1) w fun t44 w =>
 xFieldAddr Tryd.prog 34 t10 0 w fun t45 w =>
 xLoad Tryd.prog 3 t45 w fun t46 w =>
 xBin Tryd.prog .add 3 false t44 false t46 w fun t47 w =>
 xBin Tryd.prog .mul 3 false t47 true (.int .i64 8) w fun t48 w =>
 xBin Tryd.prog .add 3 false t48 false t2 w fun t50 w =>
 K (.tuple #[t50, (.int .i64 0)]) w))
abbrev n_obj_bytes : Nat := 30
def obj_bytes_ann : Ann := { loop := fun i => [], wr := fun i => [], told := fun i => [] }
theorem obj_bytes_eq (t0 t1 t2 t3 : Value) (w : World) (K : K1) : reads Tryd.prog obj_bytes_ann Tryd.f30 #[t0, t1, t2, t3] w K = obj_bytes K t0 t1 t2 t3 w := by kernel_rfl
theorem obj_bytes_of {t0 t1 t2 t3 : Value} {w : World} {K : K1} (h : obj_bytes K t0 t1 t2 t3 w) : Yld Tryd.prog n_obj_bytes #[t0, t1, t2, t3] w K :=
  yld_of mixed obj_bytes_ann Tryd.func30 (by kernel_rfl) (obj_bytes_eq t0 t1 t2 t3 w K) h

/-! (*loam/mem.Mem).SetBytes: function 31 -/
def mem_Mem_SetBytes_l1 (K : K1) (nxt0 : List Value → World → Prop) (t0 t1 t23 t24 t25 : Value) (w : World) : Prop :=
 xBin Tryd.prog .lss 3 false t25 false t24 w fun t26_1 w =>
 xIf t26_1
 (xIndexAddr Tryd.prog 22 t23 t25 w fun t28_1 w =>
 xLoad Tryd.prog 5 t28_1 w fun t29_1 w =>
 xBin Tryd.prog .add 3 false t1 false t25 w fun t32_1 w =>
 xBin Tryd.prog .rem 3 false t32_1 true (.int .i64 8) w fun t34_1 w =>
 xBin Tryd.prog .mul 3 true (.int .i64 8) false t34_1 w fun t35_1 w =>
 xNilCheck t0 w fun t37_1 w =>
 xFieldAddr Tryd.prog 67 t37_1 0 w fun t38_1 w =>
 xLoad Tryd.prog 44 t38_1 w fun t39_1 w =>
 xBin Tryd.prog .quo 3 false t32_1 true (.int .i64 8) w fun t41_1 w =>
 xIndexAddr Tryd.prog 44 t39_1 t41_1 w fun t42_1 w =>
 xDraw w.drew fun le H =>
 xDet le (H) (fun w K => K t42_1 w) fun t43_1 =>
 xDet le (H) (fun w K => K t42_1 w) fun t44_1 =>
 xDet le (H) (fun w K => xNilCheck t44_1 w K) fun t45_1 =>
 xDet le (H) (fun w K => xLoad Tryd.prog 69 t45_1 w K) fun t46_1 =>
 xDet le (H) (fun w K => K t35_1 w) fun t47_1 =>
 xDet le (H) (fun w K => xBin Tryd.prog .shl 69 true (c64 255) false t47_1 w K) fun t48_1 =>
 xDet le (H) (fun w K => xBin Tryd.prog .andNot 69 false t46_1 false t48_1 w K) fun t49_1 =>
 xDet le (H) (fun w K => K t29_1 w) fun t50_1 =>
 xDet le (H) (fun w K => xConv Tryd.prog 5 69 t50_1 w K) fun t51_1 =>
 xDet le (H) (fun w K => K t35_1 w) fun t52_1 =>
 xDet le (H) (fun w K => xBin Tryd.prog .shl 69 false t51_1 false t52_1 w K) fun t53_1 =>
 xDet le (H) (fun w K => xBin Tryd.prog .or 69 false t49_1 false t53_1 w K) fun t54_1 =>
 xDet le (H) (fun w K => xNilCheck t43_1 w K) fun t55_1 =>
 xEnd (H) fun w =>
 xStore Tryd.prog 69 t55_1 t54_1 w fun _x13 w =>
 xBin Tryd.prog .add 3 false t25 true (.int .i64 1) w fun t56_1 w =>
 nxt0 [t56_1] w)
 (K (.int .i64 0) w)
def mem_Mem_SetBytes (K : K1) (t0 t1 t2 : Value) (w : World) : Prop :=
 xBuiltin Tryd.prog .len #[22] 3 [false] [t2] w fun t14 w =>
 xNilCheck t0 w fun t16 w =>
 xFieldAddr Tryd.prog 67 t16 0 w fun t17 w =>
 xLoad Tryd.prog 44 t17 w fun t18 w =>
 xBuiltin Tryd.prog .len #[44] 3 [false] [t18] w fun t19 w =>
 xBin Tryd.prog .mul 3 false t19 true (.int .i64 8) w fun t20 w =>
 xCall Tryd.prog (fnv 64) [t1, t14, t20] w fun t21 w =>
 xUn Tryd.prog .not t21 w fun t22 w =>
 xIf t22
 (K (.int .i64 1) w)
 (xBuiltin Tryd.prog .len #[22] 3 [false] [t2] w fun t24 w =>
 xLoop [(.int .i64 0)] w [25] fun u w nxt0 =>
 mem_Mem_SetBytes_l1 K nxt0 t0 t1 t2 t24 (u 25) w)
abbrev n_mem_Mem_SetBytes : Nat := 31
def mem_Mem_SetBytes_ann : Ann := { loop := fun i => bif Nat.beq i 0 then [25] else [], wr := fun i => bif Nat.beq i 0 then [7, 8, 9, 10, 11, 25, 26, 27, 28, 29, 30, 31, 32, 33, 34, 35, 36, 37, 38, 39, 40, 41, 42, 43, 44, 45, 46, 47, 48, 49, 50, 51, 52, 53, 54, 55, 56] else [], told := fun i => bif Nat.beq i 9 then [(0, false, ⟨0, 8796093024256, some 43⟩), (1, false, ⟨0, 17592186046464, some 44⟩), (2, false, ⟨2, 52776558133248, some 45⟩), (3, false, ⟨4, 105553116266496, some 46⟩), (4, false, ⟨0, 140737488356352, some 47⟩), (5, false, ⟨16, 422212465065984, some 48⟩), (6, false, ⟨40, 914793674309632, some 49⟩), (7, false, ⟨0, 1125899906842880, some 50⟩), (8, false, ⟨128, 3377699720527872, some 51⟩), (9, false, ⟨0, 4503599627371520, some 52⟩), (10, false, ⟨768, 15762598695796736, some 53⟩), (11, false, ⟨1088, 27584547717644288, some 54⟩), (12, false, ⟨4095, 36037593111986176, some 55⟩), (13, true, ⟨8191, 54043195528445952, none⟩)] else [] }
theorem mem_Mem_SetBytes_eq (t0 t1 t2 : Value) (w : World) (K : K1) : reads Tryd.prog mem_Mem_SetBytes_ann Tryd.f31 #[t0, t1, t2] w K = mem_Mem_SetBytes K t0 t1 t2 w := by kernel_rfl
theorem mem_Mem_SetBytes_of {t0 t1 t2 : Value} {w : World} {K : K1} (h : mem_Mem_SetBytes K t0 t1 t2 w) : Yld Tryd.prog n_mem_Mem_SetBytes #[t0, t1, t2] w K :=
  yld_of mixed mem_Mem_SetBytes_ann Tryd.func31 (by kernel_rfl) (mem_Mem_SetBytes_eq t0 t1 t2 w K) h

/-! (*loam/mem.Mem).Bytes: function 32 -/
def mem_Mem_Bytes_l1 (K : K1) (nxt0 : List Value → World → Prop) (t0 t1 t2 t8 t9 : Value) (w : World) : Prop :=
 xBin Tryd.prog .add 3 false t1 false t2 w fun t24_1 w =>
 xBin Tryd.prog .lss 3 false t9 false t24_1 w fun t25_1 w =>
 xIf t25_1
 (xNilCheck t0 w fun t30_1 w =>
 xFieldAddr Tryd.prog 67 t30_1 0 w fun t31_1 w =>
 xLoad Tryd.prog 44 t31_1 w fun t32_1 w =>
 xBin Tryd.prog .quo 3 false t9 true (.int .i64 8) w fun t34_1 w =>
 xIndexAddr Tryd.prog 44 t32_1 t34_1 w fun t35_1 w =>
 xLoad Tryd.prog 69 t35_1 w fun t36_1 w =>
 xBin Tryd.prog .rem 3 false t9 true (.int .i64 8) w fun t38_1 w =>
 xBin Tryd.prog .mul 3 true (.int .i64 8) false t38_1 w fun t39_1 w =>
 xBin Tryd.prog .shr 69 false t36_1 false t39_1 w fun t40_1 w =>
 xConv Tryd.prog 69 5 t40_1 w fun t41_1 w =>
 xBuildSlice Tryd.prog 22 1 [(0, t41_1)] w fun t42_1 w =>
 xBuiltin Tryd.prog .append #[22, 22] 22 [false, false] [t8, t42_1] w fun t43_1 w =>
 xBin Tryd.prog .add 3 false t9 true (.int .i64 1) w fun t27_1 w =>
 nxt0 [t43_1, t27_1] w)
 (xCall Tryd.prog (fnv 65) [t8] w fun t45 w =>
 K (.tuple #[t45, (.int .i64 0)]) w)
def mem_Mem_Bytes (K : K1) (t0 t1 t2 : Value) (w : World) : Prop :=
 xNilCheck t0 w fun t13 w =>
 xFieldAddr Tryd.prog 67 t13 0 w fun t14 w =>
 xLoad Tryd.prog 44 t14 w fun t15 w =>
 xBuiltin Tryd.prog .len #[44] 3 [false] [t15] w fun t16 w =>
 xBin Tryd.prog .mul 3 false t16 true (.int .i64 8) w fun t17 w =>
 xCall Tryd.prog (fnv 64) [t1, t2, t17] w fun t18 w =>
 xUn Tryd.prog .not t18 w fun t19 w =>
 xIf t19
 (K (.tuple #[(.slice none 0 0), (.int .i64 1)]) w)
 (xLoop [(.slice none 0 0), t1] w [8, 9] fun u w nxt0 =>
 mem_Mem_Bytes_l1 K nxt0 t0 t1 t2 (u 8) (u 9) w)
abbrev n_mem_Mem_Bytes : Nat := 32
def mem_Mem_Bytes_ann : Ann := { loop := fun i => bif Nat.beq i 0 then [8, 9] else [], wr := fun i => bif Nat.beq i 0 then [8, 9, 21, 22, 23, 24, 25, 26, 27, 28, 29, 30, 31, 32, 33, 34, 35, 36, 37, 38, 39, 40, 41, 42, 43] else [], told := fun i => [] }
theorem mem_Mem_Bytes_eq (t0 t1 t2 : Value) (w : World) (K : K1) : reads Tryd.prog mem_Mem_Bytes_ann Tryd.f32 #[t0, t1, t2] w K = mem_Mem_Bytes K t0 t1 t2 w := by kernel_rfl
theorem mem_Mem_Bytes_of {t0 t1 t2 : Value} {w : World} {K : K1} (h : mem_Mem_Bytes K t0 t1 t2 w) : Yld Tryd.prog n_mem_Mem_Bytes #[t0, t1, t2] w K :=
  yld_of mixed mem_Mem_Bytes_ann Tryd.func32 (by kernel_rfl) (mem_Mem_Bytes_eq t0 t1 t2 w K) h

/-! (*loam/space.Space).Objects: function 33 -/
def space_Space_Objects_l1 (K : K1) (nxt0 : List Value → World → Prop) (t0 t4 t5 : Value) (w : World) : Prop :=
 xNilCheck t0 w fun t14_1 w =>
 xFieldAddr Tryd.prog 65 t14_1 2 w fun t15_1 w =>
 xLoad Tryd.prog 3 t15_1 w fun t16_1 w =>
 xBin Tryd.prog .lss 3 false t5 false t16_1 w fun t17_1 w =>
 xIf t17_1
 (xCall Tryd.prog (fnv 34) [t0, t5] w fun t21_1 w =>
 xExtract Tryd.prog t21_1 0 w fun t22_1 w =>
 xExtract Tryd.prog t21_1 1 w fun t23_1 w =>
 xAlloc Tryd.prog 34 w fun t6_1 w =>
 xStore Tryd.prog 34 t6_1 t22_1 w fun _ w =>
 xSq w.drew fun w =>
 xPur w (fun w K => K t23_1 w) fun t24_1 =>
 xPur w (fun w K => xBin Tryd.prog .neq 25 false t24_1 true (.int .i64 0) w K) fun t25_1 =>
 xPur w (fun w K => K t25_1 w) fun t26_1 =>
 xPur w (fun w K => xGuard t26_1 false (fun w K => xFieldAddr Tryd.prog 34 t6_1 2 w K) w K) fun t27_1 =>
 xRd w (fun K => xGuard t26_1 false (fun w K => xLoad Tryd.prog 4 t27_1 w K) w K) fun t28_1 =>
 xPur w (fun w K => xPick t26_1 (.bool true) t28_1 w K) fun t29_1 =>
 xPur w (fun w K => K t29_1 w) fun t30_1 =>
 xRd w (fun K => xGuard t30_1 false (fun w K => xLoad Tryd.prog 34 t6_1 w K) w K) fun t31_1 =>
 xPur w (fun w K => xGuard t30_1 false (fun w K => K t0 w) w K) fun t33_1 =>
 xPur w (fun w K => xGuard t30_1 false (fun w K => xNilCheck t33_1 w K) w K) fun t34_1 =>
 xPur w (fun w K => xGuard t30_1 false (fun w K => xFieldAddr Tryd.prog 65 t34_1 2 w K) w K) fun t35_1 =>
 xRd w (fun K => xGuard t30_1 false (fun w K => xLoad Tryd.prog 3 t35_1 w K) w K) fun t36_1 =>
 xPur w (fun w K => xGuard t30_1 false (fun w K => K t5 w) w K) fun t37_1 =>
 xPur w (fun w K => xGuard t30_1 false (fun w K => xBin Tryd.prog .sub 3 false t36_1 false t37_1 w K) w K) fun t38_1 =>
 xGuard t30_1 false (fun w K => xCall Tryd.prog (fnv 27) [t31_1] w K) w fun t32_1 w =>
 xRe w (fun K => xGuard t30_1 false (fun w K => xLoad Tryd.prog 3 t35_1 w K) w K) t36_1 (
 xPur w (fun w K => xGuard t30_1 false (fun w K => xBin Tryd.prog .gtr 3 false t32_1 false t38_1 w K) w K) fun t39_1 =>
 xPur w (fun w K => xPick t30_1 (.bool true) t39_1 w K) fun t40_1 =>
 xIf t40_1
 (K (.tuple #[(.slice none 0 0), (.int .i64 2)]) w)
 (xBuildSlice Tryd.prog 40 1 [(0, t5)] w fun t43_1 w =>
 xBuiltin Tryd.prog .append #[40, 40] 40 [false, false] [t4, t43_1] w fun t44_1 w =>
 xLoad Tryd.prog 34 t6_1 w fun t46_1 w =>
 xCall Tryd.prog (fnv 27) [t46_1] w fun t47_1 w =>
 xBin Tryd.prog .add 3 false t5 false t47_1 w fun t48_1 w =>
 nxt0 [t44_1, t48_1] w)))
 (xCall Tryd.prog (fnv 66) [t4] w fun t50 w =>
 K (.tuple #[t50, (.int .i64 0)]) w)
def space_Space_Objects (K : K1) (t0 : Value) (w : World) : Prop :=
 xNilCheck t0 w fun t9 w =>
 xFieldAddr Tryd.prog 65 t9 1 w fun t10 w =>
 xLoad Tryd.prog 3 t10 w fun t11 w =>
 xLoop [(.slice none 0 0), t11] w [4, 5] fun u w nxt0 =>
 space_Space_Objects_l1 K nxt0 t0 (u 4) (u 5) w
abbrev n_space_Space_Objects : Nat := 33
def space_Space_Objects_ann : Ann := { loop := fun i => bif Nat.beq i 0 then [4, 5] else [], wr := fun i => bif Nat.beq i 0 then [2, 3, 4, 5, 6, 7, 12, 13, 14, 15, 16, 17, 18, 19, 20, 21, 22, 23, 24, 25, 26, 27, 28, 29, 30, 31, 32, 33, 34, 35, 36, 37, 38, 39, 40, 41, 42, 43, 44, 45, 46, 47, 48] else [], told := fun i => bif Nat.beq i 5 then [(0, false, ⟨0, 16777344, some 24⟩), (1, false, ⟨1, 50331648, some 25⟩), (2, false, ⟨2, 100663296, some 26⟩), (3, false, ⟨4, 201326656, some 27⟩), (4, false, ⟨12, 469762048, some 28⟩), (5, false, ⟨20, 872415232, some 29⟩), (6, false, ⟨36, 1610612736, some 30⟩), (7, false, ⟨64, 3221225536, some 31⟩), (9, false, ⟨64, 9663676417, some 33⟩), (10, false, ⟨576, 26843545600, some 34⟩), (11, false, ⟨1088, 52613349376, some 35⟩), (12, false, ⟨2112, 104152956928, some 36⟩), (13, false, ⟨64, 138512695328, some 37⟩), (14, false, ⟨12352, 482110078976, some 38⟩), (8, false, ⟨192, 7516192768, some 32⟩), (15, false, ⟨16704, 830002429952, some 39⟩), (16, false, ⟨32832, 1650341183488, some 40⟩)] else [], sq := fun i => bif Nat.beq i 5 then some (.rd true 0 (.rd true 1 (.rd true 2 (.rd true 3 (.rd false 4 (.rd true 5 (.rd true 6 (.rd false 7 (.rd true 9 (.rd true 10 (.rd true 11 (.rd false 12 (.rd true 13 (.rd true 14 (.ef 8 [12] (.rd true 15 (.rd true 16 .done))))))))))))))))) else none }
theorem space_Space_Objects_eq (t0 : Value) (w : World) (K : K1) : reads Tryd.prog space_Space_Objects_ann Tryd.f33 #[t0] w K = space_Space_Objects K t0 w := by kernel_rfl
theorem space_Space_Objects_of {t0 : Value} {w : World} {K : K1} (h : space_Space_Objects K t0 w) : Yld Tryd.prog n_space_Space_Objects #[t0] w K :=
  yld_of mixed space_Space_Objects_ann Tryd.func33 (by kernel_rfl) (space_Space_Objects_eq t0 w K) h

/-! (*loam/space.Space).Head: function 34 -/
def space_Space_Head (K : K1) (t0 t1 : Value) (w : World) : Prop :=
 xAlloc Tryd.prog 34 w fun t4 w =>
 xNilCheck t0 w fun t10 w =>
 xFieldAddr Tryd.prog 65 t10 1 w fun t11 w =>
 xLoad Tryd.prog 3 t11 w fun t12 w =>
 xBin Tryd.prog .lss 3 false t1 false t12 w fun t13 w =>
 xGuard t13 false (fun w K => K t1 w) w fun t15 w =>
 xGuard t13 false (fun w K => K t0 w) w fun t16 w =>
 xGuard t13 false (fun w K => xNilCheck t16 w K) w fun t17 w =>
 xGuard t13 false (fun w K => xFieldAddr Tryd.prog 65 t17 2 w K) w fun t18 w =>
 xGuard t13 false (fun w K => xLoad Tryd.prog 3 t18 w K) w fun t19 w =>
 xGuard t13 false (fun w K => xBin Tryd.prog .geq 3 false t15 false t19 w K) w fun t20 w =>
 xPick t13 (.bool true) t20 w fun t21 w =>
 xIf t21
 (xBuild Tryd.prog 34 [] w fun t22 w =>
 xStore Tryd.prog 34 t4 t22 w fun _ w =>
 xLoadR Tryd.prog 34 t4 w fun r0 =>
 K (.tuple #[r0, (.int .i64 1)]) w)
 (xNilCheck t0 w fun t25 w =>
 xFieldAddr Tryd.prog 65 t25 0 w fun t26 w =>
 xLoad Tryd.prog 24 t26 w fun t27 w =>
 xCall Tryd.prog (fnv 40) [t27, t1] w fun t29 w =>
 xExtract Tryd.prog t29 0 w fun t30 w =>
 xExtract Tryd.prog t29 1 w fun t31 w =>
 xBin Tryd.prog .neq 25 false t31 true (.int .i64 0) w fun t33 w =>
 xIf t33
 (xBuild Tryd.prog 34 [] w fun t34 w =>
 xStore Tryd.prog 34 t4 t34 w fun _ w =>
 xLoadR Tryd.prog 34 t4 w fun r0 =>
 K (.tuple #[r0, t31]) w)
 (xCall Tryd.prog (fnv 67) [t30] w fun t37 w =>
 xExtract Tryd.prog t37 0 w fun t38 w =>
 xExtract Tryd.prog t37 1 w fun t39 w =>
 xStore Tryd.prog 34 t4 t38 w fun _ w =>
 xLoadR Tryd.prog 34 t4 w fun r0 =>
 K (.tuple #[r0, t39]) w))
abbrev n_space_Space_Head : Nat := 34
def space_Space_Head_ann : Ann := { loop := fun i => [], wr := fun i => [], told := fun i => [] }
theorem space_Space_Head_eq (t0 t1 : Value) (w : World) (K : K1) : reads Tryd.prog space_Space_Head_ann Tryd.f34 #[t0, t1] w K = space_Space_Head K t0 t1 w := by kernel_rfl
theorem space_Space_Head_of {t0 t1 : Value} {w : World} {K : K1} (h : space_Space_Head K t0 t1 w) : Yld Tryd.prog n_space_Space_Head #[t0, t1] w K :=
  yld_of mixed space_Space_Head_ann Tryd.func34 (by kernel_rfl) (space_Space_Head_eq t0 t1 w K) h

/-! slices.BinarySearch[[]int,int]: function 35 -/
abbrev n_slices_BinarySearch_int_int : Nat := 35
/-! slices.ContainsFunc[[]byte,byte]: function 36 -/
def slices_ContainsFunc_byte_byte (K : K1) (t0 t1 : Value) (w : World) : Prop :=
 xCall Tryd.prog (fnv 70) [t0, t1] w fun t7 w =>
 xBin Tryd.prog .geq 3 false t7 true (.int .i64 0) w fun t8 w =>
 K t8 w
abbrev n_slices_ContainsFunc_byte_byte : Nat := 36
def slices_ContainsFunc_byte_byte_ann : Ann := { loop := fun i => [], wr := fun i => [], told := fun i => [] }
theorem slices_ContainsFunc_byte_byte_eq (t0 t1 : Value) (w : World) (K : K1) : reads Tryd.prog slices_ContainsFunc_byte_byte_ann Tryd.f36 #[t0, t1] w K = slices_ContainsFunc_byte_byte K t0 t1 w := by kernel_rfl
theorem slices_ContainsFunc_byte_byte_of {t0 t1 : Value} {w : World} {K : K1} (h : slices_ContainsFunc_byte_byte K t0 t1 w) : Yld Tryd.prog n_slices_ContainsFunc_byte_byte #[t0, t1] w K :=
  yld_of mixed slices_ContainsFunc_byte_byte_ann Tryd.func36 (by kernel_rfl) (slices_ContainsFunc_byte_byte_eq t0 t1 w K) h

/-! loam/obj.Well$1: function 37 -/
def obj_Well_1 (K : K1) (t0 : Value) (w : World) : Prop :=
 xBin Tryd.prog .neq 5 false t0 true (c8 0) w fun t4 w =>
 K t4 w
abbrev n_obj_Well_1 : Nat := 37
def obj_Well_1_ann : Ann := { loop := fun i => [], wr := fun i => [], told := fun i => [] }
theorem obj_Well_1_eq (t0 : Value) (w : World) (K : K1) : reads Tryd.prog obj_Well_1_ann Tryd.f37 #[t0] w K = obj_Well_1 K t0 w := by kernel_rfl
theorem obj_Well_1_of {t0 : Value} {w : World} {K : K1} (h : obj_Well_1 K t0 w) : Yld Tryd.prog n_obj_Well_1 #[t0] w K :=
  yld_of mixed obj_Well_1_ann Tryd.func37 (by kernel_rfl) (obj_Well_1_eq t0 w K) h

/-! loam/obj.whole: function 38 -/
def obj_whole (K : K1) (t0 t1 : Value) (w : World) : Prop :=
 xAlloc Tryd.prog 34 w fun t4 w =>
 xCall Tryd.prog (fnv 34) [t0, t1] w fun t11 w =>
 xExtract Tryd.prog t11 0 w fun t12 w =>
 xExtract Tryd.prog t11 1 w fun t13 w =>
 xAlloc Tryd.prog 34 w fun t6 w =>
 xStore Tryd.prog 34 t6 t12 w fun _ w =>
 xBin Tryd.prog .neq 25 false t13 true (.int .i64 0) w fun t16 w =>
 xIf t16
 (xBuild Tryd.prog 34 [] w fun t17 w =>
 xStore Tryd.prog 34 t4 t17 w fun _ w =>
 xLoadR Tryd.prog 34 t4 w fun r0 =>
 K (.tuple #[r0, t13]) w)
 (xSq w.drew fun w =>
 xPur w (fun w K => xFieldAddr Tryd.prog 34 t6 2 w K) fun t20 =>
 xRd w (fun K => xLoad Tryd.prog 4 t20 w K) fun t21 =>
 xPur w (fun w K => K t21 w) fun t22 =>
 xRd w (fun K => xGuard t22 false (fun w K => xLoad Tryd.prog 34 t6 w K) w K) fun t23 =>
 xPur w (fun w K => xGuard t22 false (fun w K => K t0 w) w K) fun t25 =>
 xPur w (fun w K => xGuard t22 false (fun w K => xNilCheck t25 w K) w K) fun t26 =>
 xPur w (fun w K => xGuard t22 false (fun w K => xFieldAddr Tryd.prog 65 t26 2 w K) w K) fun t27 =>
 xRd w (fun K => xGuard t22 false (fun w K => xLoad Tryd.prog 3 t27 w K) w K) fun t28 =>
 xPur w (fun w K => xGuard t22 false (fun w K => K t1 w) w K) fun t29 =>
 xPur w (fun w K => xGuard t22 false (fun w K => xBin Tryd.prog .sub 3 false t28 false t29 w K) w K) fun t30 =>
 xGuard t22 false (fun w K => xCall Tryd.prog (fnv 27) [t23] w K) w fun t24 w =>
 xRe w (fun K => xGuard t22 false (fun w K => xLoad Tryd.prog 3 t27 w K) w K) t28 (
 xPur w (fun w K => xGuard t22 false (fun w K => xBin Tryd.prog .gtr 3 false t24 false t30 w K) w K) fun t31 =>
 xPur w (fun w K => xPick t22 (.bool true) t31 w K) fun t32 =>
 xPur w (fun w K => K t32 w) fun t19 =>
 xIf t19
 (xBuild Tryd.prog 34 [] w fun t33 w =>
 xStore Tryd.prog 34 t4 t33 w fun _ w =>
 xLoadR Tryd.prog 34 t4 w fun r0 =>
 K (.tuple #[r0, (.int .i64 2)]) w)
 (xLoad Tryd.prog 34 t6 w fun t34 w =>
 xStore Tryd.prog 34 t4 t34 w fun _ w =>
 xLoadR Tryd.prog 34 t4 w fun r0 =>
 K (.tuple #[r0, (.int .i64 0)]) w)))
abbrev n_obj_whole : Nat := 38
def obj_whole_ann : Ann := { loop := fun i => [], wr := fun i => [], told := fun i => bif Nat.beq i 4 then [(0, false, ⟨0, 1048640, some 20⟩), (1, false, ⟨1, 3145728, some 21⟩), (2, false, ⟨2, 6291456, some 22⟩), (3, false, ⟨4, 12582976, some 23⟩), (5, false, ⟨4, 37748737, some 25⟩), (6, false, ⟨36, 104857600, some 26⟩), (7, false, ⟨68, 205520896, some 27⟩), (8, false, ⟨132, 406847488, some 28⟩), (9, false, ⟨4, 541065218, some 29⟩), (10, false, ⟨772, 1883242496, some 30⟩), (4, false, ⟨12, 29360128, some 24⟩), (11, false, ⟨1044, 3242196992, some 31⟩), (12, false, ⟨2052, 6446645248, some 32⟩), (13, false, ⟨4112, 4295491584, some 19⟩)] else [], sq := fun i => bif Nat.beq i 4 then some (.rd true 0 (.rd false 1 (.rd true 2 (.rd false 3 (.rd true 5 (.rd true 6 (.rd true 7 (.rd false 8 (.rd true 9 (.rd true 10 (.ef 4 [8] (.rd true 11 (.rd true 12 (.rd true 13 .done)))))))))))))) else none }
theorem obj_whole_eq (t0 t1 : Value) (w : World) (K : K1) : reads Tryd.prog obj_whole_ann Tryd.f38 #[t0, t1] w K = obj_whole K t0 t1 w := by kernel_rfl
theorem obj_whole_of {t0 t1 : Value} {w : World} {K : K1} (h : obj_whole K t0 t1 w) : Yld Tryd.prog n_obj_whole #[t0, t1] w K :=
  yld_of mixed obj_whole_ann Tryd.func38 (by kernel_rfl) (obj_whole_eq t0 t1 w K) h

/-! loam/obj.in: function 39 -/
def obj_in (K : K1) (t0 t1 : Value) (w : World) : Prop :=
 xNilCheck t0 w fun t7 w =>
 xFieldAddr Tryd.prog 65 t7 1 w fun t8 w =>
 xLoad Tryd.prog 3 t8 w fun t9 w =>
 xBin Tryd.prog .geq 3 false t1 false t9 w fun t10 w =>
 xGuard t10 true (fun w K => K t1 w) w fun t12 w =>
 xGuard t10 true (fun w K => K t0 w) w fun t13 w =>
 xGuard t10 true (fun w K => xNilCheck t13 w K) w fun t14 w =>
 xGuard t10 true (fun w K => xFieldAddr Tryd.prog 65 t14 2 w K) w fun t15 w =>
 xGuard t10 true (fun w K => xLoad Tryd.prog 3 t15 w K) w fun t16 w =>
 xGuard t10 true (fun w K => xBin Tryd.prog .lss 3 false t12 false t16 w K) w fun t17 w =>
 xPick t10 t17 (.bool false) w fun t18 w =>
 K t18 w
abbrev n_obj_in : Nat := 39
def obj_in_ann : Ann := { loop := fun i => [], wr := fun i => [], told := fun i => [] }
theorem obj_in_eq (t0 t1 : Value) (w : World) (K : K1) : reads Tryd.prog obj_in_ann Tryd.f39 #[t0, t1] w K = obj_in K t0 t1 w := by kernel_rfl
theorem obj_in_of {t0 t1 : Value} {w : World} {K : K1} (h : obj_in K t0 t1 w) : Yld Tryd.prog n_obj_in #[t0, t1] w K :=
  yld_of mixed obj_in_ann Tryd.func39 (by kernel_rfl) (obj_in_eq t0 t1 w K) h

/-! (*loam/mem.Mem).Get: function 40 -/
def mem_Mem_Get (K : K1) (t0 t1 : Value) (w : World) : Prop :=
 xNilCheck t0 w fun t8 w =>
 xFieldAddr Tryd.prog 67 t8 0 w fun t9 w =>
 xLoad Tryd.prog 44 t9 w fun t10 w =>
 xBuiltin Tryd.prog .len #[44] 3 [false] [t10] w fun t11 w =>
 xCall Tryd.prog (fnv 64) [t1, (.int .i64 1), t11] w fun t12 w =>
 xUn Tryd.prog .not t12 w fun t13 w =>
 xIf t13
 (K (.tuple #[(c64 0), (.int .i64 1)]) w)
 (xNilCheck t0 w fun t15 w =>
 xFieldAddr Tryd.prog 67 t15 0 w fun t16 w =>
 xLoad Tryd.prog 44 t16 w fun t17 w =>
 xIndexAddr Tryd.prog 44 t17 t1 w fun t19 w =>
 xLoad Tryd.prog 69 t19 w fun t20 w =>
 K (.tuple #[t20, (.int .i64 0)]) w)
abbrev n_mem_Mem_Get : Nat := 40
def mem_Mem_Get_ann : Ann := { loop := fun i => [], wr := fun i => [], told := fun i => [] }
theorem mem_Mem_Get_eq (t0 t1 : Value) (w : World) (K : K1) : reads Tryd.prog mem_Mem_Get_ann Tryd.f40 #[t0, t1] w K = mem_Mem_Get K t0 t1 w := by kernel_rfl
theorem mem_Mem_Get_of {t0 t1 : Value} {w : World} {K : K1} (h : mem_Mem_Get K t0 t1 w) : Yld Tryd.prog n_mem_Mem_Get #[t0, t1] w K :=
  yld_of mixed mem_Mem_Get_ann Tryd.func40 (by kernel_rfl) (mem_Mem_Get_eq t0 t1 w K) h

/-! loam/space.Of: function 41 -/
def space_Of (K : K1) (t0 t1 t2 t3 : Value) (w : World) : Prop :=
 xCall Tryd.prog (fnv 25) [t0, t1, t2, t3] w fun t17 w =>
 xUn Tryd.prog .not t17 w fun t18 w =>
 xIf t18
 (K (.tuple #[(.pointer none), (.int .i64 1)]) w)
 (xBuild Tryd.prog 65 [(0, t0), (1, t1), (2, t2), (3, t3)] w fun t23 w =>
 xBox Tryd.prog 65 t23 w fun t24 w =>
 xCall Tryd.prog (fnv 33) [t24] w fun t27 w =>
 xExtract Tryd.prog t27 0 w fun t28 w =>
 xExtract Tryd.prog t27 1 w fun t29 w =>
 xBin Tryd.prog .neq 25 false t29 true (.int .i64 0) w fun t31 w =>
 xIf t31
 (K (.tuple #[(.pointer none), t29]) w)
 (K (.tuple #[t24, (.int .i64 0)]) w))
abbrev n_space_Of : Nat := 41
def space_Of_ann : Ann := { loop := fun i => [], wr := fun i => [], told := fun i => [] }
theorem space_Of_eq (t0 t1 t2 t3 : Value) (w : World) (K : K1) : reads Tryd.prog space_Of_ann Tryd.f41 #[t0, t1, t2, t3] w K = space_Of K t0 t1 t2 t3 w := by kernel_rfl
theorem space_Of_of {t0 t1 t2 t3 : Value} {w : World} {K : K1} (h : space_Of K t0 t1 t2 t3 w) : Yld Tryd.prog n_space_Of #[t0, t1, t2, t3] w K :=
  yld_of mixed space_Of_ann Tryd.func41 (by kernel_rfl) (space_Of_eq t0 t1 t2 t3 w K) h

/-! loam/loamlaw15.Mem: function 42 -/
def loamlaw15_Mem (K : K1) (t0 : Value) (w : World) : Prop :=
 xCall Tryd.prog (fnv 71) [t0] w fun t7 w =>
 xExtract Tryd.prog t7 0 w fun t8 w =>
 xExtract Tryd.prog t7 1 w fun t9 w =>
 xBin Tryd.prog .neq 3 false t9 true (.int .i64 0) w fun t11 w =>
 xIf t11
 (K (.pointer none) w)
 (K t8 w)
abbrev n_loamlaw15_Mem : Nat := 42
def loamlaw15_Mem_ann : Ann := { loop := fun i => [], wr := fun i => [], told := fun i => [] }
theorem loamlaw15_Mem_eq (t0 : Value) (w : World) (K : K1) : reads Tryd.prog loamlaw15_Mem_ann Tryd.f42 #[t0] w K = loamlaw15_Mem K t0 w := by kernel_rfl
theorem loamlaw15_Mem_of {t0 : Value} {w : World} {K : K1} (h : loamlaw15_Mem K t0 w) : Yld Tryd.prog n_loamlaw15_Mem #[t0] w K :=
  yld_of mixed loamlaw15_Mem_ann Tryd.func42 (by kernel_rfl) (loamlaw15_Mem_eq t0 w K) h

/-! (*loam/loamref14.Space).Objects: function 43 -/
def loamref14_Space_Objects_l1 (K : K1) (nxt0 : List Value → World → Prop) (t0 t4 t5 : Value) (w : World) : Prop :=
 xNilCheck t0 w fun t14_1 w =>
 xFieldAddr Tryd.prog 48 t14_1 2 w fun t15_1 w =>
 xLoad Tryd.prog 3 t15_1 w fun t16_1 w =>
 xBin Tryd.prog .lss 3 false t5 false t16_1 w fun t17_1 w =>
 xIf t17_1
 (xNilCheck t0 w fun t20_1 w =>
 xFieldAddr Tryd.prog 48 t20_1 0 w fun t21_1 w =>
 xLoad Tryd.prog 44 t21_1 w fun t22_1 w =>
 xIndexAddr Tryd.prog 44 t22_1 t5 w fun t24_1 w =>
 xLoad Tryd.prog 69 t24_1 w fun t25_1 w =>
 xCall Tryd.prog (fnv 44) [t25_1] w fun t26_1 w =>
 xExtract Tryd.prog t26_1 0 w fun t27_1 w =>
 xExtract Tryd.prog t26_1 1 w fun t28_1 w =>
 xAlloc Tryd.prog 92 w fun t6_1 w =>
 xStore Tryd.prog 92 t6_1 t27_1 w fun _ w =>
 xSq w.drew fun w =>
 xPur w (fun w K => K t28_1 w) fun t29_1 =>
 xPur w (fun w K => xBin Tryd.prog .neq 3 false t29_1 true (.int .i64 0) w K) fun t30_1 =>
 xPur w (fun w K => K t30_1 w) fun t31_1 =>
 xPur w (fun w K => xGuard t31_1 false (fun w K => xFieldAddr Tryd.prog 92 t6_1 2 w K) w K) fun t32_1 =>
 xRd w (fun K => xGuard t31_1 false (fun w K => xLoad Tryd.prog 4 t32_1 w K) w K) fun t33_1 =>
 xPur w (fun w K => xPick t31_1 (.bool true) t33_1 w K) fun t34_1 =>
 xPur w (fun w K => K t34_1 w) fun t35_1 =>
 xRd w (fun K => xGuard t35_1 false (fun w K => xLoad Tryd.prog 92 t6_1 w K) w K) fun t36_1 =>
 xPur w (fun w K => xGuard t35_1 false (fun w K => K t0 w) w K) fun t38_1 =>
 xPur w (fun w K => xGuard t35_1 false (fun w K => xNilCheck t38_1 w K) w K) fun t39_1 =>
 xPur w (fun w K => xGuard t35_1 false (fun w K => xFieldAddr Tryd.prog 48 t39_1 2 w K) w K) fun t40_1 =>
 xRd w (fun K => xGuard t35_1 false (fun w K => xLoad Tryd.prog 3 t40_1 w K) w K) fun t41_1 =>
 xPur w (fun w K => xGuard t35_1 false (fun w K => K t5 w) w K) fun t42_1 =>
 xPur w (fun w K => xGuard t35_1 false (fun w K => xBin Tryd.prog .sub 3 false t41_1 false t42_1 w K) w K) fun t43_1 =>
 xGuard t35_1 false (fun w K => xCall Tryd.prog (fnv 72) [t36_1] w K) w fun t37_1 w =>
 xRe w (fun K => xGuard t35_1 false (fun w K => xLoad Tryd.prog 3 t40_1 w K) w K) t41_1 (
 xPur w (fun w K => xGuard t35_1 false (fun w K => xBin Tryd.prog .gtr 3 false t37_1 false t43_1 w K) w K) fun t44_1 =>
 xPur w (fun w K => xPick t35_1 (.bool true) t44_1 w K) fun t45_1 =>
 xIf t45_1
 (K (.tuple #[(.slice none 0 0), (.bool false)]) w)
 (xBuildSlice Tryd.prog 40 1 [(0, t5)] w fun t48_1 w =>
 xBuiltin Tryd.prog .append #[40, 40] 40 [false, false] [t4, t48_1] w fun t49_1 w =>
 xLoad Tryd.prog 92 t6_1 w fun t51_1 w =>
 xCall Tryd.prog (fnv 72) [t51_1] w fun t52_1 w =>
 xBin Tryd.prog .add 3 false t5 false t52_1 w fun t53_1 w =>
 nxt0 [t49_1, t53_1] w)))
 (K (.tuple #[t4, (.bool true)]) w)
def loamref14_Space_Objects (K : K1) (t0 : Value) (w : World) : Prop :=
 xNilCheck t0 w fun t9 w =>
 xFieldAddr Tryd.prog 48 t9 1 w fun t10 w =>
 xLoad Tryd.prog 3 t10 w fun t11 w =>
 xLoop [(.slice none 0 0), t11] w [4, 5] fun u w nxt0 =>
 loamref14_Space_Objects_l1 K nxt0 t0 (u 4) (u 5) w
abbrev n_loamref14_Space_Objects : Nat := 43
def loamref14_Space_Objects_ann : Ann := { loop := fun i => bif Nat.beq i 0 then [4, 5] else [], wr := fun i => bif Nat.beq i 0 then [2, 3, 4, 5, 6, 7, 12, 13, 14, 15, 16, 17, 18, 19, 20, 21, 22, 23, 24, 25, 26, 27, 28, 29, 30, 31, 32, 33, 34, 35, 36, 37, 38, 39, 40, 41, 42, 43, 44, 45, 46, 47, 48, 49, 50, 51, 52, 53] else [], told := fun i => bif Nat.beq i 5 then [(0, false, ⟨0, 536871040, some 29⟩), (1, false, ⟨1, 1610612736, some 30⟩), (2, false, ⟨2, 3221225472, some 31⟩), (3, false, ⟨4, 6442451008, some 32⟩), (4, false, ⟨12, 15032385536, some 33⟩), (5, false, ⟨20, 27917287424, some 34⟩), (6, false, ⟨36, 51539607552, some 35⟩), (7, false, ⟨64, 103079215168, some 36⟩), (9, false, ⟨64, 309237645313, some 38⟩), (10, false, ⟨576, 858993459200, some 39⟩), (11, false, ⟨1088, 1683627180032, some 40⟩), (12, false, ⟨2112, 3332894621696, some 41⟩), (13, false, ⟨64, 4432406249504, some 42⟩), (14, false, ⟨12352, 15427522527232, some 43⟩), (8, false, ⟨192, 240518168576, some 37⟩), (15, false, ⟨16704, 26560077758464, some 44⟩), (16, false, ⟨32832, 52810917871616, some 45⟩)] else [], sq := fun i => bif Nat.beq i 5 then some (.rd true 0 (.rd true 1 (.rd true 2 (.rd true 3 (.rd false 4 (.rd true 5 (.rd true 6 (.rd false 7 (.rd true 9 (.rd true 10 (.rd true 11 (.rd false 12 (.rd true 13 (.rd true 14 (.ef 8 [12] (.rd true 15 (.rd true 16 .done))))))))))))))))) else none }
theorem loamref14_Space_Objects_eq (t0 : Value) (w : World) (K : K1) : reads Tryd.prog loamref14_Space_Objects_ann Tryd.f43 #[t0] w K = loamref14_Space_Objects K t0 w := by kernel_rfl
theorem loamref14_Space_Objects_of {t0 : Value} {w : World} {K : K1} (h : loamref14_Space_Objects K t0 w) : Yld Tryd.prog n_loamref14_Space_Objects #[t0] w K :=
  yld_of mixed loamref14_Space_Objects_ann Tryd.func43 (by kernel_rfl) (loamref14_Space_Objects_eq t0 w K) h

/-! loam/loamref14.Unpack: function 44 -/
def loamref14_Unpack_j1 (K : K1) (t0 t2 t4 : Value) (w : World) : Prop :=
 xLoad Tryd.prog 92 t4 w fun t22_1 w =>
 xCall Tryd.prog (fnv 74) [t22_1] w fun t23_1 w =>
 xExtract Tryd.prog t23_1 0 w fun t24_1 w =>
 xExtract Tryd.prog t23_1 1 w fun t25_1 w =>
 xBin Tryd.prog .neq 3 false t25_1 true (.int .i64 0) w fun t27_1 w =>
 xGuard t27_1 false (fun w K => K t24_1 w) w fun t29_1 w =>
 xGuard t27_1 false (fun w K => K t0 w) w fun t30_1 w =>
 xGuard t27_1 false (fun w K => xBin Tryd.prog .neq 69 false t29_1 false t30_1 w K) w fun t31_1 w =>
 xPick t27_1 (.bool true) t31_1 w fun t32_1 w =>
 xIf t32_1
 (xBuild Tryd.prog 92 [] w fun t33_1 w =>
 xStore Tryd.prog 92 t2 t33_1 w fun _ w =>
 xLoadR Tryd.prog 92 t2 w fun r0 =>
 K (.tuple #[r0, (.int .i64 2)]) w)
 (xLoad Tryd.prog 92 t4 w fun t34_1 w =>
 xStore Tryd.prog 92 t2 t34_1 w fun _ w =>
 xLoadR Tryd.prog 92 t2 w fun r0 =>
 K (.tuple #[r0, (.int .i64 0)]) w)
def loamref14_Unpack (K : K1) (t0 : Value) (w : World) : Prop :=
 xAlloc Tryd.prog 92 w fun t2 w =>
 xCall Tryd.prog (fnv 73) [t0, (.int .i64 1), (.int .i64 8)] w fun t8 w =>
 xConv Tryd.prog 69 3 t8 w fun t9 w =>
 xCall Tryd.prog (fnv 73) [t0, (.int .i64 16), (.int .i64 12)] w fun t11 w =>
 xConv Tryd.prog 69 3 t11 w fun t12 w =>
 xBuild Tryd.prog 92 [(0, t9), (1, t12)] w fun t13 w =>
 xAlloc Tryd.prog 92 w fun t4 w =>
 xStore Tryd.prog 92 t4 t13 w fun _ w =>
 xBin Tryd.prog .and 69 false t0 true (c64 1) w fun t15 w =>
 xBin Tryd.prog .eql 69 false t15 true (c64 1) w fun t16 w =>
 xIf t16
 (xCall Tryd.prog (fnv 73) [t0, (.int .i64 32), (.int .i64 16)] w fun t18 w =>
 xConv Tryd.prog 69 3 t18 w fun t19 w =>
 xBuild Tryd.prog 92 [(2, (.bool true)), (3, t19)] w fun t20 w =>
 xStore Tryd.prog 92 t4 t20 w fun _ w =>
 loamref14_Unpack_j1 K t0 t2 t4 w)
 (loamref14_Unpack_j1 K t0 t2 t4 w)
abbrev n_loamref14_Unpack : Nat := 44
def loamref14_Unpack_ann : Ann := { loop := fun i => [], wr := fun i => [], told := fun i => [] }
theorem loamref14_Unpack_eq (t0 : Value) (w : World) (K : K1) : reads Tryd.prog loamref14_Unpack_ann Tryd.f44 #[t0] w K = loamref14_Unpack K t0 w := by kernel_rfl
theorem loamref14_Unpack_of {t0 : Value} {w : World} {K : K1} (h : loamref14_Unpack K t0 w) : Yld Tryd.prog n_loamref14_Unpack #[t0] w K :=
  yld_of mixed loamref14_Unpack_ann Tryd.func44 (by kernel_rfl) (loamref14_Unpack_eq t0 w K) h

/-! loam/loamref14.Points: function 45 -/
def loamref14_Points (K : K1) (t0 t1 : Value) (w : World) : Prop :=
 xBin Tryd.prog .eql 69 false t1 true (c64 0) w fun t6 w =>
 xGuard t6 false (fun w K => K t1 w) w fun t8 w =>
 xGuard t6 false (fun w K => xBin Tryd.prog .sub 69 false t8 true (c64 1) w K) w fun t9 w =>
 xGuard t6 false (fun w K => xBin Tryd.prog .lss 69 false t9 true (c64 1073741824) w K) w fun t10 w =>
 xGuard t6 false (fun w K => K t10 w) w fun t11 w =>
 xGuard t11 true (fun w K => K t0 w) w fun t12 w =>
 xGuard t11 true (fun w K => K t1 w) w fun t13 w =>
 xGuard t11 true (fun w K => xBin Tryd.prog .sub 69 false t13 true (c64 1) w K) w fun t14 w =>
 xGuard t11 true (fun w K => xConv Tryd.prog 69 3 t14 w K) w fun t15 w =>
 xGuard t11 true (fun w K => xCall Tryd.prog (fnv 75) [t12, t15] w K) w fun t16 w =>
 xGuard t6 false (fun w K => xPick t11 t16 (.bool false) w K) w fun t17 w =>
 xPick t6 (.bool true) t17 w fun t18 w =>
 K t18 w
abbrev n_loamref14_Points : Nat := 45
def loamref14_Points_ann : Ann := { loop := fun i => [], wr := fun i => [], told := fun i => [] }
theorem loamref14_Points_eq (t0 t1 : Value) (w : World) (K : K1) : reads Tryd.prog loamref14_Points_ann Tryd.f45 #[t0, t1] w K = loamref14_Points K t0 t1 w := by kernel_rfl
theorem loamref14_Points_of {t0 t1 : Value} {w : World} {K : K1} (h : loamref14_Points K t0 t1 w) : Yld Tryd.prog n_loamref14_Points #[t0, t1] w K :=
  yld_of mixed loamref14_Points_ann Tryd.func45 (by kernel_rfl) (loamref14_Points_eq t0 t1 w K) h

/-! (*loam/loamref14.Space).Pad: function 46 -/
def loamref14_Space_Pad_l1 (K : K1) (nxt0 : List Value → World → Prop) (t0 t1 t5 t8 : Value) (w : World) : Prop :=
 xLoad Tryd.prog 92 t5 w fun t21_1 w =>
 xCall Tryd.prog (fnv 72) [t21_1] w fun t22_1 w =>
 xBin Tryd.prog .add 3 false t1 false t22_1 w fun t23_1 w =>
 xBin Tryd.prog .mul 3 true (.int .i64 8) false t23_1 w fun t24_1 w =>
 xBin Tryd.prog .lss 3 false t8 false t24_1 w fun t25_1 w =>
 xIf t25_1
 (xNilCheck t0 w fun t29_1 w =>
 xFieldAddr Tryd.prog 48 t29_1 0 w fun t30_1 w =>
 xLoad Tryd.prog 44 t30_1 w fun t31_1 w =>
 xCall Tryd.prog (fnv 76) [t31_1, t8] w fun t33_1 w =>
 xBin Tryd.prog .neq 5 false t33_1 true (c8 0) w fun t34_1 w =>
 xIf t34_1
 (K (.bool true) w)
 (xBin Tryd.prog .add 3 false t8 true (.int .i64 1) w fun t27_1 w =>
 nxt0 [t27_1] w))
 (K (.bool false) w)
def loamref14_Space_Pad (K : K1) (t0 t1 t2 : Value) (w : World) : Prop :=
 xBox Tryd.prog 92 t2 w fun t5 w =>
 xBin Tryd.prog .add 3 false t1 true (.int .i64 1) w fun t10 w =>
 xFieldAddr Tryd.prog 92 t5 0 w fun t11 w =>
 xLoad Tryd.prog 3 t11 w fun t12 w =>
 xBin Tryd.prog .add 3 false t10 false t12 w fun t13 w =>
 xBin Tryd.prog .mul 3 true (.int .i64 8) false t13 w fun t14 w =>
 xFieldAddr Tryd.prog 92 t5 1 w fun t15 w =>
 xLoad Tryd.prog 3 t15 w fun t16 w =>
 xBin Tryd.prog .add 3 false t14 false t16 w fun t17 w =>
 xLoop [t17] w [8] fun u w nxt0 =>
 loamref14_Space_Pad_l1 K nxt0 t0 t1 t5 (u 8) w
abbrev n_loamref14_Space_Pad : Nat := 46
def loamref14_Space_Pad_ann : Ann := { loop := fun i => bif Nat.beq i 0 then [8] else [], wr := fun i => bif Nat.beq i 0 then [6, 8, 19, 20, 21, 22, 23, 24, 25, 26, 27, 28, 29, 30, 31, 32, 33, 34] else [], told := fun i => [] }
theorem loamref14_Space_Pad_eq (t0 t1 t2 : Value) (w : World) (K : K1) : reads Tryd.prog loamref14_Space_Pad_ann Tryd.f46 #[t0, t1, t2] w K = loamref14_Space_Pad K t0 t1 t2 w := by kernel_rfl
theorem loamref14_Space_Pad_of {t0 t1 t2 : Value} {w : World} {K : K1} (h : loamref14_Space_Pad K t0 t1 t2 w) : Yld Tryd.prog n_loamref14_Space_Pad #[t0, t1, t2] w K :=
  yld_of mixed loamref14_Space_Pad_ann Tryd.func46 (by kernel_rfl) (loamref14_Space_Pad_eq t0 t1 t2 w K) h

/-! (*loam/loamref14.Space).object: function 47 -/
def loamref14_Space_object (K : K1) (t0 t1 : Value) (w : World) : Prop :=
 xAlloc Tryd.prog 92 w fun t4 w =>
 xCall Tryd.prog (fnv 58) [t0, t1] w fun t11 w =>
 xExtract Tryd.prog t11 0 w fun t12 w =>
 xExtract Tryd.prog t11 1 w fun t13 w =>
 xAlloc Tryd.prog 92 w fun t6 w =>
 xStore Tryd.prog 92 t6 t12 w fun _ w =>
 xBin Tryd.prog .neq 3 false t13 true (.int .i64 0) w fun t15 w =>
 xIf t15
 (xLoad Tryd.prog 92 t6 w fun t16 w =>
 xStore Tryd.prog 92 t4 t16 w fun _ w =>
 xLoadR Tryd.prog 92 t4 w fun r0 =>
 K (.tuple #[r0, t13]) w)
 (xSq w.drew fun w =>
 xPur w (fun w K => xFieldAddr Tryd.prog 92 t6 2 w K) fun t18 =>
 xRd w (fun K => xLoad Tryd.prog 4 t18 w K) fun t19 =>
 xPur w (fun w K => K t19 w) fun t20 =>
 xRd w (fun K => xGuard t20 false (fun w K => xLoad Tryd.prog 92 t6 w K) w K) fun t21 =>
 xPur w (fun w K => xGuard t20 false (fun w K => K t0 w) w K) fun t23 =>
 xPur w (fun w K => xGuard t20 false (fun w K => xNilCheck t23 w K) w K) fun t24 =>
 xPur w (fun w K => xGuard t20 false (fun w K => xFieldAddr Tryd.prog 48 t24 2 w K) w K) fun t25 =>
 xRd w (fun K => xGuard t20 false (fun w K => xLoad Tryd.prog 3 t25 w K) w K) fun t26 =>
 xPur w (fun w K => xGuard t20 false (fun w K => K t1 w) w K) fun t27 =>
 xPur w (fun w K => xGuard t20 false (fun w K => xBin Tryd.prog .sub 3 false t26 false t27 w K) w K) fun t28 =>
 xGuard t20 false (fun w K => xCall Tryd.prog (fnv 72) [t21] w K) w fun t22 w =>
 xRe w (fun K => xGuard t20 false (fun w K => xLoad Tryd.prog 3 t25 w K) w K) t26 (
 xPur w (fun w K => xGuard t20 false (fun w K => xBin Tryd.prog .gtr 3 false t22 false t28 w K) w K) fun t29 =>
 xPur w (fun w K => xPick t20 (.bool true) t29 w K) fun t30 =>
 xIf t30
 (xBuild Tryd.prog 92 [] w fun t31 w =>
 xStore Tryd.prog 92 t4 t31 w fun _ w =>
 xLoadR Tryd.prog 92 t4 w fun r0 =>
 K (.tuple #[r0, (.int .i64 2)]) w)
 (xLoad Tryd.prog 92 t6 w fun t32 w =>
 xStore Tryd.prog 92 t4 t32 w fun _ w =>
 xLoadR Tryd.prog 92 t4 w fun r0 =>
 K (.tuple #[r0, (.int .i64 0)]) w)))
abbrev n_loamref14_Space_object : Nat := 47
def loamref14_Space_object_ann : Ann := { loop := fun i => [], wr := fun i => [], told := fun i => bif Nat.beq i 4 then [(0, false, ⟨0, 262208, some 18⟩), (1, false, ⟨1, 786432, some 19⟩), (2, false, ⟨2, 1572864, some 20⟩), (3, false, ⟨4, 3145792, some 21⟩), (5, false, ⟨4, 9437185, some 23⟩), (6, false, ⟨36, 26214400, some 24⟩), (7, false, ⟨68, 51380224, some 25⟩), (8, false, ⟨132, 101711872, some 26⟩), (9, false, ⟨4, 135266306, some 27⟩), (10, false, ⟨772, 470810624, some 28⟩), (4, false, ⟨12, 7340032, some 22⟩), (11, false, ⟨1044, 810549248, some 29⟩), (12, false, ⟨2052, 1611661312, some 30⟩)] else [], sq := fun i => bif Nat.beq i 4 then some (.rd true 0 (.rd false 1 (.rd true 2 (.rd false 3 (.rd true 5 (.rd true 6 (.rd true 7 (.rd false 8 (.rd true 9 (.rd true 10 (.ef 4 [8] (.rd true 11 (.rd true 12 .done))))))))))))) else none }
theorem loamref14_Space_object_eq (t0 t1 : Value) (w : World) (K : K1) : reads Tryd.prog loamref14_Space_object_ann Tryd.f47 #[t0, t1] w K = loamref14_Space_object K t0 t1 w := by kernel_rfl
theorem loamref14_Space_object_of {t0 t1 : Value} {w : World} {K : K1} (h : loamref14_Space_object K t0 t1 w) : Yld Tryd.prog n_loamref14_Space_object #[t0, t1] w K :=
  yld_of mixed loamref14_Space_object_ann Tryd.func47 (by kernel_rfl) (loamref14_Space_object_eq t0 t1 w K) h

/-! (*loam/loamref14.Space).place: function 48 -/
def loamref14_Space_place (K : K1) (t0 t1 : Value) (w : World) : Prop :=
 xNilCheck t0 w fun t7 w =>
 xFieldAddr Tryd.prog 48 t7 1 w fun t8 w =>
 xLoad Tryd.prog 3 t8 w fun t9 w =>
 xBin Tryd.prog .geq 3 false t1 false t9 w fun t10 w =>
 xGuard t10 true (fun w K => K t1 w) w fun t12 w =>
 xGuard t10 true (fun w K => K t0 w) w fun t13 w =>
 xGuard t10 true (fun w K => xNilCheck t13 w K) w fun t14 w =>
 xGuard t10 true (fun w K => xFieldAddr Tryd.prog 48 t14 2 w K) w fun t15 w =>
 xGuard t10 true (fun w K => xLoad Tryd.prog 3 t15 w K) w fun t16 w =>
 xGuard t10 true (fun w K => xBin Tryd.prog .lss 3 false t12 false t16 w K) w fun t17 w =>
 xPick t10 t17 (.bool false) w fun t18 w =>
 K t18 w
abbrev n_loamref14_Space_place : Nat := 48
def loamref14_Space_place_ann : Ann := { loop := fun i => [], wr := fun i => [], told := fun i => [] }
theorem loamref14_Space_place_eq (t0 t1 : Value) (w : World) (K : K1) : reads Tryd.prog loamref14_Space_place_ann Tryd.f48 #[t0, t1] w K = loamref14_Space_place K t0 t1 w := by kernel_rfl
theorem loamref14_Space_place_of {t0 t1 : Value} {w : World} {K : K1} (h : loamref14_Space_place K t0 t1 w) : Yld Tryd.prog n_loamref14_Space_place #[t0, t1] w K :=
  yld_of mixed loamref14_Space_place_ann Tryd.func48 (by kernel_rfl) (loamref14_Space_place_eq t0 t1 w K) h

/-! loam/loamref14.Bytes: function 49 -/
def loamref14_Bytes_l1 (K : K1) (nxt0 : List Value → World → Prop) (t0 t1 t2 t7 t8 : Value) (w : World) : Prop :=
 xBin Tryd.prog .lss 3 false t8 false t2 w fun t11_1 w =>
 xIf t11_1
 (xBin Tryd.prog .add 3 false t1 false t8 w fun t18_1 w =>
 xCall Tryd.prog (fnv 76) [t0, t18_1] w fun t19_1 w =>
 xBuildSlice Tryd.prog 22 1 [(0, t19_1)] w fun t20_1 w =>
 xBuiltin Tryd.prog .append #[22, 22] 22 [false, false] [t7, t20_1] w fun t21_1 w =>
 xBin Tryd.prog .add 3 false t8 true (.int .i64 1) w fun t13_1 w =>
 nxt0 [t21_1, t13_1] w)
 (K t7 w)
def loamref14_Bytes (K : K1) (t0 t1 t2 : Value) (w : World) : Prop :=
 xLoop [(.slice none 0 0), (.int .i64 0)] w [7, 8] fun u w nxt0 =>
 loamref14_Bytes_l1 K nxt0 t0 t1 t2 (u 7) (u 8) w
abbrev n_loamref14_Bytes : Nat := 49
def loamref14_Bytes_ann : Ann := { loop := fun i => bif Nat.beq i 0 then [7, 8] else [], wr := fun i => bif Nat.beq i 0 then [7, 8, 9, 10, 11, 12, 13, 14, 15, 16, 17, 18, 19, 20, 21] else [], told := fun i => [] }
theorem loamref14_Bytes_eq (t0 t1 t2 : Value) (w : World) (K : K1) : reads Tryd.prog loamref14_Bytes_ann Tryd.f49 #[t0, t1, t2] w K = loamref14_Bytes K t0 t1 t2 w := by kernel_rfl
theorem loamref14_Bytes_of {t0 t1 t2 : Value} {w : World} {K : K1} (h : loamref14_Bytes K t0 t1 t2 w) : Yld Tryd.prog n_loamref14_Bytes #[t0, t1, t2] w K :=
  yld_of mixed loamref14_Bytes_ann Tryd.func49 (by kernel_rfl) (loamref14_Bytes_eq t0 t1 t2 w K) h

/-! loam/loamref14.SetBytes: function 50 -/
def loamref14_SetBytes_l1 (K : K1) (nxt0 : List Value → World → Prop) (t1 t2 t7 t8 : Value) (w : World) : Prop :=
 xBuiltin Tryd.prog .len #[22] 3 [false] [t2] w fun t14_1 w =>
 xBin Tryd.prog .lss 3 false t8 false t14_1 w fun t15_1 w =>
 xIf t15_1
 (xSq w.drew fun w =>
 xPur w (fun w K => K t7 w) fun t18_1 =>
 xPur w (fun w K => K t1 w) fun t19_1 =>
 xPur w (fun w K => K t8 w) fun t20_1 =>
 xPur w (fun w K => xBin Tryd.prog .add 3 false t19_1 false t20_1 w K) fun t21_1 =>
 xPur w (fun w K => xBin Tryd.prog .quo 3 false t21_1 true (.int .i64 8) w K) fun t22_1 =>
 xPur w (fun w K => K t7 w) fun t23_1 =>
 xPur w (fun w K => K t1 w) fun t24_1 =>
 xPur w (fun w K => K t8 w) fun t25_1 =>
 xPur w (fun w K => xBin Tryd.prog .add 3 false t24_1 false t25_1 w K) fun t26_1 =>
 xPur w (fun w K => xBin Tryd.prog .quo 3 false t26_1 true (.int .i64 8) w K) fun t27_1 =>
 xPur w (fun w K => xIndexAddr Tryd.prog 44 t23_1 t27_1 w K) fun t28_1 =>
 xRd w (fun K => xLoad Tryd.prog 69 t28_1 w K) fun t29_1 =>
 xPur w (fun w K => K t1 w) fun t30_1 =>
 xPur w (fun w K => K t8 w) fun t31_1 =>
 xPur w (fun w K => xBin Tryd.prog .add 3 false t30_1 false t31_1 w K) fun t32_1 =>
 xPur w (fun w K => xBin Tryd.prog .rem 3 false t32_1 true (.int .i64 8) w K) fun t33_1 =>
 xPur w (fun w K => xBin Tryd.prog .mul 3 true (.int .i64 8) false t33_1 w K) fun t34_1 =>
 xPur w (fun w K => K t2 w) fun t35_1 =>
 xPur w (fun w K => K t8 w) fun t36_1 =>
 xPur w (fun w K => xIndexAddr Tryd.prog 22 t35_1 t36_1 w K) fun t37_1 =>
 xRd w (fun K => xLoad Tryd.prog 5 t37_1 w K) fun t38_1 =>
 xPur w (fun w K => xConv Tryd.prog 5 69 t38_1 w K) fun t39_1 =>
 xCall Tryd.prog (fnv 77) [t29_1, t34_1, (.int .i64 8), t39_1] w fun t40_1 w =>
 xPur w (fun w K => xIndexAddr Tryd.prog 44 t18_1 t22_1 w K) fun t41_1 =>
 xStore Tryd.prog 69 t41_1 t40_1 w fun _x24 w =>
 xBin Tryd.prog .add 3 false t8 true (.int .i64 1) w fun t17_1 w =>
 nxt0 [t17_1] w)
 (K t7 w)
def loamref14_SetBytes (K : K1) (t0 t1 t2 : Value) (w : World) : Prop :=
 xBuildSlice Tryd.prog 44 0 [] w fun t9 w =>
 xBuiltin Tryd.prog .append #[44, 44] 44 [false, false] [t9, t0] w fun t11 w =>
 xLoop [(.int .i64 0)] w [8] fun u w nxt0 =>
 loamref14_SetBytes_l1 K nxt0 t1 t2 t11 (u 8) w
abbrev n_loamref14_SetBytes : Nat := 50
def loamref14_SetBytes_ann : Ann := { loop := fun i => bif Nat.beq i 0 then [8] else [], wr := fun i => bif Nat.beq i 0 then [8, 12, 13, 14, 15, 16, 17, 18, 19, 20, 21, 22, 23, 24, 25, 26, 27, 28, 29, 30, 31, 32, 33, 34, 35, 36, 37, 38, 39, 40, 41] else [], told := fun i => bif Nat.beq i 5 then [(0, false, ⟨0, 262272, some 18⟩), (1, false, ⟨0, 524290, some 19⟩), (2, false, ⟨0, 1048832, some 20⟩), (3, false, ⟨6, 3670016, some 21⟩), (4, false, ⟨8, 6291456, some 22⟩), (5, false, ⟨0, 8388736, some 23⟩), (6, false, ⟨0, 16777218, some 24⟩), (7, false, ⟨0, 33554688, some 25⟩), (8, false, ⟨192, 117440512, some 26⟩), (9, false, ⟨256, 201326592, some 27⟩), (10, false, ⟨544, 411041792, some 28⟩), (11, false, ⟨1024, 805306368, some 29⟩), (12, false, ⟨0, 1073741826, some 30⟩), (13, false, ⟨0, 2147483904, some 31⟩), (14, false, ⟨12288, 7516192768, some 32⟩), (15, false, ⟨16384, 12884901888, some 33⟩), (16, false, ⟨32768, 25769803776, some 34⟩), (17, false, ⟨0, 34359738372, some 35⟩), (18, false, ⟨0, 68719476992, some 36⟩), (19, false, ⟨393216, 240518168576, some 37⟩), (20, false, ⟨524288, 412316860416, some 38⟩), (21, false, ⟨1048576, 824633720832, some 39⟩), (22, false, ⟨2164736, 1666984181760, some 40⟩), (23, false, ⟨8388607, 2199027712000, some 41⟩), (24, false, ⟨16777215, 3298534883328, none⟩)] else [], sq := fun i => bif Nat.beq i 5 then some (.rd true 0 (.rd true 1 (.rd true 2 (.rd true 3 (.rd true 4 (.rd true 5 (.rd true 6 (.rd true 7 (.rd true 8 (.rd true 9 (.rd true 10 (.rd false 11 (.rd true 12 (.rd true 13 (.rd true 14 (.rd true 15 (.rd true 16 (.rd true 17 (.rd true 18 (.rd true 19 (.rd false 20 (.rd true 21 (.ef 22 [] (.rd true 23 (.ef 24 [] .done))))))))))))))))))))))))) else none }
theorem loamref14_SetBytes_eq (t0 t1 t2 : Value) (w : World) (K : K1) : reads Tryd.prog loamref14_SetBytes_ann Tryd.f50 #[t0, t1, t2] w K = loamref14_SetBytes K t0 t1 t2 w := by kernel_rfl
theorem loamref14_SetBytes_of {t0 t1 t2 : Value} {w : World} {K : K1} (h : loamref14_SetBytes K t0 t1 t2 w) : Yld Tryd.prog n_loamref14_SetBytes #[t0, t1, t2] w K :=
  yld_of mixed loamref14_SetBytes_ann Tryd.func50 (by kernel_rfl) (loamref14_SetBytes_eq t0 t1 t2 w K) h

/-! (*loam/mem.Mem).Words: function 51 -/
def mem_Mem_Words (K : K1) (t0 : Value) (w : World) : Prop :=
 xNilCheck t0 w fun t4 w =>
 xFieldAddr Tryd.prog 67 t4 0 w fun t5 w =>
 xLoad Tryd.prog 44 t5 w fun t6 w =>
 xCall Tryd.prog (fnv 79) [t6] w fun t7 w =>
 xCall Tryd.prog (fnv 78) [t7] w fun t8 w =>
 K t8 w
abbrev n_mem_Mem_Words : Nat := 51
def mem_Mem_Words_ann : Ann := { loop := fun i => [], wr := fun i => [], told := fun i => [] }
theorem mem_Mem_Words_eq (t0 : Value) (w : World) (K : K1) : reads Tryd.prog mem_Mem_Words_ann Tryd.f51 #[t0] w K = mem_Mem_Words K t0 w := by kernel_rfl
theorem mem_Mem_Words_of {t0 : Value} {w : World} {K : K1} (h : mem_Mem_Words K t0 w) : Yld Tryd.prog n_mem_Mem_Words #[t0] w K :=
  yld_of mixed mem_Mem_Words_ann Tryd.func51 (by kernel_rfl) (mem_Mem_Words_eq t0 w K) h

/-! (*loam/space.Space).Used: function 52 -/
def space_Space_Used (K : K1) (t0 : Value) (w : World) : Prop :=
 xSq w.drew fun w =>
 xPur w (fun w K => K t0 w) fun t3 =>
 xPur w (fun w K => xNilCheck t3 w K) fun t4 =>
 xPur w (fun w K => xFieldAddr Tryd.prog 65 t4 2 w K) fun t5 =>
 xRd w (fun K => xLoad Tryd.prog 3 t5 w K) fun t6 =>
 xPur w (fun w K => K t0 w) fun t7 =>
 xPur w (fun w K => xNilCheck t7 w K) fun t8 =>
 xPur w (fun w K => xFieldAddr Tryd.prog 65 t8 1 w K) fun t9 =>
 xRd w (fun K => xLoad Tryd.prog 3 t9 w K) fun t10 =>
 xPur w (fun w K => xBin Tryd.prog .sub 3 false t6 false t10 w K) fun t11 =>
 xPur w (fun w K => K t11 w) fun t2 =>
 K t2 w
abbrev n_space_Space_Used : Nat := 52
def space_Space_Used_ann : Ann := { loop := fun i => [], wr := fun i => [], told := fun i => bif Nat.beq i 1 then [(0, false, ⟨0, 9, some 3⟩), (1, false, ⟨1, 24, some 4⟩), (2, false, ⟨2, 48, some 5⟩), (3, false, ⟨4, 96, some 6⟩), (4, false, ⟨0, 129, some 7⟩), (5, false, ⟨16, 384, some 8⟩), (6, false, ⟨32, 768, some 9⟩), (7, false, ⟨64, 1536, some 10⟩), (8, false, ⟨136, 3136, some 11⟩), (9, false, ⟨511, 2052, some 2⟩)] else [], sq := fun i => bif Nat.beq i 1 then some (.rd true 0 (.rd true 1 (.rd true 2 (.rd false 3 (.rd true 4 (.rd true 5 (.rd true 6 (.rd false 7 (.rd true 8 (.rd true 9 .done)))))))))) else none }
theorem space_Space_Used_eq (t0 : Value) (w : World) (K : K1) : reads Tryd.prog space_Space_Used_ann Tryd.f52 #[t0] w K = space_Space_Used K t0 w := by kernel_rfl
theorem space_Space_Used_of {t0 : Value} {w : World} {K : K1} (h : space_Space_Used K t0 w) : Yld Tryd.prog n_space_Space_Used #[t0] w K :=
  yld_of mixed space_Space_Used_ann Tryd.func52 (by kernel_rfl) (space_Space_Used_eq t0 w K) h

/-! (loam/api.Errno).Error: function 53 -/
def api_Errno_Error (K : K1) (t0 : Value) (w : World) : Prop :=
 xBin Tryd.prog .eql 25 false t0 true (.int .i64 0) w fun t5 w =>
 xIf t5
 (K (.string { data := #[111, 107] }) w)
 (xBin Tryd.prog .eql 25 false t0 true (.int .i64 1) w fun t7 w =>
 xIf t7
 (K (.string { data := #[97, 114, 103] }) w)
 (xBin Tryd.prog .eql 25 false t0 true (.int .i64 2) w fun t9 w =>
 xIf t9
 (K (.string { data := #[102, 111, 114, 109] }) w)
 (xBin Tryd.prog .eql 25 false t0 true (.int .i64 3) w fun t11 w =>
 xIf t11
 (K (.string { data := #[108, 111, 110, 103] }) w)
 (xBin Tryd.prog .eql 25 false t0 true (.int .i64 4) w fun t13 w =>
 xIf t13
 (K (.string { data := #[110, 97, 109, 101] }) w)
 (xBin Tryd.prog .eql 25 false t0 true (.int .i64 5) w fun t15 w =>
 xIf t15
 (K (.string { data := #[104, 97, 110, 100] }) w)
 (xBin Tryd.prog .eql 25 false t0 true (.int .i64 6) w fun t17 w =>
 xIf t17
 (K (.string { data := #[102, 117, 108, 108] }) w)
 (xBin Tryd.prog .eql 25 false t0 true (.int .i64 7) w fun t19 w =>
 xIf t19
 (K (.string { data := #[100, 111, 119, 110] }) w)
 (xBin Tryd.prog .eql 25 false t0 true (.int .i64 8) w fun t21 w =>
 xIf t21
 (K (.string { data := #[98, 117, 115, 121] }) w)
 (K (.string { data := #[101, 114, 114, 111, 114] }) w)))))))))
abbrev n_api_Errno_Error : Nat := 53
def api_Errno_Error_ann : Ann := { loop := fun i => [], wr := fun i => [], told := fun i => [] }
theorem api_Errno_Error_eq (t0 : Value) (w : World) (K : K1) : reads Tryd.prog api_Errno_Error_ann Tryd.f53 #[t0] w K = api_Errno_Error K t0 w := by kernel_rfl
theorem api_Errno_Error_of {t0 : Value} {w : World} {K : K1} (h : api_Errno_Error K t0 w) : Yld Tryd.prog n_api_Errno_Error #[t0] w K :=
  yld_of mixed api_Errno_Error_ann Tryd.func53 (by kernel_rfl) (api_Errno_Error_eq t0 w K) h

/-! (*strings.Builder).WriteString: function 54 -/
/-! (*strings.Builder).WriteByte: function 56 -/
def strings_Builder_WriteByte (K : K1) (t0 t1 : Value) (w : World) : Prop :=
 xCall Tryd.prog (fnv 80) [t0] w fun t6 w =>
 xNilCheck t0 w fun t9 w =>
 xFieldAddr Tryd.prog 105 t9 1 w fun t10 w =>
 xLoad Tryd.prog 22 t10 w fun t11 w =>
 xBuildSlice Tryd.prog 22 1 [(0, t1)] w fun t13 w =>
 xBuiltin Tryd.prog .append #[22, 22] 22 [false, false] [t11, t13] w fun t14 w =>
 xNilCheck t0 w fun t15 w =>
 xFieldAddr Tryd.prog 105 t15 1 w fun t16 w =>
 xStore Tryd.prog 22 t16 t14 w fun _ w =>
 K (.nilIface) w
abbrev n_strings_Builder_WriteByte : Nat := 56
def strings_Builder_WriteByte_ann : Ann := { loop := fun i => [], wr := fun i => [], told := fun i => [] }
theorem strings_Builder_WriteByte_eq (t0 t1 : Value) (w : World) (K : K1) : reads Tryd.prog strings_Builder_WriteByte_ann Tryd.f56 #[t0, t1] w K = strings_Builder_WriteByte K t0 t1 w := by kernel_rfl
theorem strings_Builder_WriteByte_of {t0 t1 : Value} {w : World} {K : K1} (h : strings_Builder_WriteByte K t0 t1 w) : Yld Tryd.prog n_strings_Builder_WriteByte #[t0, t1] w K :=
  yld_of mixed strings_Builder_WriteByte_ann Tryd.func56 (by kernel_rfl) (strings_Builder_WriteByte_eq t0 t1 w K) h

/-! (*loam/loamref14.Space).Head: function 58 -/
def loamref14_Space_Head (K : K1) (t0 t1 : Value) (w : World) : Prop :=
 xAlloc Tryd.prog 92 w fun t4 w =>
 xNilCheck t0 w fun t8 w =>
 xFieldAddr Tryd.prog 48 t8 1 w fun t9 w =>
 xLoad Tryd.prog 3 t9 w fun t10 w =>
 xBin Tryd.prog .lss 3 false t1 false t10 w fun t11 w =>
 xGuard t11 false (fun w K => K t1 w) w fun t13 w =>
 xGuard t11 false (fun w K => K t0 w) w fun t14 w =>
 xGuard t11 false (fun w K => xNilCheck t14 w K) w fun t15 w =>
 xGuard t11 false (fun w K => xFieldAddr Tryd.prog 48 t15 2 w K) w fun t16 w =>
 xGuard t11 false (fun w K => xLoad Tryd.prog 3 t16 w K) w fun t17 w =>
 xGuard t11 false (fun w K => xBin Tryd.prog .geq 3 false t13 false t17 w K) w fun t18 w =>
 xPick t11 (.bool true) t18 w fun t19 w =>
 xIf t19
 (xBuild Tryd.prog 92 [] w fun t20 w =>
 xStore Tryd.prog 92 t4 t20 w fun _ w =>
 xLoadR Tryd.prog 92 t4 w fun r0 =>
 K (.tuple #[r0, (.int .i64 1)]) w)
 (xNilCheck t0 w fun t22 w =>
 xFieldAddr Tryd.prog 48 t22 0 w fun t23 w =>
 xLoad Tryd.prog 44 t23 w fun t24 w =>
 xIndexAddr Tryd.prog 44 t24 t1 w fun t26 w =>
 xLoad Tryd.prog 69 t26 w fun t27 w =>
 xCall Tryd.prog (fnv 44) [t27] w fun t28 w =>
 xExtract Tryd.prog t28 0 w fun t29 w =>
 xExtract Tryd.prog t28 1 w fun t30 w =>
 xStore Tryd.prog 92 t4 t29 w fun _ w =>
 xLoadR Tryd.prog 92 t4 w fun r0 =>
 K (.tuple #[r0, t30]) w)
abbrev n_loamref14_Space_Head : Nat := 58
def loamref14_Space_Head_ann : Ann := { loop := fun i => [], wr := fun i => [], told := fun i => [] }
theorem loamref14_Space_Head_eq (t0 t1 : Value) (w : World) (K : K1) : reads Tryd.prog loamref14_Space_Head_ann Tryd.f58 #[t0, t1] w K = loamref14_Space_Head K t0 t1 w := by kernel_rfl
theorem loamref14_Space_Head_of {t0 t1 : Value} {w : World} {K : K1} (h : loamref14_Space_Head K t0 t1 w) : Yld Tryd.prog n_loamref14_Space_Head #[t0, t1] w K :=
  yld_of mixed loamref14_Space_Head_ann Tryd.func58 (by kernel_rfl) (loamref14_Space_Head_eq t0 t1 w K) h

/-! loam/loamref17.Decimal: function 59 -/
def loamref17_Decimal_l1 (K : K1) (nxt0 : List Value → World → Prop) (t0 t3 : Value) (w : World) : Prop :=
 xBin Tryd.prog .geq 3 false t0 true (.int .i64 10) w fun t11_1 w =>
 xIf t11_1
 (xBin Tryd.prog .quo 3 false t0 true (.int .i64 10) w fun t13_1 w =>
 xBin Tryd.prog .rem 3 false t13_1 true (.int .i64 10) w fun t15_1 w =>
 xBin Tryd.prog .add 3 true (.int .i64 48) false t15_1 w fun t16_1 w =>
 xConv Tryd.prog 3 5 t16_1 w fun t17_1 w =>
 xBuildSlice Tryd.prog 22 1 [(0, t17_1)] w fun t18_1 w =>
 xConv Tryd.prog 22 9 t18_1 w fun t19_1 w =>
 xBin Tryd.prog .add 9 false t19_1 false t3 w fun t21_1 w =>
 nxt0 [t13_1, t21_1] w)
 (K t3 w)
def loamref17_Decimal (K : K1) (t0 : Value) (w : World) : Prop :=
 xBin Tryd.prog .rem 3 false t0 true (.int .i64 10) w fun t5 w =>
 xBin Tryd.prog .add 3 true (.int .i64 48) false t5 w fun t6 w =>
 xConv Tryd.prog 3 5 t6 w fun t7 w =>
 xBuildSlice Tryd.prog 22 1 [(0, t7)] w fun t8 w =>
 xConv Tryd.prog 22 9 t8 w fun t9 w =>
 xLoop [t0, t9] w [0, 3] fun u w nxt0 =>
 loamref17_Decimal_l1 K nxt0 (u 0) (u 3) w
abbrev n_loamref17_Decimal : Nat := 59
def loamref17_Decimal_ann : Ann := { loop := fun i => bif Nat.beq i 0 then [0, 3] else [], wr := fun i => bif Nat.beq i 0 then [0, 3, 10, 11, 12, 13, 14, 15, 16, 17, 18, 19, 20, 21] else [], told := fun i => [] }
theorem loamref17_Decimal_eq (t0 : Value) (w : World) (K : K1) : reads Tryd.prog loamref17_Decimal_ann Tryd.f59 #[t0] w K = loamref17_Decimal K t0 w := by kernel_rfl
theorem loamref17_Decimal_of {t0 : Value} {w : World} {K : K1} (h : loamref17_Decimal K t0 w) : Yld Tryd.prog n_loamref17_Decimal #[t0] w K :=
  yld_of mixed loamref17_Decimal_ann Tryd.func59 (by kernel_rfl) (loamref17_Decimal_eq t0 w K) h

/-! loam/loamref17.Hex: function 60 -/
def loamref17_Hex_l1 (K : K1) (nxt0 : List Value → World → Prop) (t0 t4 t5 : Value) (w : World) : Prop :=
 xBuiltin Tryd.prog .len #[22] 3 [false] [t0] w fun t8_1 w =>
 xBin Tryd.prog .lss 3 false t5 false t8_1 w fun t9_1 w =>
 xIf t9_1
 (xSq w.drew fun w =>
 xPur w (fun w K => K t4 w) fun t12_1 =>
 xPur w (fun w K => K (.string { data := #[48, 49, 50, 51, 52, 53, 54, 55, 56, 57, 97, 98, 99, 100, 101, 102] }) w) fun t13_1 =>
 xPur w (fun w K => K t0 w) fun t14_1 =>
 xPur w (fun w K => K t5 w) fun t15_1 =>
 xPur w (fun w K => xIndexAddr Tryd.prog 22 t14_1 t15_1 w K) fun t16_1 =>
 xRd w (fun K => xLoad Tryd.prog 5 t16_1 w K) fun t17_1 =>
 xPur w (fun w K => xBin Tryd.prog .shr 5 false t17_1 true (c64 4) w K) fun t18_1 =>
 xPur w (fun w K => xIndex Tryd.prog 9 t13_1 t18_1 w K) fun t19_1 =>
 xPur w (fun w K => K (.string { data := #[48, 49, 50, 51, 52, 53, 54, 55, 56, 57, 97, 98, 99, 100, 101, 102] }) w) fun t20_1 =>
 xPur w (fun w K => K t0 w) fun t21_1 =>
 xPur w (fun w K => K t5 w) fun t22_1 =>
 xPur w (fun w K => xIndexAddr Tryd.prog 22 t21_1 t22_1 w K) fun t23_1 =>
 xRd w (fun K => xLoad Tryd.prog 5 t23_1 w K) fun t24_1 =>
 xPur w (fun w K => xBin Tryd.prog .and 5 false t24_1 true (c8 15) w K) fun t25_1 =>
 xPur w (fun w K => xIndex Tryd.prog 9 t20_1 t25_1 w K) fun t26_1 =>
 xBuildSlice Tryd.prog 22 2 [(0, t19_1), (1, t26_1)] w fun t27_1 w =>
 xRd w (fun K => xConv Tryd.prog 22 9 t27_1 w K) fun t28_1 =>
 xPur w (fun w K => xBin Tryd.prog .add 9 false t12_1 false t28_1 w K) fun t29_1 =>
 xPur w (fun w K => K t29_1 w) fun t4_1 =>
 xBin Tryd.prog .add 3 false t5 true (.int .i64 1) w fun t11_1 w =>
 nxt0 [t4_1, t11_1] w)
 (K t4 w)
def loamref17_Hex (K : K1) (t0 : Value) (w : World) : Prop :=
 xLoop [(.string { data := #[] }), (.int .i64 0)] w [4, 5] fun u w nxt0 =>
 loamref17_Hex_l1 K nxt0 t0 (u 4) (u 5) w
abbrev n_loamref17_Hex : Nat := 60
def loamref17_Hex_ann : Ann := { loop := fun i => bif Nat.beq i 0 then [4, 5] else [], wr := fun i => bif Nat.beq i 0 then [4, 5, 6, 7, 8, 9, 10, 11, 12, 13, 14, 15, 16, 17, 18, 19, 20, 21, 22, 23, 24, 25, 26, 27, 28, 29] else [], told := fun i => bif Nat.beq i 6 then [(0, false, ⟨0, 4112, some 12⟩), (1, false, ⟨0, 8200, some 13⟩), (2, false, ⟨0, 16385, some 14⟩), (3, false, ⟨0, 32800, some 15⟩), (4, false, ⟨12, 114688, some 16⟩), (5, false, ⟨16, 196608, some 17⟩), (6, false, ⟨32, 393216, some 18⟩), (7, false, ⟨66, 794624, some 19⟩), (8, false, ⟨0, 1048584, some 20⟩), (9, false, ⟨0, 2097153, some 21⟩), (10, false, ⟨0, 4194336, some 22⟩), (11, false, ⟨1536, 14680064, some 23⟩), (12, false, ⟨2048, 25165824, some 24⟩), (13, false, ⟨4096, 50331648, some 25⟩), (14, false, ⟨8448, 101711872, some 26⟩), (15, false, ⟨16512, 201850880, some 27⟩), (16, false, ⟨32768, 402653184, some 28⟩), (17, false, ⟨65537, 805310464, some 29⟩), (18, false, ⟨262143, 536870928, some 4⟩)] else [], sq := fun i => bif Nat.beq i 6 then some (.rd true 0 (.rd true 1 (.rd true 2 (.rd true 3 (.rd true 4 (.rd false 5 (.rd true 6 (.rd true 7 (.rd true 8 (.rd true 9 (.rd true 10 (.rd true 11 (.rd false 12 (.rd true 13 (.rd true 14 (.ef 15 [] (.rd false 16 (.rd true 17 (.rd true 18 .done))))))))))))))))))) else none }
theorem loamref17_Hex_eq (t0 : Value) (w : World) (K : K1) : reads Tryd.prog loamref17_Hex_ann Tryd.f60 #[t0] w K = loamref17_Hex K t0 w := by kernel_rfl
theorem loamref17_Hex_of {t0 : Value} {w : World} {K : K1} (h : loamref17_Hex K t0 w) : Yld Tryd.prog n_loamref17_Hex #[t0] w K :=
  yld_of mixed loamref17_Hex_ann Tryd.func60 (by kernel_rfl) (loamref17_Hex_eq t0 w K) h

/-! (*loam/mem.Mem).Len: function 61 -/
def mem_Mem_Len (K : K1) (t0 : Value) (w : World) : Prop :=
 xNilCheck t0 w fun t4 w =>
 xFieldAddr Tryd.prog 67 t4 0 w fun t5 w =>
 xLoad Tryd.prog 44 t5 w fun t6 w =>
 xBuiltin Tryd.prog .len #[44] 3 [false] [t6] w fun t7 w =>
 K t7 w
abbrev n_mem_Mem_Len : Nat := 61
def mem_Mem_Len_ann : Ann := { loop := fun i => [], wr := fun i => [], told := fun i => [] }
theorem mem_Mem_Len_eq (t0 : Value) (w : World) (K : K1) : reads Tryd.prog mem_Mem_Len_ann Tryd.f61 #[t0] w K = mem_Mem_Len K t0 w := by kernel_rfl
theorem mem_Mem_Len_of {t0 : Value} {w : World} {K : K1} (h : mem_Mem_Len K t0 w) : Yld Tryd.prog n_mem_Mem_Len #[t0] w K :=
  yld_of mixed mem_Mem_Len_ann Tryd.func61 (by kernel_rfl) (mem_Mem_Len_eq t0 w K) h

/-! loam/head.Right: function 62 -/
def head_Right (K : K1) (t0 : Value) (w : World) : Prop :=
 xBox Tryd.prog 34 t0 w fun t1 w =>
 xFieldAddr Tryd.prog 34 t1 2 w fun t3 w =>
 xLoad Tryd.prog 4 t3 w fun t4 w =>
 xIf t4
 (xFieldAddr Tryd.prog 34 t1 0 w fun t5 w =>
 xLoad Tryd.prog 3 t5 w fun t6 w =>
 xBin Tryd.prog .eql 3 false t6 true (.int .i64 0) w fun t7 w =>
 xGuard t7 true (fun w K => xFieldAddr Tryd.prog 34 t1 1 w K) w fun t9 w =>
 xGuard t7 true (fun w K => xLoad Tryd.prog 3 t9 w K) w fun t10 w =>
 xGuard t7 true (fun w K => xBin Tryd.prog .eql 3 false t10 true (.int .i64 0) w K) w fun t11 w =>
 xPick t7 t11 (.bool false) w fun t12 w =>
 xGuard t12 true (fun w K => xFieldAddr Tryd.prog 34 t1 3 w K) w fun t14 w =>
 xGuard t12 true (fun w K => xLoad Tryd.prog 3 t14 w K) w fun t15 w =>
 xGuard t12 true (fun w K => xBin Tryd.prog .geq 3 false t15 true (.int .i64 0) w K) w fun t16 w =>
 xPick t12 t16 (.bool false) w fun t17 w =>
 xGuard t17 true (fun w K => xFieldAddr Tryd.prog 34 t1 3 w K) w fun t19 w =>
 xGuard t17 true (fun w K => xLoad Tryd.prog 3 t19 w K) w fun t20 w =>
 xGuard t17 true (fun w K => xBin Tryd.prog .lss 3 false t20 true (.int .i64 8192) w K) w fun t21 w =>
 xPick t17 t21 (.bool false) w fun t22 w =>
 K t22 w)
 (xFieldAddr Tryd.prog 34 t1 3 w fun t23 w =>
 xLoad Tryd.prog 3 t23 w fun t24 w =>
 xBin Tryd.prog .eql 3 false t24 true (.int .i64 0) w fun t25 w =>
 xGuard t25 true (fun w K => xFieldAddr Tryd.prog 34 t1 0 w K) w fun t27 w =>
 xGuard t25 true (fun w K => xLoad Tryd.prog 3 t27 w K) w fun t28 w =>
 xGuard t25 true (fun w K => xBin Tryd.prog .geq 3 false t28 true (.int .i64 0) w K) w fun t29 w =>
 xPick t25 t29 (.bool false) w fun t30 w =>
 xGuard t30 true (fun w K => xFieldAddr Tryd.prog 34 t1 0 w K) w fun t32 w =>
 xGuard t30 true (fun w K => xLoad Tryd.prog 3 t32 w K) w fun t33 w =>
 xGuard t30 true (fun w K => xBin Tryd.prog .leq 3 false t33 true (.int .i64 64) w K) w fun t34 w =>
 xPick t30 t34 (.bool false) w fun t35 w =>
 xGuard t35 true (fun w K => xFieldAddr Tryd.prog 34 t1 1 w K) w fun t37 w =>
 xGuard t35 true (fun w K => xLoad Tryd.prog 3 t37 w K) w fun t38 w =>
 xGuard t35 true (fun w K => xBin Tryd.prog .geq 3 false t38 true (.int .i64 0) w K) w fun t39 w =>
 xPick t35 t39 (.bool false) w fun t40 w =>
 xGuard t40 true (fun w K => xFieldAddr Tryd.prog 34 t1 1 w K) w fun t42 w =>
 xGuard t40 true (fun w K => xLoad Tryd.prog 3 t42 w K) w fun t43 w =>
 xGuard t40 true (fun w K => xBin Tryd.prog .leq 3 false t43 true (.int .i64 1024) w K) w fun t44 w =>
 xPick t40 t44 (.bool false) w fun t45 w =>
 K t45 w)
abbrev n_head_Right : Nat := 62
def head_Right_ann : Ann := { loop := fun i => [], wr := fun i => [], told := fun i => [] }
theorem head_Right_eq (t0 : Value) (w : World) (K : K1) : reads Tryd.prog head_Right_ann Tryd.f62 #[t0] w K = head_Right K t0 w := by kernel_rfl
theorem head_Right_of {t0 : Value} {w : World} {K : K1} (h : head_Right K t0 w) : Yld Tryd.prog n_head_Right #[t0] w K :=
  yld_of mixed head_Right_ann Tryd.func62 (by kernel_rfl) (head_Right_eq t0 w K) h

/-! loam/bits.With: function 63 -/
def bits_With (K : K1) (t0 t1 t2 t3 : Value) (w : World) : Prop :=
 xCall Tryd.prog (fnv 82) [t1, t2] w fun t14 w =>
 xExtract Tryd.prog t14 0 w fun t15 w =>
 xExtract Tryd.prog t14 1 w fun t16 w =>
 xUn Tryd.prog .not t16 w fun t18 w =>
 xIf t18
 (K t0 w)
 (xBin Tryd.prog .andNot 69 false t0 false t15 w fun t22 w =>
 xBin Tryd.prog .shl 69 false t3 false t1 w fun t25 w =>
 xBin Tryd.prog .and 69 false t25 false t15 w fun t27 w =>
 xBin Tryd.prog .or 69 false t22 false t27 w fun t28 w =>
 K t28 w)
abbrev n_bits_With : Nat := 63
def bits_With_ann : Ann := { loop := fun i => [], wr := fun i => [], told := fun i => [] }
theorem bits_With_eq (t0 t1 t2 t3 : Value) (w : World) (K : K1) : reads Tryd.prog bits_With_ann Tryd.f63 #[t0, t1, t2, t3] w K = bits_With K t0 t1 t2 t3 w := by kernel_rfl
theorem bits_With_of {t0 t1 t2 t3 : Value} {w : World} {K : K1} (h : bits_With K t0 t1 t2 t3 w) : Yld Tryd.prog n_bits_With #[t0, t1, t2, t3] w K :=
  yld_of mixed bits_With_ann Tryd.func63 (by kernel_rfl) (bits_With_eq t0 t1 t2 t3 w K) h

/-! loam/mem.in: function 64 -/
def mem_in (K : K1) (t0 t1 t2 : Value) (w : World) : Prop :=
 xBin Tryd.prog .geq 3 false t0 true (.int .i64 0) w fun t8 w =>
 xGuard t8 true (fun w K => K t1 w) w fun t10 w =>
 xGuard t8 true (fun w K => xBin Tryd.prog .geq 3 false t10 true (.int .i64 0) w K) w fun t11 w =>
 xPick t8 t11 (.bool false) w fun t12 w =>
 xGuard t12 true (fun w K => K t1 w) w fun t14 w =>
 xGuard t12 true (fun w K => K t2 w) w fun t15 w =>
 xGuard t12 true (fun w K => xBin Tryd.prog .leq 3 false t14 false t15 w K) w fun t16 w =>
 xPick t12 t16 (.bool false) w fun t17 w =>
 xGuard t17 true (fun w K => K t0 w) w fun t19 w =>
 xGuard t17 true (fun w K => K t2 w) w fun t20 w =>
 xGuard t17 true (fun w K => K t1 w) w fun t21 w =>
 xGuard t17 true (fun w K => xBin Tryd.prog .sub 3 false t20 false t21 w K) w fun t22 w =>
 xGuard t17 true (fun w K => xBin Tryd.prog .leq 3 false t19 false t22 w K) w fun t23 w =>
 xPick t17 t23 (.bool false) w fun t24 w =>
 K t24 w
abbrev n_mem_in : Nat := 64
def mem_in_ann : Ann := { loop := fun i => [], wr := fun i => [], told := fun i => [] }
theorem mem_in_eq (t0 t1 t2 : Value) (w : World) (K : K1) : reads Tryd.prog mem_in_ann Tryd.f64 #[t0, t1, t2] w K = mem_in K t0 t1 t2 w := by kernel_rfl
theorem mem_in_of {t0 t1 t2 : Value} {w : World} {K : K1} (h : mem_in K t0 t1 t2 w) : Yld Tryd.prog n_mem_in #[t0, t1, t2] w K :=
  yld_of mixed mem_in_ann Tryd.func64 (by kernel_rfl) (mem_in_eq t0 t1 t2 w K) h

/-! slices.Clip[[]byte,byte]: function 65 -/
def slices_Clip_byte_byte (K : K1) (t0 : Value) (w : World) : Prop :=
 xBuiltin Tryd.prog .len #[22] 3 [false] [t0] w fun t5 w =>
 xBuiltin Tryd.prog .len #[22] 3 [false] [t0] w fun t7 w =>
 xSlice Tryd.prog 22 t0 none (some t5) (some t7) w fun t8 w =>
 K t8 w
abbrev n_slices_Clip_byte_byte : Nat := 65
def slices_Clip_byte_byte_ann : Ann := { loop := fun i => [], wr := fun i => [], told := fun i => [] }
theorem slices_Clip_byte_byte_eq (t0 : Value) (w : World) (K : K1) : reads Tryd.prog slices_Clip_byte_byte_ann Tryd.f65 #[t0] w K = slices_Clip_byte_byte K t0 w := by kernel_rfl
theorem slices_Clip_byte_byte_of {t0 : Value} {w : World} {K : K1} (h : slices_Clip_byte_byte K t0 w) : Yld Tryd.prog n_slices_Clip_byte_byte #[t0] w K :=
  yld_of mixed slices_Clip_byte_byte_ann Tryd.func65 (by kernel_rfl) (slices_Clip_byte_byte_eq t0 w K) h

/-! slices.Clip[[]int,int]: function 66 -/
def slices_Clip_int_int (K : K1) (t0 : Value) (w : World) : Prop :=
 xBuiltin Tryd.prog .len #[40] 3 [false] [t0] w fun t5 w =>
 xBuiltin Tryd.prog .len #[40] 3 [false] [t0] w fun t7 w =>
 xSlice Tryd.prog 40 t0 none (some t5) (some t7) w fun t8 w =>
 K t8 w
abbrev n_slices_Clip_int_int : Nat := 66
def slices_Clip_int_int_ann : Ann := { loop := fun i => [], wr := fun i => [], told := fun i => [] }
theorem slices_Clip_int_int_eq (t0 : Value) (w : World) (K : K1) : reads Tryd.prog slices_Clip_int_int_ann Tryd.f66 #[t0] w K = slices_Clip_int_int K t0 w := by kernel_rfl
theorem slices_Clip_int_int_of {t0 : Value} {w : World} {K : K1} (h : slices_Clip_int_int K t0 w) : Yld Tryd.prog n_slices_Clip_int_int #[t0] w K :=
  yld_of mixed slices_Clip_int_int_ann Tryd.func66 (by kernel_rfl) (slices_Clip_int_int_eq t0 w K) h

/-! loam/head.Unpack: function 67 -/
def head_Unpack_j1 (K : K1) (t0 t2 t4 : Value) (w : World) : Prop :=
 xLoad Tryd.prog 34 t4 w fun t22_1 w =>
 xCall Tryd.prog (fnv 26) [t22_1] w fun t23_1 w =>
 xExtract Tryd.prog t23_1 0 w fun t24_1 w =>
 xExtract Tryd.prog t23_1 1 w fun t25_1 w =>
 xBin Tryd.prog .neq 25 false t25_1 true (.int .i64 0) w fun t27_1 w =>
 xGuard t27_1 false (fun w K => K t24_1 w) w fun t29_1 w =>
 xGuard t27_1 false (fun w K => K t0 w) w fun t30_1 w =>
 xGuard t27_1 false (fun w K => xBin Tryd.prog .neq 69 false t29_1 false t30_1 w K) w fun t31_1 w =>
 xPick t27_1 (.bool true) t31_1 w fun t32_1 w =>
 xIf t32_1
 (xBuild Tryd.prog 34 [] w fun t33_1 w =>
 xStore Tryd.prog 34 t2 t33_1 w fun _ w =>
 xLoadR Tryd.prog 34 t2 w fun r0 =>
 K (.tuple #[r0, (.int .i64 2)]) w)
 (xLoad Tryd.prog 34 t4 w fun t34_1 w =>
 xStore Tryd.prog 34 t2 t34_1 w fun _ w =>
 xLoadR Tryd.prog 34 t2 w fun r0 =>
 K (.tuple #[r0, (.int .i64 0)]) w)
def head_Unpack (K : K1) (t0 : Value) (w : World) : Prop :=
 xAlloc Tryd.prog 34 w fun t2 w =>
 xCall Tryd.prog (fnv 83) [t0, (.int .i64 1), (.int .i64 8)] w fun t8 w =>
 xConv Tryd.prog 69 3 t8 w fun t9 w =>
 xCall Tryd.prog (fnv 83) [t0, (.int .i64 16), (.int .i64 12)] w fun t11 w =>
 xConv Tryd.prog 69 3 t11 w fun t12 w =>
 xBuild Tryd.prog 34 [(0, t9), (1, t12)] w fun t13 w =>
 xAlloc Tryd.prog 34 w fun t4 w =>
 xStore Tryd.prog 34 t4 t13 w fun _ w =>
 xBin Tryd.prog .and 69 false t0 true (c64 1) w fun t15 w =>
 xBin Tryd.prog .eql 69 false t15 true (c64 1) w fun t16 w =>
 xIf t16
 (xCall Tryd.prog (fnv 83) [t0, (.int .i64 32), (.int .i64 16)] w fun t18 w =>
 xConv Tryd.prog 69 3 t18 w fun t19 w =>
 xBuild Tryd.prog 34 [(2, (.bool true)), (3, t19)] w fun t20 w =>
 xStore Tryd.prog 34 t4 t20 w fun _ w =>
 head_Unpack_j1 K t0 t2 t4 w)
 (head_Unpack_j1 K t0 t2 t4 w)
abbrev n_head_Unpack : Nat := 67
def head_Unpack_ann : Ann := { loop := fun i => [], wr := fun i => [], told := fun i => [] }
theorem head_Unpack_eq (t0 : Value) (w : World) (K : K1) : reads Tryd.prog head_Unpack_ann Tryd.f67 #[t0] w K = head_Unpack K t0 w := by kernel_rfl
theorem head_Unpack_of {t0 : Value} {w : World} {K : K1} (h : head_Unpack K t0 w) : Yld Tryd.prog n_head_Unpack #[t0] w K :=
  yld_of mixed head_Unpack_ann Tryd.func67 (by kernel_rfl) (head_Unpack_eq t0 w K) h

/-! slices.isNaN[int]: function 69 -/
/-! slices.IndexFunc[[]byte,byte]: function 70 -/
def slices_IndexFunc_byte_byte_l1 (K : K1) (nxt0 : List Value → World → Prop) (t0 t1 t7 t8 : Value) (w : World) : Prop :=
 xBin Tryd.prog .lss 3 false t8 false t7 w fun t9_1 w =>
 xIf t9_1
 (xIndexAddr Tryd.prog 22 t0 t8 w fun t14_1 w =>
 xLoad Tryd.prog 5 t14_1 w fun t15_1 w =>
 xCall Tryd.prog t1 [t15_1] w fun t16_1 w =>
 xIf t16_1
 (K t8 w)
 (xBin Tryd.prog .add 3 false t8 true (.int .i64 1) w fun t18_1 w =>
 nxt0 [t18_1] w))
 (K (.int .i64 (-1)) w)
def slices_IndexFunc_byte_byte (K : K1) (t0 t1 : Value) (w : World) : Prop :=
 xBuiltin Tryd.prog .len #[22] 3 [false] [t0] w fun t7 w =>
 xLoop [(.int .i64 0)] w [8] fun u w nxt0 =>
 slices_IndexFunc_byte_byte_l1 K nxt0 t0 t1 t7 (u 8) w
abbrev n_slices_IndexFunc_byte_byte : Nat := 70
def slices_IndexFunc_byte_byte_ann : Ann := { loop := fun i => bif Nat.beq i 0 then [8] else [], wr := fun i => bif Nat.beq i 0 then [4, 5, 8, 9, 10, 11, 12, 13, 14, 15, 16, 17, 18] else [], told := fun i => [] }
theorem slices_IndexFunc_byte_byte_eq (t0 t1 : Value) (w : World) (K : K1) : reads Tryd.prog slices_IndexFunc_byte_byte_ann Tryd.f70 #[t0, t1] w K = slices_IndexFunc_byte_byte K t0 t1 w := by kernel_rfl
theorem slices_IndexFunc_byte_byte_of {t0 t1 : Value} {w : World} {K : K1} (h : slices_IndexFunc_byte_byte K t0 t1 w) : Yld Tryd.prog n_slices_IndexFunc_byte_byte #[t0, t1] w K :=
  yld_of mixed slices_IndexFunc_byte_byte_ann Tryd.func70 (by kernel_rfl) (slices_IndexFunc_byte_byte_eq t0 t1 w K) h

/-! loam/mem.Of: function 71 -/
def mem_Of (K : K1) (t0 : Value) (w : World) : Prop :=
 xBuiltin Tryd.prog .len #[44] 3 [false] [t0] w fun t5 w =>
 xBin Tryd.prog .gtr 3 false t5 true (.int .i64 8192) w fun t6 w =>
 xIf t6
 (K (.tuple #[(.pointer none), (.int .i64 1)]) w)
 (xCall Tryd.prog (fnv 79) [t0] w fun t8 w =>
 xBuild Tryd.prog 67 [(0, t8)] w fun t9 w =>
 xBox Tryd.prog 67 t9 w fun t10 w =>
 K (.tuple #[t10, (.int .i64 0)]) w)
abbrev n_mem_Of : Nat := 71
def mem_Of_ann : Ann := { loop := fun i => [], wr := fun i => [], told := fun i => [] }
theorem mem_Of_eq (t0 : Value) (w : World) (K : K1) : reads Tryd.prog mem_Of_ann Tryd.f71 #[t0] w K = mem_Of K t0 w := by kernel_rfl
theorem mem_Of_of {t0 : Value} {w : World} {K : K1} (h : mem_Of K t0 w) : Yld Tryd.prog n_mem_Of #[t0] w K :=
  yld_of mixed mem_Of_ann Tryd.func71 (by kernel_rfl) (mem_Of_eq t0 w K) h

/-! loam/loamref14.Size: function 72 -/
def loamref14_Size (K : K1) (t0 : Value) (w : World) : Prop :=
 xBox Tryd.prog 92 t0 w fun t1 w =>
 xLoad Tryd.prog 92 t1 w fun t3 w =>
 xCall Tryd.prog (fnv 85) [t3] w fun t4 w =>
 xUn Tryd.prog .not t4 w fun t5 w =>
 xGuard t5 false (fun w K => xFieldAddr Tryd.prog 92 t1 2 w K) w fun t7 w =>
 xGuard t5 false (fun w K => xLoad Tryd.prog 4 t7 w K) w fun t8 w =>
 xPick t5 (.bool true) t8 w fun t9 w =>
 xIf t9
 (K (.int .i64 0) w)
 (xFieldAddr Tryd.prog 92 t1 0 w fun t10 w =>
 xLoad Tryd.prog 3 t10 w fun t11 w =>
 xBin Tryd.prog .add 3 true (.int .i64 1) false t11 w fun t12 w =>
 xFieldAddr Tryd.prog 92 t1 1 w fun t13 w =>
 xLoad Tryd.prog 3 t13 w fun t14 w =>
 xBin Tryd.prog .add 3 false t14 true (.int .i64 7) w fun t15 w =>
 xBin Tryd.prog .quo 3 false t15 true (.int .i64 8) w fun t16 w =>
 xBin Tryd.prog .add 3 false t12 false t16 w fun t17 w =>
 K t17 w)
abbrev n_loamref14_Size : Nat := 72
def loamref14_Size_ann : Ann := { loop := fun i => [], wr := fun i => [], told := fun i => [] }
theorem loamref14_Size_eq (t0 : Value) (w : World) (K : K1) : reads Tryd.prog loamref14_Size_ann Tryd.f72 #[t0] w K = loamref14_Size K t0 w := by kernel_rfl
theorem loamref14_Size_of {t0 : Value} {w : World} {K : K1} (h : loamref14_Size K t0 w) : Yld Tryd.prog n_loamref14_Size #[t0] w K :=
  yld_of mixed loamref14_Size_ann Tryd.func72 (by kernel_rfl) (loamref14_Size_eq t0 w K) h

/-! loam/loamref1.Field: function 73 -/
def loamref1_Field (K : K1) (t0 t1 t2 : Value) (w : World) : Prop :=
 xBin Tryd.prog .lss 3 false t1 true (.int .i64 0) w fun t8 w =>
 xGuard t8 false (fun w K => K t1 w) w fun t10 w =>
 xGuard t8 false (fun w K => xBin Tryd.prog .gtr 3 false t10 true (.int .i64 63) w K) w fun t11 w =>
 xPick t8 (.bool true) t11 w fun t12 w =>
 xGuard t12 false (fun w K => K t2 w) w fun t14 w =>
 xGuard t12 false (fun w K => xBin Tryd.prog .lss 3 false t14 true (.int .i64 1) w K) w fun t15 w =>
 xPick t12 (.bool true) t15 w fun t16 w =>
 xGuard t16 false (fun w K => K t2 w) w fun t18 w =>
 xGuard t16 false (fun w K => K t1 w) w fun t19 w =>
 xGuard t16 false (fun w K => xBin Tryd.prog .sub 3 true (.int .i64 64) false t19 w K) w fun t20 w =>
 xGuard t16 false (fun w K => xBin Tryd.prog .gtr 3 false t18 false t20 w K) w fun t21 w =>
 xPick t16 (.bool true) t21 w fun t22 w =>
 xIf t22
 (K (c64 0) w)
 (xConv Tryd.prog 3 112 t1 w fun t25 w =>
 xBin Tryd.prog .shr 69 false t0 false t25 w fun t26 w =>
 xCall Tryd.prog (fnv 86) [t2] w fun t28 w =>
 xBin Tryd.prog .and 69 false t26 false t28 w fun t29 w =>
 K t29 w)
abbrev n_loamref1_Field : Nat := 73
def loamref1_Field_ann : Ann := { loop := fun i => [], wr := fun i => [], told := fun i => [] }
theorem loamref1_Field_eq (t0 t1 t2 : Value) (w : World) (K : K1) : reads Tryd.prog loamref1_Field_ann Tryd.f73 #[t0, t1, t2] w K = loamref1_Field K t0 t1 t2 w := by kernel_rfl
theorem loamref1_Field_of {t0 t1 t2 : Value} {w : World} {K : K1} (h : loamref1_Field K t0 t1 t2 w) : Yld Tryd.prog n_loamref1_Field #[t0, t1, t2] w K :=
  yld_of mixed loamref1_Field_ann Tryd.func73 (by kernel_rfl) (loamref1_Field_eq t0 t1 t2 w K) h

/-! loam/loamref14.Pack: function 74 -/
def loamref14_Pack (K : K1) (t0 : Value) (w : World) : Prop :=
 xBox Tryd.prog 92 t0 w fun t1 w =>
 xLoad Tryd.prog 92 t1 w fun t5 w =>
 xCall Tryd.prog (fnv 85) [t5] w fun t6 w =>
 xUn Tryd.prog .not t6 w fun t7 w =>
 xIf t7
 (K (.tuple #[(c64 0), (.int .i64 1)]) w)
 (xFieldAddr Tryd.prog 92 t1 2 w fun t8 w =>
 xLoad Tryd.prog 4 t8 w fun t9 w =>
 xIf t9
 (xBin Tryd.prog .add 69 false (c64 9223372036854775808) true (c64 1) w fun t11 w =>
 xFieldAddr Tryd.prog 92 t1 3 w fun t12 w =>
 xLoad Tryd.prog 3 t12 w fun t13 w =>
 xConv Tryd.prog 3 69 t13 w fun t14 w =>
 xBin Tryd.prog .shl 69 false t14 true (c64 32) w fun t15 w =>
 xBin Tryd.prog .add 69 false t11 false t15 w fun t16 w =>
 K (.tuple #[t16, (.int .i64 0)]) w)
 (xFieldAddr Tryd.prog 92 t1 0 w fun t18 w =>
 xLoad Tryd.prog 3 t18 w fun t19 w =>
 xConv Tryd.prog 3 69 t19 w fun t20 w =>
 xBin Tryd.prog .shl 69 false t20 true (c64 1) w fun t21 w =>
 xBin Tryd.prog .add 69 false (c64 9223372036854775808) false t21 w fun t22 w =>
 xFieldAddr Tryd.prog 92 t1 1 w fun t23 w =>
 xLoad Tryd.prog 3 t23 w fun t24 w =>
 xConv Tryd.prog 3 69 t24 w fun t25 w =>
 xBin Tryd.prog .shl 69 false t25 true (c64 16) w fun t26 w =>
 xBin Tryd.prog .add 69 false t22 false t26 w fun t27 w =>
 K (.tuple #[t27, (.int .i64 0)]) w))
abbrev n_loamref14_Pack : Nat := 74
def loamref14_Pack_ann : Ann := { loop := fun i => [], wr := fun i => [], told := fun i => [] }
theorem loamref14_Pack_eq (t0 : Value) (w : World) (K : K1) : reads Tryd.prog loamref14_Pack_ann Tryd.f74 #[t0] w K = loamref14_Pack K t0 w := by kernel_rfl
theorem loamref14_Pack_of {t0 : Value} {w : World} {K : K1} (h : loamref14_Pack K t0 w) : Yld Tryd.prog n_loamref14_Pack #[t0] w K :=
  yld_of mixed loamref14_Pack_ann Tryd.func74 (by kernel_rfl) (loamref14_Pack_eq t0 w K) h

/-! loam/loamref14.among: function 75 -/
def loamref14_among_l1 (K : K1) (nxt0 : List Value → World → Prop) (t0 t1 t5 : Value) (w : World) : Prop :=
 xBuiltin Tryd.prog .len #[40] 3 [false] [t0] w fun t8_1 w =>
 xBin Tryd.prog .lss 3 false t5 false t8_1 w fun t9_1 w =>
 xIf t9_1
 (xIndexAddr Tryd.prog 40 t0 t5 w fun t14_1 w =>
 xLoad Tryd.prog 3 t14_1 w fun t15_1 w =>
 xBin Tryd.prog .eql 3 false t15_1 false t1 w fun t17_1 w =>
 xIf t17_1
 (K (.bool true) w)
 (xBin Tryd.prog .add 3 false t5 true (.int .i64 1) w fun t11_1 w =>
 nxt0 [t11_1] w))
 (K (.bool false) w)
def loamref14_among (K : K1) (t0 t1 : Value) (w : World) : Prop :=
 xLoop [(.int .i64 0)] w [5] fun u w nxt0 =>
 loamref14_among_l1 K nxt0 t0 t1 (u 5) w
abbrev n_loamref14_among : Nat := 75
def loamref14_among_ann : Ann := { loop := fun i => bif Nat.beq i 0 then [5] else [], wr := fun i => bif Nat.beq i 0 then [4, 5, 6, 7, 8, 9, 10, 11, 12, 13, 14, 15, 16, 17] else [], told := fun i => [] }
theorem loamref14_among_eq (t0 t1 : Value) (w : World) (K : K1) : reads Tryd.prog loamref14_among_ann Tryd.f75 #[t0, t1] w K = loamref14_among K t0 t1 w := by kernel_rfl
theorem loamref14_among_of {t0 t1 : Value} {w : World} {K : K1} (h : loamref14_among K t0 t1 w) : Yld Tryd.prog n_loamref14_among #[t0, t1] w K :=
  yld_of mixed loamref14_among_ann Tryd.func75 (by kernel_rfl) (loamref14_among_eq t0 t1 w K) h

/-! loam/loamref14.byteAt: function 76 -/
def loamref14_byteAt (K : K1) (t0 t1 : Value) (w : World) : Prop :=
 xBin Tryd.prog .quo 3 false t1 true (.int .i64 8) w fun t7 w =>
 xIndexAddr Tryd.prog 44 t0 t7 w fun t8 w =>
 xLoad Tryd.prog 69 t8 w fun t9 w =>
 xBin Tryd.prog .rem 3 false t1 true (.int .i64 8) w fun t11 w =>
 xBin Tryd.prog .mul 3 true (.int .i64 8) false t11 w fun t12 w =>
 xConv Tryd.prog 3 112 t12 w fun t13 w =>
 xBin Tryd.prog .shr 69 false t9 false t13 w fun t14 w =>
 xConv Tryd.prog 69 5 t14 w fun t15 w =>
 K t15 w
abbrev n_loamref14_byteAt : Nat := 76
def loamref14_byteAt_ann : Ann := { loop := fun i => [], wr := fun i => [], told := fun i => [] }
theorem loamref14_byteAt_eq (t0 t1 : Value) (w : World) (K : K1) : reads Tryd.prog loamref14_byteAt_ann Tryd.f76 #[t0, t1] w K = loamref14_byteAt K t0 t1 w := by kernel_rfl
theorem loamref14_byteAt_of {t0 t1 : Value} {w : World} {K : K1} (h : loamref14_byteAt K t0 t1 w) : Yld Tryd.prog n_loamref14_byteAt #[t0, t1] w K :=
  yld_of mixed loamref14_byteAt_ann Tryd.func76 (by kernel_rfl) (loamref14_byteAt_eq t0 t1 w K) h

/-! loam/loamref1.With: function 77 -/
def loamref1_With (K : K1) (t0 t1 t2 t3 : Value) (w : World) : Prop :=
 xBin Tryd.prog .lss 3 false t1 true (.int .i64 0) w fun t11 w =>
 xGuard t11 false (fun w K => K t1 w) w fun t13 w =>
 xGuard t11 false (fun w K => xBin Tryd.prog .gtr 3 false t13 true (.int .i64 63) w K) w fun t14 w =>
 xPick t11 (.bool true) t14 w fun t15 w =>
 xGuard t15 false (fun w K => K t2 w) w fun t17 w =>
 xGuard t15 false (fun w K => xBin Tryd.prog .lss 3 false t17 true (.int .i64 1) w K) w fun t18 w =>
 xPick t15 (.bool true) t18 w fun t19 w =>
 xGuard t19 false (fun w K => K t2 w) w fun t21 w =>
 xGuard t19 false (fun w K => K t1 w) w fun t22 w =>
 xGuard t19 false (fun w K => xBin Tryd.prog .sub 3 true (.int .i64 64) false t22 w K) w fun t23 w =>
 xGuard t19 false (fun w K => xBin Tryd.prog .gtr 3 false t21 false t23 w K) w fun t24 w =>
 xPick t19 (.bool true) t24 w fun t25 w =>
 xIf t25
 (K t0 w)
 (xCall Tryd.prog (fnv 86) [t2] w fun t28 w =>
 xConv Tryd.prog 3 112 t1 w fun t30 w =>
 xBin Tryd.prog .shl 69 false t28 false t30 w fun t31 w =>
 xBin Tryd.prog .and 69 false t0 false t31 w fun t35 w =>
 xBin Tryd.prog .sub 69 false t0 false t35 w fun t36 w =>
 xConv Tryd.prog 3 112 t1 w fun t39 w =>
 xBin Tryd.prog .shl 69 false t3 false t39 w fun t40 w =>
 xBin Tryd.prog .and 69 false t40 false t31 w fun t42 w =>
 xBin Tryd.prog .add 69 false t36 false t42 w fun t43 w =>
 K t43 w)
abbrev n_loamref1_With : Nat := 77
def loamref1_With_ann : Ann := { loop := fun i => [], wr := fun i => [], told := fun i => [] }
theorem loamref1_With_eq (t0 t1 t2 t3 : Value) (w : World) (K : K1) : reads Tryd.prog loamref1_With_ann Tryd.f77 #[t0, t1, t2, t3] w K = loamref1_With K t0 t1 t2 t3 w := by kernel_rfl
theorem loamref1_With_of {t0 t1 t2 t3 : Value} {w : World} {K : K1} (h : loamref1_With K t0 t1 t2 t3 w) : Yld Tryd.prog n_loamref1_With #[t0, t1, t2, t3] w K :=
  yld_of mixed loamref1_With_ann Tryd.func77 (by kernel_rfl) (loamref1_With_eq t0 t1 t2 t3 w K) h

/-! slices.Clip[[]uint64,uint64]: function 78 -/
def slices_Clip_uint64_uint64 (K : K1) (t0 : Value) (w : World) : Prop :=
 xBuiltin Tryd.prog .len #[44] 3 [false] [t0] w fun t5 w =>
 xBuiltin Tryd.prog .len #[44] 3 [false] [t0] w fun t7 w =>
 xSlice Tryd.prog 44 t0 none (some t5) (some t7) w fun t8 w =>
 K t8 w
abbrev n_slices_Clip_uint64_uint64 : Nat := 78
def slices_Clip_uint64_uint64_ann : Ann := { loop := fun i => [], wr := fun i => [], told := fun i => [] }
theorem slices_Clip_uint64_uint64_eq (t0 : Value) (w : World) (K : K1) : reads Tryd.prog slices_Clip_uint64_uint64_ann Tryd.f78 #[t0] w K = slices_Clip_uint64_uint64 K t0 w := by kernel_rfl
theorem slices_Clip_uint64_uint64_of {t0 : Value} {w : World} {K : K1} (h : slices_Clip_uint64_uint64 K t0 w) : Yld Tryd.prog n_slices_Clip_uint64_uint64 #[t0] w K :=
  yld_of mixed slices_Clip_uint64_uint64_ann Tryd.func78 (by kernel_rfl) (slices_Clip_uint64_uint64_eq t0 w K) h

/-! slices.Clone[[]uint64,uint64]: function 79 -/
def slices_Clone_uint64_uint64 (K : K1) (t0 : Value) (w : World) : Prop :=
 xBin Tryd.prog .eql 44 false t0 true (.slice none 0 0) w fun t4 w =>
 xIf t4
 (K (.slice none 0 0) w)
 (xBuildSlice Tryd.prog 44 0 [] w fun t5 w =>
 xBuiltin Tryd.prog .append #[44, 44] 44 [false, false] [t5, t0] w fun t7 w =>
 K t7 w)
abbrev n_slices_Clone_uint64_uint64 : Nat := 79
def slices_Clone_uint64_uint64_ann : Ann := { loop := fun i => [], wr := fun i => [], told := fun i => [] }
theorem slices_Clone_uint64_uint64_eq (t0 : Value) (w : World) (K : K1) : reads Tryd.prog slices_Clone_uint64_uint64_ann Tryd.f79 #[t0] w K = slices_Clone_uint64_uint64 K t0 w := by kernel_rfl
theorem slices_Clone_uint64_uint64_of {t0 : Value} {w : World} {K : K1} (h : slices_Clone_uint64_uint64 K t0 w) : Yld Tryd.prog n_slices_Clone_uint64_uint64 #[t0] w K :=
  yld_of mixed slices_Clone_uint64_uint64_ann Tryd.func79 (by kernel_rfl) (slices_Clone_uint64_uint64_eq t0 w K) h

/-! loam/bits.mask: function 82 -/
def bits_mask (K : K1) (t0 t1 : Value) (w : World) : Prop :=
 xBin Tryd.prog .lss 3 false t0 true (.int .i64 0) w fun t7 w =>
 xGuard t7 false (fun w K => K t0 w) w fun t9 w =>
 xGuard t7 false (fun w K => xBin Tryd.prog .geq 3 false t9 true (.int .i64 64) w K) w fun t10 w =>
 xPick t7 (.bool true) t10 w fun t11 w =>
 xGuard t11 false (fun w K => K t1 w) w fun t13 w =>
 xGuard t11 false (fun w K => xBin Tryd.prog .lss 3 false t13 true (.int .i64 1) w K) w fun t14 w =>
 xPick t11 (.bool true) t14 w fun t15 w =>
 xGuard t15 false (fun w K => K t1 w) w fun t17 w =>
 xGuard t15 false (fun w K => K t0 w) w fun t18 w =>
 xGuard t15 false (fun w K => xBin Tryd.prog .sub 3 true (.int .i64 64) false t18 w K) w fun t19 w =>
 xGuard t15 false (fun w K => xBin Tryd.prog .gtr 3 false t17 false t19 w K) w fun t20 w =>
 xPick t15 (.bool true) t20 w fun t21 w =>
 xIf t21
 (K (.tuple #[(c64 0), (.bool false)]) w)
 (xBin Tryd.prog .sub 3 true (.int .i64 64) false t1 w fun t23 w =>
 xBin Tryd.prog .shr 69 true (c64 18446744073709551615) false t23 w fun t24 w =>
 xBin Tryd.prog .shl 69 false t24 false t0 w fun t26 w =>
 K (.tuple #[t26, (.bool true)]) w)
abbrev n_bits_mask : Nat := 82
def bits_mask_ann : Ann := { loop := fun i => [], wr := fun i => [], told := fun i => [] }
theorem bits_mask_eq (t0 t1 : Value) (w : World) (K : K1) : reads Tryd.prog bits_mask_ann Tryd.f82 #[t0, t1] w K = bits_mask K t0 t1 w := by kernel_rfl
theorem bits_mask_of {t0 t1 : Value} {w : World} {K : K1} (h : bits_mask K t0 t1 w) : Yld Tryd.prog n_bits_mask #[t0, t1] w K :=
  yld_of mixed bits_mask_ann Tryd.func82 (by kernel_rfl) (bits_mask_eq t0 t1 w K) h

/-! loam/bits.Field: function 83 -/
def bits_Field (K : K1) (t0 t1 t2 : Value) (w : World) : Prop :=
 xCall Tryd.prog (fnv 82) [t1, t2] w fun t12 w =>
 xExtract Tryd.prog t12 0 w fun t13 w =>
 xExtract Tryd.prog t12 1 w fun t14 w =>
 xUn Tryd.prog .not t14 w fun t16 w =>
 xIf t16
 (K (c64 0) w)
 (xBin Tryd.prog .and 69 false t0 false t13 w fun t19 w =>
 xBin Tryd.prog .shr 69 false t19 false t1 w fun t21 w =>
 K t21 w)
abbrev n_bits_Field : Nat := 83
def bits_Field_ann : Ann := { loop := fun i => [], wr := fun i => [], told := fun i => [] }
theorem bits_Field_eq (t0 t1 t2 : Value) (w : World) (K : K1) : reads Tryd.prog bits_Field_ann Tryd.f83 #[t0, t1, t2] w K = bits_Field K t0 t1 t2 w := by kernel_rfl
theorem bits_Field_of {t0 t1 t2 : Value} {w : World} {K : K1} (h : bits_Field K t0 t1 t2 w) : Yld Tryd.prog n_bits_Field #[t0, t1, t2] w K :=
  yld_of mixed bits_Field_ann Tryd.func83 (by kernel_rfl) (bits_Field_eq t0 t1 t2 w K) h

/-! loam/loamref14.Right: function 85 -/
def loamref14_Right (K : K1) (t0 : Value) (w : World) : Prop :=
 xBox Tryd.prog 92 t0 w fun t1 w =>
 xFieldAddr Tryd.prog 92 t1 2 w fun t3 w =>
 xLoad Tryd.prog 4 t3 w fun t4 w =>
 xIf t4
 (xFieldAddr Tryd.prog 92 t1 0 w fun t5 w =>
 xLoad Tryd.prog 3 t5 w fun t6 w =>
 xBin Tryd.prog .eql 3 false t6 true (.int .i64 0) w fun t7 w =>
 xGuard t7 true (fun w K => xFieldAddr Tryd.prog 92 t1 1 w K) w fun t9 w =>
 xGuard t7 true (fun w K => xLoad Tryd.prog 3 t9 w K) w fun t10 w =>
 xGuard t7 true (fun w K => xBin Tryd.prog .eql 3 false t10 true (.int .i64 0) w K) w fun t11 w =>
 xPick t7 t11 (.bool false) w fun t12 w =>
 xGuard t12 true (fun w K => xFieldAddr Tryd.prog 92 t1 3 w K) w fun t14 w =>
 xGuard t12 true (fun w K => xLoad Tryd.prog 3 t14 w K) w fun t15 w =>
 xGuard t12 true (fun w K => xBin Tryd.prog .geq 3 false t15 true (.int .i64 0) w K) w fun t16 w =>
 xPick t12 t16 (.bool false) w fun t17 w =>
 xGuard t17 true (fun w K => xFieldAddr Tryd.prog 92 t1 3 w K) w fun t19 w =>
 xGuard t17 true (fun w K => xLoad Tryd.prog 3 t19 w K) w fun t20 w =>
 xGuard t17 true (fun w K => xBin Tryd.prog .lss 3 false t20 true (.int .i64 8192) w K) w fun t21 w =>
 xPick t17 t21 (.bool false) w fun t22 w =>
 K t22 w)
 (xFieldAddr Tryd.prog 92 t1 0 w fun t23 w =>
 xLoad Tryd.prog 3 t23 w fun t24 w =>
 xBin Tryd.prog .geq 3 false t24 true (.int .i64 0) w fun t25 w =>
 xGuard t25 true (fun w K => xFieldAddr Tryd.prog 92 t1 0 w K) w fun t27 w =>
 xGuard t25 true (fun w K => xLoad Tryd.prog 3 t27 w K) w fun t28 w =>
 xGuard t25 true (fun w K => xBin Tryd.prog .leq 3 false t28 true (.int .i64 64) w K) w fun t29 w =>
 xPick t25 t29 (.bool false) w fun t30 w =>
 xGuard t30 true (fun w K => xFieldAddr Tryd.prog 92 t1 1 w K) w fun t32 w =>
 xGuard t30 true (fun w K => xLoad Tryd.prog 3 t32 w K) w fun t33 w =>
 xGuard t30 true (fun w K => xBin Tryd.prog .geq 3 false t33 true (.int .i64 0) w K) w fun t34 w =>
 xPick t30 t34 (.bool false) w fun t35 w =>
 xGuard t35 true (fun w K => xFieldAddr Tryd.prog 92 t1 1 w K) w fun t37 w =>
 xGuard t35 true (fun w K => xLoad Tryd.prog 3 t37 w K) w fun t38 w =>
 xGuard t35 true (fun w K => xBin Tryd.prog .leq 3 false t38 true (.int .i64 1024) w K) w fun t39 w =>
 xPick t35 t39 (.bool false) w fun t40 w =>
 xGuard t40 true (fun w K => xFieldAddr Tryd.prog 92 t1 3 w K) w fun t42 w =>
 xGuard t40 true (fun w K => xLoad Tryd.prog 3 t42 w K) w fun t43 w =>
 xGuard t40 true (fun w K => xBin Tryd.prog .eql 3 false t43 true (.int .i64 0) w K) w fun t44 w =>
 xPick t40 t44 (.bool false) w fun t45 w =>
 K t45 w)
abbrev n_loamref14_Right : Nat := 85
def loamref14_Right_ann : Ann := { loop := fun i => [], wr := fun i => [], told := fun i => [] }
theorem loamref14_Right_eq (t0 : Value) (w : World) (K : K1) : reads Tryd.prog loamref14_Right_ann Tryd.f85 #[t0] w K = loamref14_Right K t0 w := by kernel_rfl
theorem loamref14_Right_of {t0 : Value} {w : World} {K : K1} (h : loamref14_Right K t0 w) : Yld Tryd.prog n_loamref14_Right #[t0] w K :=
  yld_of mixed loamref14_Right_ann Tryd.func85 (by kernel_rfl) (loamref14_Right_eq t0 w K) h

/-! loam/loamref1.mask: function 86 -/
def loamref1_mask (K : K1) (t0 : Value) (w : World) : Prop :=
 xBin Tryd.prog .geq 3 false t0 true (.int .i64 64) w fun t4 w =>
 xIf t4
 (K (c64 18446744073709551615) w)
 (xConv Tryd.prog 3 112 t0 w fun t6 w =>
 xBin Tryd.prog .shl 69 true (c64 1) false t6 w fun t7 w =>
 xBin Tryd.prog .sub 69 false t7 true (c64 1) w fun t8 w =>
 K t8 w)
abbrev n_loamref1_mask : Nat := 86
def loamref1_mask_ann : Ann := { loop := fun i => [], wr := fun i => [], told := fun i => [] }
theorem loamref1_mask_eq (t0 : Value) (w : World) (K : K1) : reads Tryd.prog loamref1_mask_ann Tryd.f86 #[t0] w K = loamref1_mask K t0 w := by kernel_rfl
theorem loamref1_mask_of {t0 : Value} {w : World} {K : K1} (h : loamref1_mask K t0 w) : Yld Tryd.prog n_loamref1_mask #[t0] w K :=
  yld_of mixed loamref1_mask_ann Tryd.func86 (by kernel_rfl) (loamref1_mask_eq t0 w K) h

end Go.Proofs.YtknineilpenbnaaDoor
