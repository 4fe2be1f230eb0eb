/- Each function of the set, as it is loaded, read as a statement on values; and that a call gives what the reading asks. -/
import Derived.Test.YtohonkbneimkoaaBase
set_option linter.unusedVariables false
namespace Go.Proofs.Ytohonkbneimkoaa
open Go.Sh Go.RowKit
/-! loam/loamlaw4.GeomAny: function 3 -/
def loamlaw4_GeomAny (K : K1) (t0 t1 t2 t3 : Value) (w : World) : Prop :=
 xBox Try.prog 23 t0 w fun t4 w =>
 xCall Try.prog (fnv 15) [] w fun t16 w =>
 xUn Try.prog .not t16 w fun t17 w =>
 xIf t17
 (K (.bool false) w)
 (xLoad Try.prog 23 t4 w fun t18 w =>
 xCall Try.prog (fnv 16) [t18] w fun t19 w =>
 xAlloc Try.prog 25 w fun t9 w =>
 xStore Try.prog 25 t9 t19 w fun _ w =>
 xFieldAddr Try.prog 23 t4 2 w fun t20 w =>
 xLoad Try.prog 3 t20 w fun t21 w =>
 xBin Try.prog .gtr 3 false t21 true (.int .i64 1048576) w fun t22 w =>
 xGuard t22 false (fun w K => xFieldAddr Try.prog 23 t4 2 w K) w fun t24 w =>
 xGuard t22 false (fun w K => xLoad Try.prog 3 t24 w K) w fun t25 w =>
 xGuard t22 false (fun w K => xBin Try.prog .lss 3 false t25 true (.int .i64 (-1048576)) w K) w fun t26 w =>
 xPick t22 (.bool true) t26 w fun t27 w =>
 xGuard t27 false (fun w K => xFieldAddr Try.prog 23 t4 1 w K) w fun t29 w =>
 xGuard t27 false (fun w K => xLoad Try.prog 3 t29 w K) w fun t30 w =>
 xGuard t27 false (fun w K => xBin Try.prog .gtr 3 false t30 true (.int .i64 1048576) w K) w fun t31 w =>
 xPick t27 (.bool true) t31 w fun t32 w =>
 xGuard t32 false (fun w K => xFieldAddr Try.prog 23 t4 1 w K) w fun t34 w =>
 xGuard t32 false (fun w K => xLoad Try.prog 3 t34 w K) w fun t35 w =>
 xGuard t32 false (fun w K => xBin Try.prog .lss 3 false t35 true (.int .i64 (-1048576)) w K) w fun t36 w =>
 xPick t32 (.bool true) t36 w fun t37 w =>
 xIf t37
 (xLoad Try.prog 23 t4 w fun t38 w =>
 xCall Try.prog (fnv 17) [t38] w fun t39 w =>
 xBin Try.prog .eql 3 false t39 true (.int .i64 1) w fun t40 w =>
 K t40 w)
 (xFieldAddr Try.prog 23 t4 0 w fun t41 w =>
 xLoad Try.prog 3 t41 w fun t42 w =>
 xBin Try.prog .lss 3 false t42 true (.int .i64 8) w fun t43 w =>
 xIf t43
 (xLoad Try.prog 23 t4 w fun t44 w =>
 xCall Try.prog (fnv 17) [t44] w fun t45 w =>
 xBin Try.prog .eql 3 false t45 true (.int .i64 1) w fun t46 w =>
 K t46 w)
 (xLoad Try.prog 25 t9 w fun t47 w =>
 xCall Try.prog (fnv 18) [t47] w fun t48 w =>
 xLoad Try.prog 23 t4 w fun t49 w =>
 xCall Try.prog (fnv 17) [t49] w fun t50 w =>
 xBin Try.prog .neq 3 false t50 false t48 w fun t52 w =>
 xIf t52
 (K (.bool false) w)
 (xBin Try.prog .neq 3 false t48 true (.int .i64 0) w fun t54 w =>
 xIf t54
 (K (.bool true) w)
 (xLoad Try.prog 23 t4 w fun t56 w =>
 xCall Try.prog (fnv 19) [t56, t1, t2] w fun t59 w =>
 xExtract Try.prog t59 0 w fun t60 w =>
 xExtract Try.prog t59 1 w fun t61 w =>
 xLoad Try.prog 25 t9 w fun t63 w =>
 xCall Try.prog (fnv 20) [t63, t1, t2] w fun t66 w =>
 xExtract Try.prog t66 0 w fun t67 w =>
 xExtract Try.prog t66 1 w fun t68 w =>
 xLoad Try.prog 23 t4 w fun t69 w =>
 xCall Try.prog (fnv 21) [t69] w fun t70 w =>
 xAlloc Try.prog 35 w fun t15 w =>
 xStore Try.prog 35 t15 t70 w fun _ w =>
 xDraw w.drew fun le H =>
 xDet le (H) (fun w K => xLoad Try.prog 23 t4 w K) fun t71 =>
 xDet le (H) (fun w K => xLoad Try.prog 25 t9 w K) fun t73 =>
 xDet le (H) (fun w K => xCall Try.prog (fnv 22) [t71] w K) fun t72 =>
 xDet le (H) (fun w K => xCall Try.prog (fnv 23) [t73] w K) fun t74 =>
 xDet le (H) (fun w K => xBin Try.prog .eql 3 false t72 false t74 w K) fun t75 =>
 xDet le (H) (fun w K => K t75 w) fun t76 =>
 xDet le (H) (fun w K => xGuard t76 true (fun w K => xLoad Try.prog 23 t4 w K) w K) fun t77 =>
 xDet le (H) (fun w K => xGuard t76 true (fun w K => xLoad Try.prog 25 t9 w K) w K) fun t79 =>
 xDet le (H) (fun w K => xGuard t76 true (fun w K => xCall Try.prog (fnv 25) [t77] w K) w K) fun t78 =>
 xDet le (H) (fun w K => xGuard t76 true (fun w K => xCall Try.prog (fnv 26) [t79] w K) w K) fun t80 =>
 xDet le (H) (fun w K => xGuard t76 true (fun w K => xCall Try.prog (fnv 24) [t78, t80] w K) w K) fun t81 =>
 xDet le (H) (fun w K => xPick t76 t81 (.bool false) w K) fun t82 =>
 xDet le (H) (fun w K => K t82 w) fun t83 =>
 xDet le (H) (fun w K => xGuard t83 true (fun w K => xLoad Try.prog 23 t4 w K) w K) fun t84 =>
 xDet le (H) (fun w K => xGuard t83 true (fun w K => K t1 w) w K) fun t85 =>
 xDet le (H) (fun w K => xGuard t83 true (fun w K => xLoad Try.prog 25 t9 w K) w K) fun t87 =>
 xDet le (H) (fun w K => xGuard t83 true (fun w K => K t1 w) w K) fun t88 =>
 xDet le (H) (fun w K => xGuard t83 true (fun w K => xCall Try.prog (fnv 27) [t84, t85] w K) w K) fun t86 =>
 xDet le (H) (fun w K => xGuard t83 true (fun w K => xCall Try.prog (fnv 28) [t87, t88] w K) w K) fun t89 =>
 xDet le (H) (fun w K => xGuard t83 true (fun w K => xCall Try.prog (fnv 24) [t86, t89] w K) w K) fun t90 =>
 xDet le (H) (fun w K => xPick t83 t90 (.bool false) w K) fun t91 =>
 xDet le (H) (fun w K => K t91 w) fun t92 =>
 xDet le (H) (fun w K => xGuard t92 true (fun w K => K t60 w) w K) fun t93 =>
 xDet le (H) (fun w K => xGuard t92 true (fun w K => K t67 w) w K) fun t94 =>
 xDet le (H) (fun w K => xGuard t92 true (fun w K => xBin Try.prog .eql 3 false t93 false t94 w K) w K) fun t95 =>
 xDet le (H) (fun w K => xPick t92 t95 (.bool false) w K) fun t96 =>
 xDet le (H) (fun w K => K t96 w) fun t97 =>
 xDet le (H) (fun w K => xGuard t97 true (fun w K => K t61 w) w K) fun t98 =>
 xDet le (H) (fun w K => xGuard t97 true (fun w K => K t68 w) w K) fun t99 =>
 xDet le (H) (fun w K => xGuard t97 true (fun w K => xBin Try.prog .eql 3 false t98 false t99 w K) w K) fun t100 =>
 xDet le (H) (fun w K => xPick t97 t100 (.bool false) w K) fun t101 =>
 xDet le (H) (fun w K => K t101 w) fun t102 =>
 xDet le (H) (fun w K => xGuard t102 true (fun w K => xLoad Try.prog 23 t4 w K) w K) fun t103 =>
 xDet le (H) (fun w K => xGuard t102 true (fun w K => K t3 w) w K) fun t104 =>
 xDet le (H) (fun w K => xGuard t102 true (fun w K => xLoad Try.prog 25 t9 w K) w K) fun t106 =>
 xDet le (H) (fun w K => xGuard t102 true (fun w K => K t3 w) w K) fun t107 =>
 xDet le (H) (fun w K => xGuard t102 true (fun w K => xCall Try.prog (fnv 29) [t103, t104] w K) w K) fun t105 =>
 xDet le (H) (fun w K => xGuard t102 true (fun w K => xCall Try.prog (fnv 30) [t106, t107] w K) w K) fun t108 =>
 xDet le (H) (fun w K => xGuard t102 true (fun w K => xBin Try.prog .eql 9 false t105 false t108 w K) w K) fun t109 =>
 xDet le (H) (fun w K => xPick t102 t109 (.bool false) w K) fun t110 =>
 xDet le (H) (fun w K => K t110 w) fun t111 =>
 xDet le (H) (fun w K => xGuard t111 true (fun w K => xIndexAddr Try.prog 35 t15 (.int .i64 0) w K) w K) fun t112 =>
 xDet le (H) (fun w K => xGuard t111 true (fun w K => xFieldAddr Try.prog 34 t112 0 w K) w K) fun t113 =>
 xDet le (H) (fun w K => xGuard t111 true (fun w K => xLoad Try.prog 3 t113 w K) w K) fun t114 =>
 xDet le (H) (fun w K => xGuard t111 true (fun w K => xBin Try.prog .eql 3 false t114 true (.int .i64 0) w K) w K) fun t115 =>
 xDet le (H) (fun w K => xPick t111 t115 (.bool false) w K) fun t116 =>
 xDet le (H) (fun w K => K t116 w) fun t117 =>
 xDet le (H) (fun w K => xGuard t117 true (fun w K => xIndexAddr Try.prog 35 t15 (.int .i64 1) w K) w K) fun t118 =>
 xDet le (H) (fun w K => xGuard t117 true (fun w K => xFieldAddr Try.prog 34 t118 0 w K) w K) fun t119 =>
 xDet le (H) (fun w K => xGuard t117 true (fun w K => xLoad Try.prog 3 t119 w K) w K) fun t120 =>
 xDet le (H) (fun w K => xGuard t117 true (fun w K => xBin Try.prog .eql 3 false t120 true (.int .i64 1) w K) w K) fun t121 =>
 xDet le (H) (fun w K => xPick t117 t121 (.bool false) w K) fun t122 =>
 xDet le (H) (fun w K => K t122 w) fun t123 =>
 xDet le (H) (fun w K => xGuard t123 true (fun w K => xIndexAddr Try.prog 35 t15 (.int .i64 0) w K) w K) fun t124 =>
 xDet le (H) (fun w K => xGuard t123 true (fun w K => xFieldAddr Try.prog 34 t124 1 w K) w K) fun t125 =>
 xDet le (H) (fun w K => xGuard t123 true (fun w K => xLoad Try.prog 3 t125 w K) w K) fun t126 =>
 xDet le (H) (fun w K => xGuard t123 true (fun w K => xBin Try.prog .eql 3 false t126 true (.int .i64 1) w K) w K) fun t127 =>
 xDet le (H) (fun w K => xPick t123 t127 (.bool false) w K) fun t128 =>
 xDet le (H) (fun w K => K t128 w) fun t129 =>
 xDet le (H) (fun w K => xGuard t129 true (fun w K => xIndexAddr Try.prog 35 t15 (.int .i64 1) w K) w K) fun t130 =>
 xDet le (H) (fun w K => xGuard t129 true (fun w K => xFieldAddr Try.prog 34 t130 1 w K) w K) fun t131 =>
 xDet le (H) (fun w K => xGuard t129 true (fun w K => xLoad Try.prog 3 t131 w K) w K) fun t132 =>
 xDet le (H) (fun w K => xGuard t129 true (fun w K => xBin Try.prog .eql 3 false t132 true (.int .i64 1) w K) w K) fun t133 =>
 xDet le (H) (fun w K => xPick t129 t133 (.bool false) w K) fun t134 =>
 xDet le (H) (fun w K => K t134 w) fun t8 =>
 xEnd (H) fun w =>
 K t8 w)))))
abbrev n_loamlaw4_GeomAny : Nat := 3
def loamlaw4_GeomAny_ann : Ann := { loop := fun i => [], wr := fun i => [], told := fun i => bif Nat.beq i 17 then [(0, false, ⟨0, 2361183241434822606864, some 71⟩), (2, false, ⟨0, 9444732965739290427904, some 73⟩), (1, false, ⟨1, 7083549724304467820544, some 72⟩), (3, false, ⟨6, 28334198897217871282176, some 74⟩), (4, false, ⟨10, 61390764277305387778048, some 75⟩), (5, false, ⟨24, 113336795588871485128704, some 76⟩), (6, false, ⟨32, 226673591177742970257424, some 77⟩), (8, false, ⟨32, 680020773533228910772736, some 79⟩), (7, false, ⟨96, 528905046081400263933952, some 78⟩), (9, false, ⟨416, 1888946593147858085478400, some 80⟩), (10, false, ⟨672, 4004566777473459141214208, some 81⟩), (11, false, ⟨1056, 7329112781413689371656192, some 82⟩), (12, false, ⟨3072, 14507109835375550096474112, some 83⟩), (13, false, ⟨4096, 29014219670751100192948240, some 84⟩), (14, false, ⟨4096, 48357032784585166988247042, some 85⟩), (16, false, ⟨4096, 164413911467589567760040448, some 87⟩), (17, false, ⟨4096, 319156416378262102122430466, some 88⟩), (15, false, ⟨28672, 145071098353755500964741120, some 86⟩), (18, false, ⟨233472, 1092868940931624773934383104, some 89⟩), (19, false, ⟨299008, 1943952717940323712927531008, some 90⟩), (20, false, ⟨528384, 3723491524413057858095022080, some 91⟩), (21, false, ⟨1572864, 7427640235712281649394745344, some 92⟩), (22, false, ⟨2097152, 14855280471424563298789492736, some 93⟩), (23, false, ⟨2097152, 24758800785707605497982492672, some 94⟩), (24, false, ⟨14680064, 74276402357122816493947453440, some 95⟩), (25, false, ⟨18874368, 123794003928538027489912422400, some 96⟩), (26, false, ⟨35651584, 237684487542793012780631851008, some 97⟩), (27, false, ⟨67108864, 475368975085586025561263706112, some 98⟩), (28, false, ⟨67108864, 792281625142643375935439519744, some 99⟩), (29, false, ⟨469762048, 2376844875427930127806318510080, some 100⟩), (30, false, ⟨603979776, 3961408125713216879677197516800, some 101⟩), (31, false, ⟨1140850688, 7605903601369376408980219232256, some 102⟩), (32, false, ⟨2147483648, 15211807202738752817960438464528, some 103⟩), (33, false, ⟨2147483648, 25353012004564588029934064107528, some 104⟩), (35, false, ⟨2147483648, 86200240815519599301775817966080, some 106⟩), (36, false, ⟨2147483648, 167329879230126280997564823109640, some 107⟩), (34, false, ⟨15032385536, 76059036013693764089802192322560, some 105⟩), (37, false, ⟨122406567936, 572978071303159689476509848829952, some 108⟩), (38, false, ⟨156766306304, 1019191082583496438803349377122304, some 109⟩), (39, false, ⟨277025390592, 1952181924351473278304922936279040, some 110⟩), (40, false, ⟨687194767360, 3894222643901120721397872246915072, some 111⟩), (41, false, ⟨1099511627776, 7788445287802241442795744493862912, some 112⟩), (42, false, ⟨3298534883328, 18173039004871896699856737152270336, some 113⟩), (43, false, ⟨5497558138880, 33749929580476379585448226139930624, some 114⟩), (44, false, ⟨9895604649984, 64903710731685345356631204115251200, some 115⟩), (45, false, ⟨18691697672192, 127211273034103276898997160065892352, some 116⟩), (46, false, ⟨36283883716608, 249230249209671726169463823802564608, some 117⟩), (47, false, ⟨70368744177664, 498460498419343452338927647605161984, some 118⟩), (48, false, ⟨211106232532992, 1163074496311801388790831177745301504, some 119⟩), (49, false, ⟨351843720888320, 2159995493150488293468686472955559936, some 120⟩), (50, false, ⟨633318697598976, 4153837486827862102824397063376076800, some 121⟩), (51, false, ⟨1196268651020288, 8141521474182609721535818244217110528, some 122⟩), (52, false, ⟨2322168557862912, 15950735949418990474845684723364134912, some 123⟩), (53, false, ⟨4503599627370496, 31901471898837980949691369446728302592, some 124⟩), (54, false, ⟨13510798882111488, 74436767763955288882613195375699296256, some 125⟩), (55, false, ⟨22517998136852480, 138239711561631250781995934269155835904, some 126⟩), (56, false, ⟨40532396646334464, 265845599156983174580761412056068915200, some 127⟩), (57, false, ⟨76561193665298432, 521057374347687022178292367629895073792, some 128⟩), (58, false, ⟨148618787703226368, 1020847100762815390390123822295304634368, some 129⟩), (59, false, ⟨288230376151711744, 2041694201525630780780247644590609301504, some 130⟩), (60, false, ⟨864691128455135232, 4763953136893138488487244504044754960384, some 131⟩), (61, false, ⟨1441151880758558720, 8847341539944400050047739793225973497856, some 132⟩), (62, false, ⟨2594073385365405696, 17014118346046923173168730371588410572800, some 133⟩), (63, false, ⟨4899916394579099648, 33347671958251969419410711528313284722688, some 134⟩), (64, false, ⟨18446744073709551615, 21778071482940061661655974875633165533440, some 8⟩)] else [] }
theorem loamlaw4_GeomAny_eq (t0 t1 t2 t3 : Value) (w : World) (K : K1) : reads Try.prog loamlaw4_GeomAny_ann Try.f3 #[t0, t1, t2, t3] w K = loamlaw4_GeomAny K t0 t1 t2 t3 w := by kernel_rfl
theorem loamlaw4_GeomAny_of {t0 t1 t2 t3 : Value} {w : World} {K : K1} (h : loamlaw4_GeomAny K t0 t1 t2 t3 w) : Yld Try.prog n_loamlaw4_GeomAny #[t0, t1, t2, t3] w K :=
  yld_of mixed loamlaw4_GeomAny_ann Try.func3 (by kernel_rfl) (loamlaw4_GeomAny_eq t0 t1 t2 t3 w K) h

/-! loam/loamlaw4.GeomParts: function 4 -/
def loamlaw4_GeomParts (K : K1) (t0 t1 t2 : Value) (w : World) : Prop :=
 xBox Try.prog 23 t0 w fun t3 w =>
 xCall Try.prog (fnv 15) [] w fun t16 w =>
 xUn Try.prog .not t16 w fun t17 w =>
 xIf t17
 (K (.bool false) w)
 (xFieldAddr Try.prog 23 t3 0 w fun t18 w =>
 xLoad Try.prog 3 t18 w fun t19 w =>
 xBin Try.prog .lss 3 false t19 true (.int .i64 8) w fun t20 w =>
 xGuard t20 false (fun w K => xFieldAddr Try.prog 23 t3 2 w K) w fun t22 w =>
 xGuard t20 false (fun w K => xLoad Try.prog 3 t22 w K) w fun t23 w =>
 xGuard t20 false (fun w K => xBin Try.prog .gtr 3 false t23 true (.int .i64 1048576) w K) w fun t24 w =>
 xPick t20 (.bool true) t24 w fun t25 w =>
 xGuard t25 false (fun w K => xFieldAddr Try.prog 23 t3 1 w K) w fun t27 w =>
 xGuard t25 false (fun w K => xLoad Try.prog 3 t27 w K) w fun t28 w =>
 xGuard t25 false (fun w K => xBin Try.prog .gtr 3 false t28 true (.int .i64 1048576) w K) w fun t29 w =>
 xPick t25 (.bool true) t29 w fun t30 w =>
 xGuard t30 false (fun w K => xLoad Try.prog 23 t3 w K) w fun t32 w =>
 xGuard t30 false (fun w K => xCall Try.prog (fnv 17) [t32] w K) w fun t33 w =>
 xGuard t30 false (fun w K => xBin Try.prog .neq 3 false t33 true (.int .i64 0) w K) w fun t34 w =>
 xPick t30 (.bool true) t34 w fun t35 w =>
 xIf t35
 (K (.bool true) w)
 (xLoad Try.prog 23 t3 w fun t36 w =>
 xCall Try.prog (fnv 25) [t36] w fun t37 w =>
 xAlloc Try.prog 34 w fun t7 w =>
 xStore Try.prog 34 t7 t37 w fun _ w =>
 xLoad Try.prog 23 t3 w fun t38 w =>
 xCall Try.prog (fnv 27) [t38, (.int .i64 0)] w fun t39 w =>
 xAlloc Try.prog 34 w fun t8 w =>
 xStore Try.prog 34 t8 t39 w fun _ w =>
 xLoad Try.prog 23 t3 w fun t40 w =>
 xCall Try.prog (fnv 27) [t40, (.int .i64 1)] w fun t41 w =>
 xAlloc Try.prog 34 w fun t9 w =>
 xStore Try.prog 34 t9 t41 w fun _ w =>
 xDraw w.drew fun le H =>
 xDet le (H) (fun w K => xFieldAddr Try.prog 34 t7 0 w K) fun t42 =>
 xDet le (H) (fun w K => xLoad Try.prog 3 t42 w K) fun t43 =>
 xDet le (H) (fun w K => xBin Try.prog .neq 3 false t43 true (.int .i64 2) w K) fun t44 =>
 xDet le (H) (fun w K => K t44 w) fun t45 =>
 xDet le (H) (fun w K => xGuard t45 false (fun w K => xFieldAddr Try.prog 34 t8 0 w K) w K) fun t46 =>
 xDet le (H) (fun w K => xGuard t45 false (fun w K => xLoad Try.prog 3 t46 w K) w K) fun t47 =>
 xDet le (H) (fun w K => xGuard t45 false (fun w K => xFieldAddr Try.prog 34 t7 0 w K) w K) fun t48 =>
 xDet le (H) (fun w K => xGuard t45 false (fun w K => xLoad Try.prog 3 t48 w K) w K) fun t49 =>
 xDet le (H) (fun w K => xGuard t45 false (fun w K => xFieldAddr Try.prog 34 t7 1 w K) w K) fun t50 =>
 xDet le (H) (fun w K => xGuard t45 false (fun w K => xLoad Try.prog 3 t50 w K) w K) fun t51 =>
 xDet le (H) (fun w K => xGuard t45 false (fun w K => xBin Try.prog .add 3 false t49 false t51 w K) w K) fun t52 =>
 xDet le (H) (fun w K => xGuard t45 false (fun w K => xBin Try.prog .neq 3 false t47 false t52 w K) w K) fun t53 =>
 xDet le (H) (fun w K => xPick t45 (.bool true) t53 w K) fun t54 =>
 xDet le (H) (fun w K => K t54 w) fun t55 =>
 xDet le (H) (fun w K => xGuard t55 false (fun w K => xFieldAddr Try.prog 34 t9 0 w K) w K) fun t56 =>
 xDet le (H) (fun w K => xGuard t55 false (fun w K => xLoad Try.prog 3 t56 w K) w K) fun t57 =>
 xDet le (H) (fun w K => xGuard t55 false (fun w K => xFieldAddr Try.prog 34 t8 0 w K) w K) fun t58 =>
 xDet le (H) (fun w K => xGuard t55 false (fun w K => xLoad Try.prog 3 t58 w K) w K) fun t59 =>
 xDet le (H) (fun w K => xGuard t55 false (fun w K => xFieldAddr Try.prog 34 t8 1 w K) w K) fun t60 =>
 xDet le (H) (fun w K => xGuard t55 false (fun w K => xLoad Try.prog 3 t60 w K) w K) fun t61 =>
 xDet le (H) (fun w K => xGuard t55 false (fun w K => xBin Try.prog .add 3 false t59 false t61 w K) w K) fun t62 =>
 xDet le (H) (fun w K => xGuard t55 false (fun w K => xBin Try.prog .neq 3 false t57 false t62 w K) w K) fun t63 =>
 xDet le (H) (fun w K => xPick t55 (.bool true) t63 w K) fun t64 =>
 xDet le (H) (fun w K => K t64 w) fun t65 =>
 xDet le (H) (fun w K => xGuard t65 false (fun w K => xFieldAddr Try.prog 34 t9 0 w K) w K) fun t66 =>
 xDet le (H) (fun w K => xGuard t65 false (fun w K => xLoad Try.prog 3 t66 w K) w K) fun t67 =>
 xDet le (H) (fun w K => xGuard t65 false (fun w K => xFieldAddr Try.prog 34 t9 1 w K) w K) fun t68 =>
 xDet le (H) (fun w K => xGuard t65 false (fun w K => xLoad Try.prog 3 t68 w K) w K) fun t69 =>
 xDet le (H) (fun w K => xGuard t65 false (fun w K => xBin Try.prog .add 3 false t67 false t69 w K) w K) fun t70 =>
 xDet le (H) (fun w K => xGuard t65 false (fun w K => xLoad Try.prog 23 t3 w K) w K) fun t71 =>
 xDet le (H) (fun w K => xGuard t65 false (fun w K => xCall Try.prog (fnv 22) [t71] w K) w K) fun t72 =>
 xDet le (H) (fun w K => xGuard t65 false (fun w K => xBin Try.prog .neq 3 false t70 false t72 w K) w K) fun t73 =>
 xDet le (H) (fun w K => xPick t65 (.bool true) t73 w K) fun t74 =>
 xDet le (H) (fun w K => K t74 w) fun t75 =>
 xDet le (H) (fun w K => xGuard t75 false (fun w K => xFieldAddr Try.prog 34 t8 1 w K) w K) fun t76 =>
 xDet le (H) (fun w K => xGuard t75 false (fun w K => xLoad Try.prog 3 t76 w K) w K) fun t77 =>
 xDet le (H) (fun w K => xGuard t75 false (fun w K => xFieldAddr Try.prog 34 t9 1 w K) w K) fun t78 =>
 xDet le (H) (fun w K => xGuard t75 false (fun w K => xLoad Try.prog 3 t78 w K) w K) fun t79 =>
 xDet le (H) (fun w K => xGuard t75 false (fun w K => xBin Try.prog .neq 3 false t77 false t79 w K) w K) fun t80 =>
 xDet le (H) (fun w K => xPick t75 (.bool true) t80 w K) fun t81 =>
 xEnd (H) fun w =>
 xIf t81
 (K (.bool false) w)
 (xBin Try.prog .lss 3 false t1 true (.int .i64 0) w fun t83 w =>
 xGuard t83 false (fun w K => K t1 w) w fun t85 w =>
 xGuard t83 false (fun w K => xFieldAddr Try.prog 23 t3 2 w K) w fun t86 w =>
 xGuard t83 false (fun w K => xLoad Try.prog 3 t86 w K) w fun t87 w =>
 xGuard t83 false (fun w K => xBin Try.prog .geq 3 false t85 false t87 w K) w fun t88 w =>
 xPick t83 (.bool true) t88 w fun t89 w =>
 xGuard t89 false (fun w K => K t2 w) w fun t91 w =>
 xGuard t89 false (fun w K => xBin Try.prog .lss 3 false t91 true (.int .i64 0) w K) w fun t92 w =>
 xPick t89 (.bool true) t92 w fun t93 w =>
 xGuard t93 false (fun w K => K t2 w) w fun t95 w =>
 xGuard t93 false (fun w K => xFieldAddr Try.prog 23 t3 2 w K) w fun t96 w =>
 xGuard t93 false (fun w K => xLoad Try.prog 3 t96 w K) w fun t97 w =>
 xGuard t93 false (fun w K => xBin Try.prog .geq 3 false t95 false t97 w K) w fun t98 w =>
 xPick t93 (.bool true) t98 w fun t99 w =>
 xIf t99
 (K (.bool true) w)
 (xLoad Try.prog 23 t3 w fun t101 w =>
 xCall Try.prog (fnv 19) [t101, (.int .i64 0), t1] w fun t103 w =>
 xExtract Try.prog t103 0 w fun t104 w =>
 xExtract Try.prog t103 1 w fun t105 w =>
 xLoad Try.prog 23 t3 w fun t107 w =>
 xCall Try.prog (fnv 19) [t107, (.int .i64 0), t2] w fun t109 w =>
 xExtract Try.prog t109 0 w fun t110 w =>
 xExtract Try.prog t109 1 w fun t111 w =>
 xLoad Try.prog 23 t3 w fun t113 w =>
 xCall Try.prog (fnv 19) [t113, (.int .i64 1), t1] w fun t115 w =>
 xExtract Try.prog t115 0 w fun t116 w =>
 xExtract Try.prog t115 1 w fun t117 w =>
 xFieldAddr Try.prog 34 t8 0 w fun t119 w =>
 xLoad Try.prog 3 t119 w fun t120 w =>
 xBin Try.prog .geq 3 false t104 false t120 w fun t121 w =>
 xGuard t121 true (fun w K => K t104 w) w fun t123 w =>
 xGuard t121 true (fun w K => xFieldAddr Try.prog 34 t8 0 w K) w fun t124 w =>
 xGuard t121 true (fun w K => xLoad Try.prog 3 t124 w K) w fun t125 w =>
 xGuard t121 true (fun w K => xFieldAddr Try.prog 34 t8 1 w K) w fun t126 w =>
 xGuard t121 true (fun w K => xLoad Try.prog 3 t126 w K) w fun t127 w =>
 xGuard t121 true (fun w K => xBin Try.prog .add 3 false t125 false t127 w K) w fun t128 w =>
 xGuard t121 true (fun w K => xBin Try.prog .lss 3 false t123 false t128 w K) w fun t129 w =>
 xPick t121 t129 (.bool false) w fun t130 w =>
 xGuard t130 true (fun w K => K t105 w) w fun t132 w =>
 xGuard t130 true (fun w K => xBin Try.prog .geq 3 false t132 true (.int .i64 0) w K) w fun t133 w =>
 xPick t130 t133 (.bool false) w fun t134 w =>
 xGuard t134 true (fun w K => K t105 w) w fun t136 w =>
 xGuard t134 true (fun w K => xBin Try.prog .add 3 false t136 true (.int .i64 8) w K) w fun t137 w =>
 xGuard t134 true (fun w K => xFieldAddr Try.prog 23 t3 0 w K) w fun t138 w =>
 xGuard t134 true (fun w K => xLoad Try.prog 3 t138 w K) w fun t139 w =>
 xGuard t134 true (fun w K => xBin Try.prog .leq 3 false t137 false t139 w K) w fun t140 w =>
 xPick t134 t140 (.bool false) w fun t141 w =>
 xGuard t141 true (fun w K => K t104 w) w fun t143 w =>
 xGuard t141 true (fun w K => K t110 w) w fun t144 w =>
 xGuard t141 true (fun w K => xBin Try.prog .eql 3 false t143 false t144 w K) w fun t145 w =>
 xGuard t141 true (fun w K => K t145 w) w fun t146 w =>
 xGuard t146 true (fun w K => K t105 w) w fun t147 w =>
 xGuard t146 true (fun w K => K t111 w) w fun t148 w =>
 xGuard t146 true (fun w K => xBin Try.prog .eql 3 false t147 false t148 w K) w fun t149 w =>
 xGuard t141 true (fun w K => xPick t146 t149 (.bool false) w K) w fun t150 w =>
 xGuard t141 true (fun w K => K t1 w) w fun t151 w =>
 xGuard t141 true (fun w K => K t2 w) w fun t152 w =>
 xGuard t141 true (fun w K => xBin Try.prog .eql 3 false t151 false t152 w K) w fun t153 w =>
 xGuard t141 true (fun w K => xBin Try.prog .eql 4 false t150 false t153 w K) w fun t154 w =>
 xPick t141 t154 (.bool false) w fun t155 w =>
 xGuard t155 true (fun w K => K t116 w) w fun t157 w =>
 xGuard t155 true (fun w K => xFieldAddr Try.prog 34 t9 0 w K) w fun t158 w =>
 xGuard t155 true (fun w K => xLoad Try.prog 3 t158 w K) w fun t159 w =>
 xGuard t155 true (fun w K => xBin Try.prog .sub 3 false t157 false t159 w K) w fun t160 w =>
 xGuard t155 true (fun w K => K t104 w) w fun t161 w =>
 xGuard t155 true (fun w K => xFieldAddr Try.prog 34 t8 0 w K) w fun t162 w =>
 xGuard t155 true (fun w K => xLoad Try.prog 3 t162 w K) w fun t163 w =>
 xGuard t155 true (fun w K => xBin Try.prog .sub 3 false t161 false t163 w K) w fun t164 w =>
 xGuard t155 true (fun w K => xBin Try.prog .eql 3 false t160 false t164 w K) w fun t165 w =>
 xPick t155 t165 (.bool false) w fun t166 w =>
 xGuard t166 true (fun w K => K t117 w) w fun t168 w =>
 xGuard t166 true (fun w K => K t105 w) w fun t169 w =>
 xGuard t166 true (fun w K => xBin Try.prog .eql 3 false t168 false t169 w K) w fun t170 w =>
 xPick t166 t170 (.bool false) w fun t171 w =>
 xGuard t171 true (fun w K => xLoad Try.prog 23 t3 w K) w fun t173 w =>
 xGuard t171 true (fun w K => K t104 w) w fun t174 w =>
 xGuard t171 true (fun w K => xCall Try.prog (fnv 29) [t173, t174] w K) w fun t175 w =>
 xGuard t171 true (fun w K => xBin Try.prog .eql 9 false t175 true (.string { data := #[115, 112, 97, 99, 101] }) w K) w fun t176 w =>
 xPick t171 t176 (.bool false) w fun t177 w =>
 K t177 w))))
abbrev n_loamlaw4_GeomParts : Nat := 4
def loamlaw4_GeomParts_ann : Ann := { loop := fun i => [], wr := fun i => [], told := fun i => bif Nat.beq i 8 then [(0, false, ⟨0, 4398046511232, some 42⟩), (1, false, ⟨1, 13194139533312, some 43⟩), (2, false, ⟨2, 26388279066624, some 44⟩), (3, false, ⟨4, 52776558133248, some 45⟩), (4, false, ⟨8, 105553116266752, some 46⟩), (5, false, ⟨24, 246290604621824, some 47⟩), (6, false, ⟨8, 316659348799616, some 48⟩), (7, false, ⟨72, 879609302220800, some 49⟩), (8, false, ⟨8, 1161084278931584, some 50⟩), (9, false, ⟨264, 3412884092616704, some 51⟩), (10, false, ⟨648, 7353533766565888, some 52⟩), (11, false, ⟨1064, 13686720742555648, some 53⟩), (12, false, ⟨2056, 27056782136311808, some 54⟩), (13, false, ⟨4104, 54043195528445952, some 55⟩), (14, false, ⟨8192, 108086391056892416, some 56⟩), (15, false, ⟨24576, 252201579132747776, some 57⟩), (16, false, ⟨8192, 324259173170675968, some 58⟩), (17, false, ⟨73728, 900719925474099200, some 59⟩), (18, false, ⟨8192, 1188950301625811200, some 60⟩), (19, false, ⟨270336, 3494793310839504896, some 61⟩), (20, false, ⟨663552, 7530018576963469312, some 62⟩), (21, false, ⟨1089536, 14015202040376983552, some 63⟩), (22, false, ⟨2105344, 27706144907583291392, some 64⟩), (23, false, ⟨4202496, 55340232221128654848, some 65⟩), (24, false, ⟨8388608, 110680464442257310208, some 66⟩), (25, false, ⟨25165824, 258254417031933722624, some 67⟩), (26, false, ⟨8388608, 332041393326771929600, some 68⟩), (27, false, ⟨75497472, 922337203685477580800, some 69⟩), (28, false, ⟨176160768, 1955354871813212471296, some 70⟩), (29, false, ⟨8388608, 2398076729582241710088, some 71⟩), (30, false, ⟨545259520, 7120443212451886923776, some 72⟩), (31, false, ⟨1350565888, 15384584557473766047744, some 73⟩), (32, false, ⟨2155872256, 28371092385365290385408, some 74⟩), (33, false, ⟨5368709120, 56668397794435742564352, some 75⟩), (34, false, ⟨8589934592, 113336795588871485128960, some 76⟩), (35, false, ⟨25769803776, 264452523040700131966976, some 77⟩), (36, false, ⟨8589934592, 340010386766614455386624, some 78⟩), (37, false, ⟨77309411328, 944473296573929042739200, some 79⟩), (38, false, ⟨180388626432, 2002283388736729570607104, some 80⟩), (39, false, ⟨283467841536, 3664556390706844685828096, some 81⟩)] else [] }
theorem loamlaw4_GeomParts_eq (t0 t1 t2 : Value) (w : World) (K : K1) : reads Try.prog loamlaw4_GeomParts_ann Try.f4 #[t0, t1, t2] w K = loamlaw4_GeomParts K t0 t1 t2 w := by kernel_rfl
theorem loamlaw4_GeomParts_of {t0 t1 t2 : Value} {w : World} {K : K1} (h : loamlaw4_GeomParts K t0 t1 t2 w) : Yld Try.prog n_loamlaw4_GeomParts #[t0, t1, t2] w K :=
  yld_of mixed loamlaw4_GeomParts_ann Try.func4 (by kernel_rfl) (loamlaw4_GeomParts_eq t0 t1 t2 w K) h

/-! loam/loamlaw4.GeomGrows: function 5 -/
def loamlaw4_GeomGrows (K : K1) (t0 t1 t2 : Value) (w : World) : Prop :=
 xBox Try.prog 23 t0 w fun t3 w =>
 xCall Try.prog (fnv 15) [] w fun t9 w =>
 xUn Try.prog .not t9 w fun t10 w =>
 xIf t10
 (K (.bool false) w)
 (xFieldAddr Try.prog 23 t3 0 w fun t11 w =>
 xLoad Try.prog 3 t11 w fun t12 w =>
 xBin Try.prog .lss 3 false t12 true (.int .i64 8) w fun t13 w =>
 xGuard t13 false (fun w K => xFieldAddr Try.prog 23 t3 2 w K) w fun t15 w =>
 xGuard t13 false (fun w K => xLoad Try.prog 3 t15 w K) w fun t16 w =>
 xGuard t13 false (fun w K => xBin Try.prog .gtr 3 false t16 true (.int .i64 16384) w K) w fun t17 w =>
 xPick t13 (.bool true) t17 w fun t18 w =>
 xGuard t18 false (fun w K => xFieldAddr Try.prog 23 t3 2 w K) w fun t20 w =>
 xGuard t18 false (fun w K => xLoad Try.prog 3 t20 w K) w fun t21 w =>
 xGuard t18 false (fun w K => xBin Try.prog .lss 3 false t21 true (.int .i64 0) w K) w fun t22 w =>
 xPick t18 (.bool true) t22 w fun t23 w =>
 xGuard t23 false (fun w K => xFieldAddr Try.prog 23 t3 1 w K) w fun t25 w =>
 xGuard t23 false (fun w K => xLoad Try.prog 3 t25 w K) w fun t26 w =>
 xGuard t23 false (fun w K => xBin Try.prog .gtr 3 false t26 true (.int .i64 2000) w K) w fun t27 w =>
 xPick t23 (.bool true) t27 w fun t28 w =>
 xGuard t28 false (fun w K => xFieldAddr Try.prog 23 t3 1 w K) w fun t30 w =>
 xGuard t28 false (fun w K => xLoad Try.prog 3 t30 w K) w fun t31 w =>
 xGuard t28 false (fun w K => xBin Try.prog .lss 3 false t31 true (.int .i64 0) w K) w fun t32 w =>
 xPick t28 (.bool true) t32 w fun t33 w =>
 xGuard t33 false (fun w K => xLoad Try.prog 23 t3 w K) w fun t35 w =>
 xGuard t33 false (fun w K => xCall Try.prog (fnv 17) [t35] w K) w fun t36 w =>
 xGuard t33 false (fun w K => xBin Try.prog .neq 3 false t36 true (.int .i64 0) w K) w fun t37 w =>
 xPick t33 (.bool true) t37 w fun t38 w =>
 xIf t38
 (K (.bool true) w)
 (xLoad Try.prog 23 t3 w fun t39 w =>
 xAlloc Try.prog 23 w fun t7 w =>
 xStore Try.prog 23 t7 t39 w fun _ w =>
 xFieldAddr Try.prog 23 t7 2 w fun t40 w =>
 xLoad Try.prog 3 t40 w fun t41 w =>
 xConv Try.prog 5 3 t1 w fun t43 w =>
 xBin Try.prog .add 3 false t41 false t43 w fun t44 w =>
 xFieldAddr Try.prog 23 t7 2 w fun t45 w =>
 xStore Try.prog 3 t45 t44 w fun _ w =>
 xLoad Try.prog 23 t3 w fun t46 w =>
 xAlloc Try.prog 23 w fun t8 w =>
 xStore Try.prog 23 t8 t46 w fun _ w =>
 xFieldAddr Try.prog 23 t8 1 w fun t47 w =>
 xLoad Try.prog 3 t47 w fun t48 w =>
 xConv Try.prog 5 3 t2 w fun t50 w =>
 xBin Try.prog .add 3 false t48 false t50 w fun t51 w =>
 xFieldAddr Try.prog 23 t8 1 w fun t52 w =>
 xStore Try.prog 3 t52 t51 w fun _ w =>
 xLoad Try.prog 23 t7 w fun t53 w =>
 xCall Try.prog (fnv 17) [t53] w fun t54 w =>
 xBin Try.prog .neq 3 false t54 true (.int .i64 0) w fun t55 w =>
 xGuard t55 false (fun w K => xLoad Try.prog 23 t8 w K) w fun t57 w =>
 xGuard t55 false (fun w K => xCall Try.prog (fnv 17) [t57] w K) w fun t58 w =>
 xGuard t55 false (fun w K => xBin Try.prog .neq 3 false t58 true (.int .i64 0) w K) w fun t59 w =>
 xPick t55 (.bool true) t59 w fun t60 w =>
 xIf t60
 (K (.bool true) w)
 (xDraw w.drew fun le H =>
 xDet le (H) (fun w K => xLoad Try.prog 23 t7 w K) fun t61 =>
 xDet le (H) (fun w K => xLoad Try.prog 23 t3 w K) fun t63 =>
 xDet le (H) (fun w K => xCall Try.prog (fnv 22) [t61] w K) fun t62 =>
 xDet le (H) (fun w K => xCall Try.prog (fnv 22) [t63] w K) fun t64 =>
 xDet le (H) (fun w K => xBin Try.prog .geq 3 false t62 false t64 w K) fun t65 =>
 xDet le (H) (fun w K => K t65 w) fun t66 =>
 xDet le (H) (fun w K => xGuard t66 true (fun w K => xLoad Try.prog 23 t8 w K) w K) fun t67 =>
 xDet le (H) (fun w K => xGuard t66 true (fun w K => xLoad Try.prog 23 t3 w K) w K) fun t69 =>
 xDet le (H) (fun w K => xGuard t66 true (fun w K => K t2 w) w K) fun t71 =>
 xDet le (H) (fun w K => xGuard t66 true (fun w K => xConv Try.prog 5 3 t71 w K) w K) fun t72 =>
 xDet le (H) (fun w K => xGuard t66 true (fun w K => xCall Try.prog (fnv 22) [t67] w K) w K) fun t68 =>
 xDet le (H) (fun w K => xGuard t66 true (fun w K => xCall Try.prog (fnv 22) [t69] w K) w K) fun t70 =>
 xDet le (H) (fun w K => xGuard t66 true (fun w K => xBin Try.prog .add 3 false t70 false t72 w K) w K) fun t73 =>
 xDet le (H) (fun w K => xGuard t66 true (fun w K => xBin Try.prog .eql 3 false t68 false t73 w K) w K) fun t74 =>
 xDet le (H) (fun w K => xPick t66 t74 (.bool false) w K) fun t75 =>
 xDet le (H) (fun w K => K t75 w) fun t76 =>
 xDet le (H) (fun w K => xGuard t76 true (fun w K => xFieldAddr Try.prog 23 t3 2 w K) w K) fun t77 =>
 xDet le (H) (fun w K => xGuard t76 true (fun w K => xLoad Try.prog 3 t77 w K) w K) fun t78 =>
 xDet le (H) (fun w K => xGuard t76 true (fun w K => xBin Try.prog .mul 3 true (.int .i64 8) false t78 w K) w K) fun t79 =>
 xDet le (H) (fun w K => xGuard t76 true (fun w K => xLoad Try.prog 23 t3 w K) w K) fun t80 =>
 xDet le (H) (fun w K => xGuard t76 true (fun w K => xFieldAddr Try.prog 23 t3 0 w K) w K) fun t83 =>
 xDet le (H) (fun w K => xGuard t76 true (fun w K => xLoad Try.prog 3 t83 w K) w K) fun t84 =>
 xDet le (H) (fun w K => xGuard t76 true (fun w K => xCall Try.prog (fnv 27) [t80, (.int .i64 0)] w K) w K) fun t81 =>
 xDet le (H) (fun w K => xGuard t76 true (fun w K => xField Try.prog 34 t81 1 w K) w K) fun t82 =>
 xDet le (H) (fun w K => xGuard t76 true (fun w K => xBin Try.prog .mul 3 false t82 false t84 w K) w K) fun t85 =>
 xDet le (H) (fun w K => xGuard t76 true (fun w K => xBin Try.prog .leq 3 false t79 false t85 w K) w K) fun t86 =>
 xDet le (H) (fun w K => xPick t76 t86 (.bool false) w K) fun t87 =>
 xDet le (H) (fun w K => K t87 w) fun t6 =>
 xEnd (H) fun w =>
 K t6 w)))
abbrev n_loamlaw4_GeomGrows : Nat := 5
def loamlaw4_GeomGrows_ann : Ann := { loop := fun i => [], wr := fun i => [], told := fun i => bif Nat.beq i 11 then [(0, false, ⟨0, 2305843009213694080, some 61⟩), (2, false, ⟨0, 9223372036854775816, some 63⟩), (1, false, ⟨1, 6917529027641081856, some 62⟩), (3, false, ⟨6, 27670116110564327424, some 64⟩), (4, false, ⟨10, 59951918239556042752, some 65⟩), (5, false, ⟨24, 110680464442257309696, some 66⟩), (6, false, ⟨32, 221360928884514619648, some 67⟩), (8, false, ⟨32, 664082786653543858184, some 69⟩), (10, false, ⟨32, 2434970217729660813316, some 71⟩), (11, false, ⟨1056, 7157336700599306027008, some 72⟩), (7, false, ⟨96, 516508834063867445248, some 68⟩), (9, false, ⟨416, 1844674407370955161600, some 70⟩), (12, false, ⟨2592, 15421478045621185150976, some 73⟩), (13, false, ⟨4256, 28703133778692062314496, some 74⟩), (14, false, ⟨8224, 56742184770730580770816, some 75⟩), (15, false, ⟨16896, 113336795588871485128704, some 76⟩), (16, false, ⟨32768, 226673591177742970257416, some 77⟩), (17, false, ⟨98304, 528905046081400263933952, some 78⟩), (18, false, ⟨163840, 982252228436886204448768, some 79⟩), (19, false, ⟨32768, 1284483683340543498125320, some 80⟩), (22, false, ⟨32768, 9746964420642947721068552, some 83⟩), (23, false, ⟨4227072, 29089777534477014516367360, some 84⟩), (20, false, ⟨557056, 3702335322569801847537664, some 81⟩), (21, false, ⟨1081344, 7329112781413689371656192, some 82⟩), (24, false, ⟨10518528, 62939700483686631408140288, some 85⟩), (25, false, ⟨17072128, 116736899456537629682565120, some 86⟩), (26, false, ⟨33587200, 232189315229734715867004928, some 87⟩), (27, false, ⟨134217727, 154742504910672534362390592, some 6⟩)] else [] }
theorem loamlaw4_GeomGrows_eq (t0 t1 t2 : Value) (w : World) (K : K1) : reads Try.prog loamlaw4_GeomGrows_ann Try.f5 #[t0, t1, t2] w K = loamlaw4_GeomGrows K t0 t1 t2 w := by kernel_rfl
theorem loamlaw4_GeomGrows_of {t0 t1 t2 : Value} {w : World} {K : K1} (h : loamlaw4_GeomGrows K t0 t1 t2 w) : Yld Try.prog n_loamlaw4_GeomGrows #[t0, t1, t2] w K :=
  yld_of mixed loamlaw4_GeomGrows_ann Try.func5 (by kernel_rfl) (loamlaw4_GeomGrows_eq t0 t1 t2 w K) h

/-! loam/loamlaw4.GeomWords: function 6 -/
def loamlaw4_GeomWords_j1 (K : K1) (t1 t2 t3 t4 t9 : Value) (w : World) : Prop :=
 xLoad Try.prog 23 t4 w fun t66_1 w =>
 xCall Try.prog (fnv 19) [t66_1, (.int .i64 0), t1] w fun t68_1 w =>
 xExtract Try.prog t68_1 0 w fun t69_1 w =>
 xExtract Try.prog t68_1 1 w fun t70_1 w =>
 xLoad Try.prog 23 t4 w fun t72_1 w =>
 xCall Try.prog (fnv 19) [t72_1, t9, t2] w fun t75_1 w =>
 xExtract Try.prog t75_1 0 w fun t76_1 w =>
 xExtract Try.prog t75_1 1 w fun t77_1 w =>
 xBin Try.prog .eql 3 false t69_1 false t76_1 w fun t80_1 w =>
 xGuard t80_1 true (fun w K => K t70_1 w) w fun t82_1 w =>
 xGuard t80_1 true (fun w K => K t77_1 w) w fun t83_1 w =>
 xGuard t80_1 true (fun w K => xBin Try.prog .eql 3 false t82_1 false t83_1 w K) w fun t84_1 w =>
 xPick t80_1 t84_1 (.bool false) w fun t85_1 w =>
 xGuard t3 true (fun w K => K t1 w) w fun t88_1 w =>
 xGuard t3 true (fun w K => K t2 w) w fun t89_1 w =>
 xGuard t3 true (fun w K => xBin Try.prog .eql 3 false t88_1 false t89_1 w K) w fun t90_1 w =>
 xPick t3 t90_1 (.bool false) w fun t91_1 w =>
 xBin Try.prog .eql 4 false t85_1 false t91_1 w fun t92_1 w =>
 xGuard t92_1 true (fun w K => K t69_1 w) w fun t94_1 w =>
 xGuard t92_1 true (fun w K => xLoad Try.prog 23 t4 w K) w fun t95_1 w =>
 xGuard t92_1 true (fun w K => xCall Try.prog (fnv 22) [t95_1] w K) w fun t96_1 w =>
 xGuard t92_1 true (fun w K => xBin Try.prog .lss 3 false t94_1 false t96_1 w K) w fun t97_1 w =>
 xPick t92_1 t97_1 (.bool false) w fun t98_1 w =>
 xGuard t98_1 true (fun w K => K t76_1 w) w fun t100_1 w =>
 xGuard t98_1 true (fun w K => xLoad Try.prog 23 t4 w K) w fun t101_1 w =>
 xGuard t98_1 true (fun w K => xCall Try.prog (fnv 22) [t101_1] w K) w fun t102_1 w =>
 xGuard t98_1 true (fun w K => xBin Try.prog .lss 3 false t100_1 false t102_1 w K) w fun t103_1 w =>
 xPick t98_1 t103_1 (.bool false) w fun t104_1 w =>
 xGuard t104_1 true (fun w K => K t70_1 w) w fun t106_1 w =>
 xGuard t104_1 true (fun w K => xBin Try.prog .rem 3 false t106_1 true (.int .i64 8) w K) w fun t107_1 w =>
 xGuard t104_1 true (fun w K => xBin Try.prog .eql 3 false t107_1 true (.int .i64 0) w K) w fun t108_1 w =>
 xPick t104_1 t108_1 (.bool false) w fun t109_1 w =>
 xGuard t109_1 true (fun w K => K t77_1 w) w fun t111_1 w =>
 xGuard t109_1 true (fun w K => xBin Try.prog .rem 3 false t111_1 true (.int .i64 8) w K) w fun t112_1 w =>
 xGuard t109_1 true (fun w K => xBin Try.prog .eql 3 false t112_1 true (.int .i64 0) w K) w fun t113_1 w =>
 xPick t109_1 t113_1 (.bool false) w fun t114_1 w =>
 K t114_1 w
def loamlaw4_GeomWords (K : K1) (t0 t1 t2 t3 : Value) (w : World) : Prop :=
 xBox Try.prog 23 t0 w fun t4 w =>
 xCall Try.prog (fnv 15) [] w fun t14 w =>
 xUn Try.prog .not t14 w fun t15 w =>
 xIf t15
 (K (.bool false) w)
 (xFieldAddr Try.prog 23 t4 0 w fun t16 w =>
 xLoad Try.prog 3 t16 w fun t17 w =>
 xBin Try.prog .lss 3 false t17 true (.int .i64 8) w fun t18 w =>
 xGuard t18 false (fun w K => xFieldAddr Try.prog 23 t4 2 w K) w fun t20 w =>
 xGuard t18 false (fun w K => xLoad Try.prog 3 t20 w K) w fun t21 w =>
 xGuard t18 false (fun w K => xBin Try.prog .gtr 3 false t21 true (.int .i64 16384) w K) w fun t22 w =>
 xPick t18 (.bool true) t22 w fun t23 w =>
 xGuard t23 false (fun w K => xFieldAddr Try.prog 23 t4 2 w K) w fun t25 w =>
 xGuard t23 false (fun w K => xLoad Try.prog 3 t25 w K) w fun t26 w =>
 xGuard t23 false (fun w K => xBin Try.prog .lss 3 false t26 true (.int .i64 0) w K) w fun t27 w =>
 xPick t23 (.bool true) t27 w fun t28 w =>
 xGuard t28 false (fun w K => xFieldAddr Try.prog 23 t4 1 w K) w fun t30 w =>
 xGuard t28 false (fun w K => xLoad Try.prog 3 t30 w K) w fun t31 w =>
 xGuard t28 false (fun w K => xBin Try.prog .gtr 3 false t31 true (.int .i64 2000) w K) w fun t32 w =>
 xPick t28 (.bool true) t32 w fun t33 w =>
 xGuard t33 false (fun w K => xFieldAddr Try.prog 23 t4 1 w K) w fun t35 w =>
 xGuard t33 false (fun w K => xLoad Try.prog 3 t35 w K) w fun t36 w =>
 xGuard t33 false (fun w K => xBin Try.prog .lss 3 false t36 true (.int .i64 0) w K) w fun t37 w =>
 xPick t33 (.bool true) t37 w fun t38 w =>
 xGuard t38 false (fun w K => xLoad Try.prog 23 t4 w K) w fun t40 w =>
 xGuard t38 false (fun w K => xCall Try.prog (fnv 17) [t40] w K) w fun t41 w =>
 xGuard t38 false (fun w K => xBin Try.prog .neq 3 false t41 true (.int .i64 0) w K) w fun t42 w =>
 xPick t38 (.bool true) t42 w fun t43 w =>
 xGuard t43 false (fun w K => K t1 w) w fun t45 w =>
 xGuard t43 false (fun w K => xBin Try.prog .lss 3 false t45 true (.int .i64 0) w K) w fun t46 w =>
 xPick t43 (.bool true) t46 w fun t47 w =>
 xGuard t47 false (fun w K => K t1 w) w fun t49 w =>
 xGuard t47 false (fun w K => xFieldAddr Try.prog 23 t4 2 w K) w fun t50 w =>
 xGuard t47 false (fun w K => xLoad Try.prog 3 t50 w K) w fun t51 w =>
 xGuard t47 false (fun w K => xBin Try.prog .geq 3 false t49 false t51 w K) w fun t52 w =>
 xPick t47 (.bool true) t52 w fun t53 w =>
 xGuard t53 false (fun w K => K t2 w) w fun t55 w =>
 xGuard t53 false (fun w K => xBin Try.prog .lss 3 false t55 true (.int .i64 0) w K) w fun t56 w =>
 xPick t53 (.bool true) t56 w fun t57 w =>
 xGuard t57 false (fun w K => K t2 w) w fun t59 w =>
 xGuard t57 false (fun w K => xFieldAddr Try.prog 23 t4 2 w K) w fun t60 w =>
 xGuard t57 false (fun w K => xLoad Try.prog 3 t60 w K) w fun t61 w =>
 xGuard t57 false (fun w K => xBin Try.prog .geq 3 false t59 false t61 w K) w fun t62 w =>
 xPick t57 (.bool true) t62 w fun t63 w =>
 xIf t63
 (K (.bool true) w)
 (xIf t3
 (loamlaw4_GeomWords_j1 K t1 t2 t3 t4 (.int .i64 0) w)
 (loamlaw4_GeomWords_j1 K t1 t2 t3 t4 (.int .i64 1) w)))
abbrev n_loamlaw4_GeomWords : Nat := 6
def loamlaw4_GeomWords_ann : Ann := { loop := fun i => [], wr := fun i => [], told := fun i => [] }
theorem loamlaw4_GeomWords_eq (t0 t1 t2 t3 : Value) (w : World) (K : K1) : reads Try.prog loamlaw4_GeomWords_ann Try.f6 #[t0, t1, t2, t3] w K = loamlaw4_GeomWords K t0 t1 t2 t3 w := by kernel_rfl
theorem loamlaw4_GeomWords_of {t0 t1 t2 t3 : Value} {w : World} {K : K1} (h : loamlaw4_GeomWords K t0 t1 t2 t3 w) : Yld Try.prog n_loamlaw4_GeomWords #[t0, t1, t2, t3] w K :=
  yld_of mixed loamlaw4_GeomWords_ann Try.func6 (by kernel_rfl) (loamlaw4_GeomWords_eq t0 t1 t2 t3 w K) h

/-! loam/loamlaw2.SumsAny: function 7 -/
def loamlaw2_SumsAny_l1 (K : K1) (nxt0 : List Value → World → Prop) (t0 t1 t5 t6 t7 : Value) (w : World) : Prop :=
 xBuiltin Try.prog .len #[50] 3 [false] [t0] w fun t21_1 w =>
 xBin Try.prog .lss 3 false t7 false t21_1 w fun t22_1 w =>
 xIf t22_1
 (xIndexAddr Try.prog 50 t0 t7 w fun t27_1 w =>
 xLoad Try.prog 51 t27_1 w fun t28_1 w =>
 xBuiltin Try.prog .len #[51] 3 [false] [t28_1] w fun t29_1 w =>
 xBin Try.prog .gtr 3 false t29_1 true (.int .i64 300) w fun t30_1 w =>
 xIf t30_1
 (K (.bool true) w)
 (xIndexAddr Try.prog 50 t0 t7 w fun t34_1 w =>
 xLoad Try.prog 51 t34_1 w fun t35_1 w =>
 xBuiltin Try.prog .append #[51, 51] 51 [false, false] [t5, t35_1] w fun t36_1 w =>
 xIndexAddr Try.prog 50 t0 t7 w fun t40_1 w =>
 xLoad Try.prog 51 t40_1 w fun t41_1 w =>
 xCall Try.prog (fnv 33) [t6, t41_1] w fun t42_1 w =>
 xBin Try.prog .add 3 false t7 true (.int .i64 1) w fun t24_1 w =>
 nxt0 [t36_1, t42_1, t24_1] w))
 (xDraw w.drew fun le H =>
 xDet le (H) (fun w K => K t0 w) fun t43 =>
 xDet le (H) (fun w K => K t5 w) fun t45 =>
 xDet le (H) (fun w K => xCall Try.prog (fnv 32) [t43] w K) fun t44 =>
 xDet le (H) (fun w K => xCall Try.prog (fnv 34) [t45] w K) fun t46 =>
 xDet le (H) (fun w K => xBin Try.prog .eql 52 false t44 false t46 w K) fun t47 =>
 xDet le (H) (fun w K => K t47 w) fun t48 =>
 xDet le (H) (fun w K => xGuard t48 true (fun w K => K t6 w) w K) fun t49 =>
 xDet le (H) (fun w K => xGuard t48 true (fun w K => K t5 w) w K) fun t50 =>
 xDet le (H) (fun w K => xGuard t48 true (fun w K => xCall Try.prog (fnv 34) [t50] w K) w K) fun t51 =>
 xDet le (H) (fun w K => xGuard t48 true (fun w K => xBin Try.prog .eql 52 false t49 false t51 w K) w K) fun t52 =>
 xDet le (H) (fun w K => xPick t48 t52 (.bool false) w K) fun t53 =>
 xDet le (H) (fun w K => K t53 w) fun t54 =>
 xDet le (H) (fun w K => xGuard t54 true (fun w K => K t5 w) w K) fun t55 =>
 xDet le (H) (fun w K => xGuard t54 true (fun w K => K t5 w) w K) fun t58 =>
 xStr (fun N =>
  xNon le (H) (fun w K => xGuard t54 true (fun w K => xCall Try.prog (fnv 35) [t55] w K) w K) fun t56 h13 =>
  xDet le (fun w => H w ∧ h13 w) (fun w K => xGuard t54 true (fun w K => xConv Try.prog 51 9 t56 w K) w K) N) fun t57 =>
 xStr (fun N =>
  xNon le (H) (fun w K => xGuard t54 true (fun w K => xCall Try.prog (fnv 36) [t58] w K) w K) fun t59 h16 =>
  xDet le (fun w => H w ∧ h16 w) (fun w K => xGuard t54 true (fun w K => xConv Try.prog 51 9 t59 w K) w K) N) fun t60 =>
 xDet le (H) (fun w K => xGuard t54 true (fun w K => xBin Try.prog .eql 9 false t57 false t60 w K) w K) fun t61 =>
 xDet le (H) (fun w K => xPick t54 t61 (.bool false) w K) fun t62 =>
 xDet le (H) (fun w K => K t62 w) fun t63 =>
 xDet le (H) (fun w K => xGuard t63 true (fun w K => K t5 w) w K) fun t64 =>
 xStr (fun N =>
  xNon le (H) (fun w K => xGuard t63 true (fun w K => xCall Try.prog (fnv 35) [t64] w K) w K) fun t65 h22 =>
  xDet le (fun w => H w ∧ h22 w) (fun w K => xGuard t63 true (fun w K => xCall Try.prog (fnv 37) [t65] w K) w K) N) fun t66 =>
 xDet le (H) (fun w K => xPick t63 t66 (.bool false) w K) fun t67 =>
 xDet le (H) (fun w K => K t67 w) fun t68 =>
 xDet le (H) (fun w K => xGuard t68 true (fun w K => K t1 w) w K) fun t69 =>
 xDet le (H) (fun w K => xGuard t68 true (fun w K => K t1 w) w K) fun t71 =>
 xDet le (H) (fun w K => xGuard t68 true (fun w K => xCall Try.prog (fnv 37) [t69] w K) w K) fun t70 =>
 xDet le (H) (fun w K => xGuard t68 true (fun w K => xCall Try.prog (fnv 38) [t71] w K) w K) fun t72 =>
 xDet le (H) (fun w K => xGuard t68 true (fun w K => xBin Try.prog .eql 4 false t70 false t72 w K) w K) fun t73 =>
 xDet le (H) (fun w K => xPick t68 t73 (.bool false) w K) fun t74 =>
 xDet le (H) (fun w K => K t74 w) fun t4_1 =>
 xEndU (H) fun uS w =>
 K t4_1 w)
def loamlaw2_SumsAny (K : K1) (t0 t1 : Value) (w : World) : Prop :=
 xCall Try.prog (fnv 31) [] w fun t8 w =>
 xUn Try.prog .not t8 w fun t9 w =>
 xIf t9
 (K (.bool false) w)
 (xBuiltin Try.prog .len #[50] 3 [false] [t0] w fun t11 w =>
 xBin Try.prog .gtr 3 false t11 true (.int .i64 20) w fun t12 w =>
 xGuard t12 false (fun w K => K t1 w) w fun t14 w =>
 xGuard t12 false (fun w K => xBuiltin Try.prog .len #[51] 3 [false] [t14] w K) w fun t15 w =>
 xGuard t12 false (fun w K => xBin Try.prog .gtr 3 false t15 true (.int .i64 1000) w K) w fun t16 w =>
 xPick t12 (.bool true) t16 w fun t17 w =>
 xIf t17
 (K (.bool true) w)
 (xCall Try.prog (fnv 32) [(.slice none 0 0)] w fun t18 w =>
 xLoop [(.slice none 0 0), t18, (.int .i64 0)] w [5, 6, 7] fun u w nxt0 =>
 loamlaw2_SumsAny_l1 K nxt0 t0 t1 (u 5) (u 6) (u 7) w))
abbrev n_loamlaw2_SumsAny : Nat := 7
def loamlaw2_SumsAny_ann : Ann := { loop := fun i => bif Nat.beq i 0 then [5, 6, 7] else [], wr := fun i => bif Nat.beq i 0 then [4, 5, 6, 7, 19, 20, 21, 22, 23, 24, 25, 26, 27, 28, 29, 30, 31, 32, 33, 34, 35, 36, 37, 38, 39, 40, 41, 42] else [], told := fun i => bif Nat.beq i 14 then [(0, false, ⟨0, 8796093022209, some 43⟩), (2, false, ⟨0, 35184372088864, some 45⟩), (1, false, ⟨1, 26388279066624, some 44⟩), (3, false, ⟨6, 105553116266496, some 46⟩), (4, false, ⟨10, 228698418577408, some 47⟩), (5, false, ⟨24, 422212465065984, some 48⟩), (6, false, ⟨32, 844424930132032, some 49⟩), (7, false, ⟨32, 1407374883553312, some 50⟩), (8, false, ⟨160, 3659174697238528, some 51⟩), (9, false, ⟨352, 7599824371187712, some 52⟩), (10, false, ⟨544, 13792273858822144, some 53⟩), (11, false, ⟨1280, 27021597764222976, some 54⟩), (12, false, ⟨2048, 54043195528445984, some 55⟩), (15, false, ⟨2048, 306244774661193760, some 58⟩), (13, false, ⟨6144, 126100789566373888, some 56⟩), (14, false, ⟨10240, 234187180623265792, some 57⟩), (16, false, ⟨43008, 882705526964617216, some 59⟩), (17, false, ⟨67584, 1747396655419752448, some 60⟩), (18, false, ⟨149504, 3620894100405878784, some 61⟩), (19, false, ⟨264192, 6935543426150563840, some 62⟩), (20, false, ⟨589824, 13835058055282163712, some 63⟩), (21, false, ⟨1048576, 27670116110564327456, some 64⟩), (22, false, ⟨3145728, 64563604257983430656, some 65⟩), (23, false, ⟨5242880, 119903836479112085504, some 66⟩), (24, false, ⟨9437184, 230584300921369395200, some 67⟩), (25, false, ⟨25165824, 442721857769029238784, some 68⟩), (26, false, ⟨33554432, 885443715538058477570, some 69⟩), (28, false, ⟨33554432, 2656331146614175432706, some 71⟩), (27, false, ⟨100663296, 2066035336255469780992, some 70⟩), (29, false, ⟨436207616, 7378697629483820646400, some 72⟩), (30, false, ⟨704643072, 15642838974505699770368, some 73⟩), (31, false, ⟨1107296256, 28629346802397224108032, some 74⟩), (32, false, ⟨4294967295, 18889465931478580854800, some 4⟩)] else [], plan := fun i => bif Nat.beq i 14 then some ⟨[[0], [2], [1], [3], [4], [5], [6], [7], [8], [9], [10], [11], [12], [15], [13, 14], [16, 17], [18], [19], [20], [21], [22, 23], [24], [25], [26], [28], [27], [29], [30], [31], [32]], [], [56, 59, 65]⟩ else none }
theorem loamlaw2_SumsAny_eq (t0 t1 : Value) (w : World) (K : K1) : reads Try.prog loamlaw2_SumsAny_ann Try.f7 #[t0, t1] w K = loamlaw2_SumsAny K t0 t1 w := by kernel_rfl
theorem loamlaw2_SumsAny_of {t0 t1 : Value} {w : World} {K : K1} (h : loamlaw2_SumsAny K t0 t1 w) : Yld Try.prog n_loamlaw2_SumsAny #[t0, t1] w K :=
  yld_of mixed loamlaw2_SumsAny_ann Try.func7 (by kernel_rfl) (loamlaw2_SumsAny_eq t0 t1 w K) h

/-! loam/loamlaw2.SumsTurned: function 8 -/
def loamlaw2_SumsTurned_j1 (K : K1) (nxt0 : List Value → World → Prop) (t9 : Value) (w : World) : Prop :=
 xBin Try.prog .add 3 false t9 true (.int .i64 1) w fun t40_1 w =>
 nxt0 [t40_1] w
def loamlaw2_SumsTurned_l1 (K : K1) (nxt0 : List Value → World → Prop) (t0 t2 t7 t8 t9 : Value) (w : World) : Prop :=
 xBin Try.prog .lss 3 false t9 true (.int .i64 32) w fun t38_1 w =>
 xIf t38_1
 (xConv Try.prog 3 59 t9 w fun t43_1 w =>
 xBin Try.prog .shr 52 false t2 false t43_1 w fun t44_1 w =>
 xBin Try.prog .and 52 false t44_1 true (c32 1) w fun t45_1 w =>
 xBin Try.prog .eql 52 false t45_1 true (c32 1) w fun t46_1 w =>
 xIf t46_1
 (xBin Try.prog .add 3 false t7 false t9 w fun t50_1 w =>
 xBin Try.prog .quo 3 false t50_1 true (.int .i64 8) w fun t51_1 w =>
 xBin Try.prog .add 3 false t7 false t9 w fun t55_1 w =>
 xBin Try.prog .quo 3 false t55_1 true (.int .i64 8) w fun t56_1 w =>
 xIndexAddr Try.prog 51 t8 t56_1 w fun t57_1 w =>
 xLoad Try.prog 5 t57_1 w fun t58_1 w =>
 xBin Try.prog .add 3 false t7 false t9 w fun t61_1 w =>
 xBin Try.prog .rem 3 false t61_1 true (.int .i64 8) w fun t62_1 w =>
 xConv Try.prog 3 59 t62_1 w fun t63_1 w =>
 xBin Try.prog .shl 5 true (c8 1) false t63_1 w fun t64_1 w =>
 xBin Try.prog .xor 5 false t58_1 false t64_1 w fun t65_1 w =>
 xIndexAddr Try.prog 51 t8 t51_1 w fun t66_1 w =>
 xStore Try.prog 5 t66_1 t65_1 w fun _ w =>
 loamlaw2_SumsTurned_j1 K nxt0 t9 w)
 (loamlaw2_SumsTurned_j1 K nxt0 t9 w))
 (xBuildSlice Try.prog 50 1 [(0, t8)] w fun t68 w =>
 xCall Try.prog (fnv 32) [t68] w fun t69 w =>
 xBuildSlice Try.prog 50 1 [(0, t0)] w fun t71 w =>
 xCall Try.prog (fnv 32) [t71] w fun t72 w =>
 xBin Try.prog .neq 52 false t69 false t72 w fun t73 w =>
 K t73 w)
def loamlaw2_SumsTurned (K : K1) (t0 t1 t2 : Value) (w : World) : Prop :=
 xCall Try.prog (fnv 31) [] w fun t10 w =>
 xUn Try.prog .not t10 w fun t11 w =>
 xIf t11
 (K (.bool false) w)
 (xBuiltin Try.prog .len #[51] 3 [false] [t0] w fun t13 w =>
 xBin Try.prog .lss 3 false t13 true (.int .i64 4) w fun t14 w =>
 xGuard t14 false (fun w K => K t0 w) w fun t16 w =>
 xGuard t14 false (fun w K => xBuiltin Try.prog .len #[51] 3 [false] [t16] w K) w fun t17 w =>
 xGuard t14 false (fun w K => xBin Try.prog .gtr 3 false t17 true (.int .i64 300) w K) w fun t18 w =>
 xPick t14 (.bool true) t18 w fun t19 w =>
 xGuard t19 false (fun w K => K t1 w) w fun t21 w =>
 xGuard t19 false (fun w K => xBin Try.prog .lss 3 false t21 true (.int .i64 0) w K) w fun t22 w =>
 xPick t19 (.bool true) t22 w fun t23 w =>
 xGuard t23 false (fun w K => K t2 w) w fun t25 w =>
 xGuard t23 false (fun w K => xBin Try.prog .eql 52 false t25 true (c32 0) w K) w fun t26 w =>
 xPick t23 (.bool true) t26 w fun t27 w =>
 xIf t27
 (K (.bool true) w)
 (xBuiltin Try.prog .len #[51] 3 [false] [t0] w fun t30 w =>
 xBin Try.prog .mul 3 true (.int .i64 8) false t30 w fun t31 w =>
 xBin Try.prog .sub 3 false t31 true (.int .i64 31) w fun t32 w =>
 xBin Try.prog .rem 3 false t1 false t32 w fun t33 w =>
 xBuildSlice Try.prog 51 0 [] w fun t34 w =>
 xBuiltin Try.prog .append #[51, 51] 51 [false, false] [t34, t0] w fun t36 w =>
 xLoop [(.int .i64 0)] w [9] fun u w nxt0 =>
 loamlaw2_SumsTurned_l1 K nxt0 t0 t2 t33 t36 (u 9) w))
abbrev n_loamlaw2_SumsTurned : Nat := 8
def loamlaw2_SumsTurned_ann : Ann := { loop := fun i => bif Nat.beq i 0 then [9] else [], wr := fun i => bif Nat.beq i 0 then [9, 37, 38, 39, 40, 41, 42, 43, 44, 45, 46, 47, 48, 49, 50, 51, 52, 53, 54, 55, 56, 57, 58, 59, 60, 61, 62, 63, 64, 65, 66] else [], told := fun i => [] }
theorem loamlaw2_SumsTurned_eq (t0 t1 t2 : Value) (w : World) (K : K1) : reads Try.prog loamlaw2_SumsTurned_ann Try.f8 #[t0, t1, t2] w K = loamlaw2_SumsTurned K t0 t1 t2 w := by kernel_rfl
theorem loamlaw2_SumsTurned_of {t0 t1 t2 : Value} {w : World} {K : K1} (h : loamlaw2_SumsTurned K t0 t1 t2 w) : Yld Try.prog n_loamlaw2_SumsTurned #[t0, t1, t2] w K :=
  yld_of mixed loamlaw2_SumsTurned_ann Try.func8 (by kernel_rfl) (loamlaw2_SumsTurned_eq t0 t1 t2 w K) h

/-! loam/loamlaw2.SumsSeal: function 9 -/
def loamlaw2_SumsSeal (K : K1) (t0 : Value) (w : World) : Prop :=
 xCall Try.prog (fnv 31) [] w fun t5 w =>
 xUn Try.prog .not t5 w fun t6 w =>
 xIf t6
 (K (.bool false) w)
 (xBuiltin Try.prog .len #[51] 3 [false] [t0] w fun t8 w =>
 xBin Try.prog .gtr 3 false t8 true (.int .i64 500) w fun t9 w =>
 xIf t9
 (K (.bool true) w)
 (xCall Try.prog (fnv 35) [t0] w fun t11 w =>
 xCall Try.prog (fnv 35) [t11] w fun t13 w =>
 xDraw w.drew fun le H =>
 xDet le (H) (fun w K => K t11 w) fun t14 =>
 xDet le (H) (fun w K => xBuiltin Try.prog .len #[51] 3 [false] [t14] w K) fun t15 =>
 xDet le (H) (fun w K => K t0 w) fun t16 =>
 xDet le (H) (fun w K => xBuiltin Try.prog .len #[51] 3 [false] [t16] w K) fun t17 =>
 xDet le (H) (fun w K => xBin Try.prog .add 3 false t17 true (.int .i64 4) w K) fun t18 =>
 xDet le (H) (fun w K => xBin Try.prog .eql 3 false t15 false t18 w K) fun t19 =>
 xDet le (H) (fun w K => K t19 w) fun t20 =>
 xDet le (H) (fun w K => xGuard t20 true (fun w K => K t11 w) w K) fun t21 =>
 xDet le (H) (fun w K => xGuard t20 true (fun w K => K t0 w) w K) fun t22 =>
 xDet le (H) (fun w K => xGuard t20 true (fun w K => xBuiltin Try.prog .len #[51] 3 [false] [t22] w K) w K) fun t23 =>
 xDet le (H) (fun w K => xGuard t20 true (fun w K => xSlice Try.prog 51 t21 none (some t23) none w K) w K) fun t24 =>
 xDet le (H) (fun w K => xGuard t20 true (fun w K => xConv Try.prog 51 9 t24 w K) w K) fun t25 =>
 xDet le (H) (fun w K => xGuard t20 true (fun w K => K t0 w) w K) fun t26 =>
 xDet le (H) (fun w K => xGuard t20 true (fun w K => xConv Try.prog 51 9 t26 w K) w K) fun t27 =>
 xDet le (H) (fun w K => xGuard t20 true (fun w K => xBin Try.prog .eql 9 false t25 false t27 w K) w K) fun t28 =>
 xDet le (H) (fun w K => xPick t20 t28 (.bool false) w K) fun t29 =>
 xDet le (H) (fun w K => K t29 w) fun t30 =>
 xDet le (H) (fun w K => xGuard t30 true (fun w K => K t11 w) w K) fun t31 =>
 xDet le (H) (fun w K => xGuard t30 true (fun w K => xCall Try.prog (fnv 37) [t31] w K) w K) fun t32 =>
 xDet le (H) (fun w K => xPick t30 t32 (.bool false) w K) fun t33 =>
 xDet le (H) (fun w K => K t33 w) fun t34 =>
 xDet le (H) (fun w K => xGuard t34 true (fun w K => K t13 w) w K) fun t35 =>
 xDet le (H) (fun w K => xGuard t34 true (fun w K => xCall Try.prog (fnv 37) [t35] w K) w K) fun t36 =>
 xDet le (H) (fun w K => xPick t34 t36 (.bool false) w K) fun t37 =>
 xDet le (H) (fun w K => K t37 w) fun t38 =>
 xDet le (H) (fun w K => xGuard t38 true (fun w K => K t13 w) w K) fun t39 =>
 xDet le (H) (fun w K => xGuard t38 true (fun w K => xBuiltin Try.prog .len #[51] 3 [false] [t39] w K) w K) fun t40 =>
 xDet le (H) (fun w K => xGuard t38 true (fun w K => K t0 w) w K) fun t41 =>
 xDet le (H) (fun w K => xGuard t38 true (fun w K => xBuiltin Try.prog .len #[51] 3 [false] [t41] w K) w K) fun t42 =>
 xDet le (H) (fun w K => xGuard t38 true (fun w K => xBin Try.prog .add 3 false t42 true (.int .i64 8) w K) w K) fun t43 =>
 xDet le (H) (fun w K => xGuard t38 true (fun w K => xBin Try.prog .eql 3 false t40 false t43 w K) w K) fun t44 =>
 xDet le (H) (fun w K => xPick t38 t44 (.bool false) w K) fun t45 =>
 xDet le (H) (fun w K => K t45 w) fun t2 =>
 xEnd (H) fun w =>
 K t2 w))
abbrev n_loamlaw2_SumsSeal : Nat := 9
def loamlaw2_SumsSeal_ann : Ann := { loop := fun i => [], wr := fun i => [], told := fun i => bif Nat.beq i 7 then [(0, false, ⟨0, 16392, some 14⟩), (1, false, ⟨1, 49152, some 15⟩), (2, false, ⟨0, 65537, some 16⟩), (3, false, ⟨4, 196608, some 17⟩), (4, false, ⟨8, 393216, some 18⟩), (5, false, ⟨18, 819200, some 19⟩), (6, false, ⟨32, 1572864, some 20⟩), (7, false, ⟨64, 3145736, some 21⟩), (8, false, ⟨64, 5242881, some 22⟩), (9, false, ⟨320, 13631488, some 23⟩), (10, false, ⟨704, 28311552, some 24⟩), (11, false, ⟨1088, 51380224, some 25⟩), (12, false, ⟨64, 68157441, some 26⟩), (13, false, ⟨4160, 202375168, some 27⟩), (14, false, ⟨10304, 437256192, some 28⟩), (15, false, ⟨16448, 806354944, some 29⟩), (16, false, ⟨32832, 1610612736, some 30⟩), (17, false, ⟨65536, 3221225480, some 31⟩), (18, false, ⟨196608, 7516192768, some 32⟩), (19, false, ⟨327680, 13958643712, some 33⟩), (20, false, ⟨786432, 25769803776, some 34⟩), (21, false, ⟨1048576, 51539607568, some 35⟩), (22, false, ⟨3145728, 120259084288, some 36⟩), (23, false, ⟨5242880, 223338299392, some 37⟩), (24, false, ⟨12582912, 412316860416, some 38⟩), (25, false, ⟨16777216, 824633720848, some 39⟩), (26, false, ⟨50331648, 1924145348608, some 40⟩), (27, false, ⟨16777216, 2473901162497, some 41⟩), (28, false, ⟨150994944, 6871947673600, some 42⟩), (29, false, ⟨285212672, 13469017440256, some 43⟩), (30, false, ⟨620756992, 27762668601344, some 44⟩), (31, false, ⟨1090519040, 53051436040192, some 45⟩), (32, false, ⟨4294967295, 35184372088836, some 2⟩)] else [] }
theorem loamlaw2_SumsSeal_eq (t0 : Value) (w : World) (K : K1) : reads Try.prog loamlaw2_SumsSeal_ann Try.f9 #[t0] w K = loamlaw2_SumsSeal K t0 w := by kernel_rfl
theorem loamlaw2_SumsSeal_of {t0 : Value} {w : World} {K : K1} (h : loamlaw2_SumsSeal K t0 w) : Yld Try.prog n_loamlaw2_SumsSeal #[t0] w K :=
  yld_of mixed loamlaw2_SumsSeal_ann Try.func9 (by kernel_rfl) (loamlaw2_SumsSeal_eq t0 w K) h

/-! loam/loamlaw2.SumsXor: function 10 -/
def loamlaw2_SumsXor_l1 (K : K1) (nxt0 : List Value → World → Prop) (t0 t1 t5 t6 : Value) (w : World) : Prop :=
 xBuiltin Try.prog .len #[51] 3 [false] [t0] w fun t29_1 w =>
 xBin Try.prog .lss 3 false t6 false t29_1 w fun t30_1 w =>
 xIf t30_1
 (xDraw w.drew fun le H =>
 xDet le (H) (fun w K => K t5 w) fun t33_1 =>
 xDet le (H) (fun w K => K t6 w) fun t34_1 =>
 xDet le (H) (fun w K => K t0 w) fun t35_1 =>
 xDet le (H) (fun w K => K t6 w) fun t36_1 =>
 xDet le (H) (fun w K => xIndexAddr Try.prog 51 t35_1 t36_1 w K) fun t37_1 =>
 xDet le (H) (fun w K => xLoad Try.prog 5 t37_1 w K) fun t38_1 =>
 xDet le (H) (fun w K => K t1 w) fun t39_1 =>
 xDet le (H) (fun w K => K t6 w) fun t40_1 =>
 xDet le (H) (fun w K => xIndexAddr Try.prog 51 t39_1 t40_1 w K) fun t41_1 =>
 xDet le (H) (fun w K => xLoad Try.prog 5 t41_1 w K) fun t42_1 =>
 xDet le (H) (fun w K => xBin Try.prog .xor 5 false t38_1 false t42_1 w K) fun t43_1 =>
 xDet le (H) (fun w K => xIndexAddr Try.prog 51 t33_1 t34_1 w K) fun t44_1 =>
 xEnd (H) fun w =>
 xStore Try.prog 5 t44_1 t43_1 w fun _x12 w =>
 xBin Try.prog .add 3 false t6 true (.int .i64 1) w fun t32_1 w =>
 nxt0 [t32_1] w)
 (xDraw w.drew fun le H =>
 xDet le (H) (fun w K => K t5 w) fun t45 =>
 xDet le (H) (fun w K => K t0 w) fun t48 =>
 xDet le (H) (fun w K => K t1 w) fun t51 =>
 xDet le (H) (fun w K => K t0 w) fun t52 =>
 xDet le (H) (fun w K => xBuiltin Try.prog .len #[51] 3 [false] [t52] w K) fun t53 =>
 xDet le (H) (fun w K => xSlice Try.prog 51 t51 none (some t53) none w K) fun t54 =>
 xDet le (H) (fun w K => K t0 w) fun t58 =>
 xDet le (H) (fun w K => xBuiltin Try.prog .len #[51] 3 [false] [t58] w K) fun t59 =>
 xStr (fun N =>
  xNon le (H) (fun w K => xBuildSlice Try.prog 50 1 [(0, t45)] w K) fun t46 h1 =>
  xDet le (fun w => H w ∧ h1 w) (fun w K => xCall Try.prog (fnv 32) [t46] w K) N) fun t47 =>
 xStr (fun N =>
  xNon le (H) (fun w K => xBuildSlice Try.prog 50 1 [(0, t48)] w K) fun t49 h4 =>
  xDet le (fun w => H w ∧ h4 w) (fun w K => xCall Try.prog (fnv 32) [t49] w K) N) fun t50 =>
 xStr (fun N =>
  xNon le (H) (fun w K => xBuildSlice Try.prog 50 1 [(0, t54)] w K) fun t55 h10 =>
  xDet le (fun w => H w ∧ h10 w) (fun w K => xCall Try.prog (fnv 32) [t55] w K) N) fun t56 =>
 xDet le (H) (fun w K => xBin Try.prog .xor 52 false t50 false t56 w K) fun t57 =>
 xStr (fun N =>
  xNon le (H) (fun w K => xMakeSlice Try.prog 51 t59 t59 w K) fun t60 h15 =>
  xNon le (fun w => H w ∧ h15 w) (fun w K => xBuildSlice Try.prog 50 1 [(0, t60)] w K) fun t61 h16 =>
  xDet le (fun w => (H w ∧ h15 w) ∧ h16 w) (fun w K => xCall Try.prog (fnv 32) [t61] w K) N) fun t62 =>
 xDet le (H) (fun w K => xBin Try.prog .xor 52 false t57 false t62 w K) fun t63 =>
 xDet le (H) (fun w K => xBin Try.prog .eql 52 false t47 false t63 w K) fun t64 =>
 xDet le (H) (fun w K => K t64 w) fun t4_1 =>
 xEndU (H) fun uS w =>
 K t4_1 w)
def loamlaw2_SumsXor (K : K1) (t0 t1 : Value) (w : World) : Prop :=
 xCall Try.prog (fnv 31) [] w fun t7 w =>
 xUn Try.prog .not t7 w fun t8 w =>
 xIf t8
 (K (.bool false) w)
 (xBuiltin Try.prog .len #[51] 3 [false] [t0] w fun t10 w =>
 xBin Try.prog .gtr 3 false t10 true (.int .i64 300) w fun t11 w =>
 xGuard t11 false (fun w K => K t1 w) w fun t13 w =>
 xGuard t11 false (fun w K => xBuiltin Try.prog .len #[51] 3 [false] [t13] w K) w fun t14 w =>
 xGuard t11 false (fun w K => K t0 w) w fun t15 w =>
 xGuard t11 false (fun w K => xBuiltin Try.prog .len #[51] 3 [false] [t15] w K) w fun t16 w =>
 xGuard t11 false (fun w K => xBin Try.prog .lss 3 false t14 false t16 w K) w fun t17 w =>
 xPick t11 (.bool true) t17 w fun t18 w =>
 xGuard t18 false (fun w K => K t1 w) w fun t20 w =>
 xGuard t18 false (fun w K => xBuiltin Try.prog .len #[51] 3 [false] [t20] w K) w fun t21 w =>
 xGuard t18 false (fun w K => xBin Try.prog .gtr 3 false t21 true (.int .i64 300) w K) w fun t22 w =>
 xPick t18 (.bool true) t22 w fun t23 w =>
 xIf t23
 (K (.bool true) w)
 (xBuiltin Try.prog .len #[51] 3 [false] [t0] w fun t25 w =>
 xMakeSlice Try.prog 51 t25 t25 w fun t26 w =>
 xLoop [(.int .i64 0)] w [6] fun u w nxt0 =>
 loamlaw2_SumsXor_l1 K nxt0 t0 t1 t26 (u 6) w))
abbrev n_loamlaw2_SumsXor : Nat := 10
def loamlaw2_SumsXor_ann : Ann := { loop := fun i => bif Nat.beq i 0 then [6] else [], wr := fun i => bif Nat.beq i 0 then [6, 27, 28, 29, 30, 31, 32, 33, 34, 35, 36, 37, 38, 39, 40, 41, 42, 43, 44] else [], told := fun i => bif Nat.beq i 9 then [(0, false, ⟨0, 8589934624, some 33⟩), (1, false, ⟨0, 17179869248, some 34⟩), (2, false, ⟨0, 34359738369, some 35⟩), (3, false, ⟨0, 68719476800, some 36⟩), (4, false, ⟨12, 240518168576, some 37⟩), (5, false, ⟨16, 412316860416, some 38⟩), (6, false, ⟨0, 549755813890, some 39⟩), (7, false, ⟨0, 1099511627840, some 40⟩), (8, false, ⟨192, 3848290697216, some 41⟩), (9, false, ⟨256, 6597069766656, some 42⟩), (10, false, ⟨544, 13469017440256, some 43⟩), (11, false, ⟨2047, 17617955848192, some 44⟩), (12, true, ⟨4095, 26388279066624, none⟩)] else bif Nat.beq i 10 then [(0, false, ⟨0, 35184372088864, some 45⟩), (3, false, ⟨0, 281474976710657, some 48⟩), (6, false, ⟨0, 2251799813685250, some 51⟩), (7, false, ⟨0, 4503599627370497, some 52⟩), (8, false, ⟨128, 13510798882111488, some 53⟩), (9, false, ⟨320, 29273397577908224, some 54⟩), (13, false, ⟨0, 288230376151711745, some 58⟩), (14, false, ⟨8192, 864691128455135232, some 59⟩), (1, false, ⟨1, 105553116266496, some 46⟩), (2, false, ⟨2, 211106232532992, some 47⟩), (4, false, ⟨8, 844424930131968, some 49⟩), (5, false, ⟨20, 1688849860263936, some 50⟩), (10, false, ⟨512, 54043195528445952, some 55⟩), (11, false, ⟨1056, 108086391056891904, some 56⟩), (12, false, ⟨2080, 217298682020626432, some 57⟩), (15, false, ⟨16384, 1729382256910270464, some 60⟩), (16, false, ⟨32768, 3458764513820540928, some 61⟩), (17, false, ⟨67584, 6917529027641081856, some 62⟩), (18, false, ⟨135168, 13979173243358019584, some 63⟩), (19, false, ⟨262148, 27670256848052682752, some 64⟩), (20, false, ⟨1048575, 18446744073709551632, some 4⟩)] else [], plan := fun i => bif Nat.beq i 10 then some ⟨[[0], [3], [6], [7], [8], [9], [13], [14], [1, 2], [4, 5], [10, 11], [12], [15, 16, 17], [18], [19], [20]], [], [46, 49, 55, 60, 61]⟩ else none }
theorem loamlaw2_SumsXor_eq (t0 t1 : Value) (w : World) (K : K1) : reads Try.prog loamlaw2_SumsXor_ann Try.f10 #[t0, t1] w K = loamlaw2_SumsXor K t0 t1 w := by kernel_rfl
theorem loamlaw2_SumsXor_of {t0 t1 : Value} {w : World} {K : K1} (h : loamlaw2_SumsXor K t0 t1 w) : Yld Try.prog n_loamlaw2_SumsXor #[t0, t1] w K :=
  yld_of mixed loamlaw2_SumsXor_ann Try.func10 (by kernel_rfl) (loamlaw2_SumsXor_eq t0 t1 w K) h

/-! loam/loamlaw14.HeadBack: function 11 -/
def loamlaw14_HeadBack (K : K1) (t0 : Value) (w : World) : Prop :=
 xBox Try.prog 63 t0 w fun t1 w =>
 xCall Try.prog (fnv 39) [] w fun t9 w =>
 xUn Try.prog .not t9 w fun t10 w =>
 xIf t10
 (K (.bool false) w)
 (xLoad Try.prog 63 t1 w fun t12 w =>
 xCall Try.prog (fnv 40) [t12] w fun t13 w =>
 xExtract Try.prog t13 0 w fun t14 w =>
 xExtract Try.prog t13 1 w fun t15 w =>
 xLoad Try.prog 63 t1 w fun t17 w =>
 xCall Try.prog (fnv 42) [t17] w fun t18 w =>
 xCall Try.prog (fnv 41) [t18] w fun t19 w =>
 xExtract Try.prog t19 0 w fun t20 w =>
 xExtract Try.prog t19 1 w fun t21 w =>
 xDraw w.drew fun le H =>
 xDet le (H) (fun w K => K t14 w) fun t22 =>
 xDet le (H) (fun w K => K t20 w) fun t23 =>
 xDet le (H) (fun w K => xBin Try.prog .neq 64 false t22 false t23 w K) fun t24 =>
 xDet le (H) (fun w K => K t24 w) fun t25 =>
 xDet le (H) (fun w K => xGuard t25 false (fun w K => K t15 w) w K) fun t26 =>
 xDet le (H) (fun w K => xGuard t25 false (fun w K => K t21 w) w K) fun t27 =>
 xDet le (H) (fun w K => xGuard t25 false (fun w K => xBin Try.prog .neq 3 false t26 false t27 w K) w K) fun t28 =>
 xDet le (H) (fun w K => xPick t25 (.bool true) t28 w K) fun t29 =>
 xDet le (H) (fun w K => K t29 w) fun t30 =>
 xDet le (H) (fun w K => xGuard t30 false (fun w K => xLoad Try.prog 63 t1 w K) w K) fun t31 =>
 xDet le (H) (fun w K => xGuard t30 false (fun w K => xLoad Try.prog 63 t1 w K) w K) fun t33 =>
 xDet le (H) (fun w K => xGuard t30 false (fun w K => xCall Try.prog (fnv 43) [t31] w K) w K) fun t32 =>
 xDet le (H) (fun w K => xGuard t30 false (fun w K => xCall Try.prog (fnv 42) [t33] w K) w K) fun t34 =>
 xDet le (H) (fun w K => xGuard t30 false (fun w K => xCall Try.prog (fnv 44) [t34] w K) w K) fun t35 =>
 xDet le (H) (fun w K => xGuard t30 false (fun w K => xBin Try.prog .neq 4 false t32 false t35 w K) w K) fun t36 =>
 xDet le (H) (fun w K => xPick t30 (.bool true) t36 w K) fun t37 =>
 xDet le (H) (fun w K => K t37 w) fun t38 =>
 xDet le (H) (fun w K => xGuard t38 false (fun w K => xLoad Try.prog 63 t1 w K) w K) fun t39 =>
 xDet le (H) (fun w K => xGuard t38 false (fun w K => xLoad Try.prog 63 t1 w K) w K) fun t41 =>
 xDet le (H) (fun w K => xGuard t38 false (fun w K => xCall Try.prog (fnv 45) [t39] w K) w K) fun t40 =>
 xDet le (H) (fun w K => xGuard t38 false (fun w K => xCall Try.prog (fnv 42) [t41] w K) w K) fun t42 =>
 xDet le (H) (fun w K => xGuard t38 false (fun w K => xCall Try.prog (fnv 46) [t42] w K) w K) fun t43 =>
 xDet le (H) (fun w K => xGuard t38 false (fun w K => xBin Try.prog .neq 3 false t40 false t43 w K) w K) fun t44 =>
 xDet le (H) (fun w K => xPick t38 (.bool true) t44 w K) fun t45 =>
 xEnd (H) fun w =>
 xIf t45
 (K (.bool false) w)
 (xBin Try.prog .neq 3 false t21 true (.int .i64 0) w fun t47 w =>
 xIf t47
 (K (.bool true) w)
 (xCall Try.prog (fnv 47) [t14] w fun t50 w =>
 xExtract Try.prog t50 0 w fun t51 w =>
 xExtract Try.prog t50 1 w fun t52 w =>
 xAlloc Try.prog 63 w fun t7 w =>
 xStore Try.prog 63 t7 t51 w fun _ w =>
 xBin Try.prog .eql 3 false t52 true (.int .i64 0) w fun t54 w =>
 xGuard t54 true (fun w K => xLoad Try.prog 63 t7 w K) w fun t56 w =>
 xGuard t54 true (fun w K => xLoad Try.prog 63 t1 w K) w fun t57 w =>
 xGuard t54 true (fun w K => xBin Try.prog .eql 63 false t56 false t57 w K) w fun t58 w =>
 xPick t54 t58 (.bool false) w fun t59 w =>
 K t59 w)))
abbrev n_loamlaw14_HeadBack : Nat := 11
def loamlaw14_HeadBack_ann : Ann := { loop := fun i => [], wr := fun i => [], told := fun i => bif Nat.beq i 5 then [(0, false, ⟨0, 4194312, some 22⟩), (1, false, ⟨0, 8388640, some 23⟩), (2, false, ⟨3, 29360128, some 24⟩), (3, false, ⟨4, 50331648, some 25⟩), (4, false, ⟨8, 100663312, some 26⟩), (5, false, ⟨8, 167772224, some 27⟩), (6, false, ⟨56, 503316480, some 28⟩), (7, false, ⟨72, 838860800, some 29⟩), (8, false, ⟨136, 1610612736, some 30⟩), (9, false, ⟨256, 3221225474, some 31⟩), (11, false, ⟨256, 9663676418, some 33⟩), (10, false, ⟨768, 7516192768, some 32⟩), (12, false, ⟨3328, 26843545600, some 34⟩), (13, false, ⟨4352, 52613349376, some 35⟩), (14, false, ⟨9472, 108447924224, some 36⟩), (15, false, ⟨16640, 207232172032, some 37⟩), (16, false, ⟨40960, 412316860416, some 38⟩), (17, false, ⟨65536, 824633720834, some 39⟩), (19, false, ⟨65536, 2473901162498, some 41⟩), (18, false, ⟨196608, 1924145348608, some 40⟩), (20, false, ⟨851968, 6871947673600, some 42⟩), (21, false, ⟨1114112, 13469017440256, some 43⟩), (22, false, ⟨2424832, 27762668601344, some 44⟩), (23, false, ⟨4259840, 53051436040192, some 45⟩)] else [] }
theorem loamlaw14_HeadBack_eq (t0 : Value) (w : World) (K : K1) : reads Try.prog loamlaw14_HeadBack_ann Try.f11 #[t0] w K = loamlaw14_HeadBack K t0 w := by kernel_rfl
theorem loamlaw14_HeadBack_of {t0 : Value} {w : World} {K : K1} (h : loamlaw14_HeadBack K t0 w) : Yld Try.prog n_loamlaw14_HeadBack #[t0] w K :=
  yld_of mixed loamlaw14_HeadBack_ann Try.func11 (by kernel_rfl) (loamlaw14_HeadBack_eq t0 w K) h

/-! loam/loamlaw14.HeadWords: function 12 -/
def loamlaw14_HeadWords (K : K1) (t0 : Value) (w : World) : Prop :=
 xCall Try.prog (fnv 39) [] w fun t9 w =>
 xUn Try.prog .not t9 w fun t10 w =>
 xIf t10
 (K (.bool false) w)
 (xCall Try.prog (fnv 47) [t0] w fun t13 w =>
 xExtract Try.prog t13 0 w fun t14 w =>
 xExtract Try.prog t13 1 w fun t15 w =>
 xAlloc Try.prog 63 w fun t3 w =>
 xStore Try.prog 63 t3 t14 w fun _ w =>
 xCall Try.prog (fnv 48) [t0] w fun t18 w =>
 xExtract Try.prog t18 0 w fun t19 w =>
 xExtract Try.prog t18 1 w fun t20 w =>
 xAlloc Try.prog 69 w fun t5 w =>
 xStore Try.prog 69 t5 t19 w fun _ w =>
 xDraw w.drew fun le H =>
 xDet le (H) (fun w K => xLoad Try.prog 63 t3 w K) fun t21 =>
 xDet le (H) (fun w K => xLoad Try.prog 69 t5 w K) fun t23 =>
 xDet le (H) (fun w K => xCall Try.prog (fnv 42) [t21] w K) fun t22 =>
 xDet le (H) (fun w K => xBin Try.prog .neq 69 false t22 false t23 w K) fun t24 =>
 xDet le (H) (fun w K => K t24 w) fun t25 =>
 xDet le (H) (fun w K => xGuard t25 false (fun w K => K t15 w) w K) fun t26 =>
 xDet le (H) (fun w K => xGuard t25 false (fun w K => K t20 w) w K) fun t27 =>
 xDet le (H) (fun w K => xGuard t25 false (fun w K => xBin Try.prog .neq 3 false t26 false t27 w K) w K) fun t28 =>
 xDet le (H) (fun w K => xPick t25 (.bool true) t28 w K) fun t29 =>
 xEnd (H) fun w =>
 xIf t29
 (K (.bool false) w)
 (xBin Try.prog .neq 3 false t20 true (.int .i64 0) w fun t31 w =>
 xIf t31
 (K (.bool true) w)
 (xLoad Try.prog 63 t3 w fun t33 w =>
 xCall Try.prog (fnv 40) [t33] w fun t34 w =>
 xExtract Try.prog t34 0 w fun t35 w =>
 xExtract Try.prog t34 1 w fun t36 w =>
 xBin Try.prog .eql 3 false t36 true (.int .i64 0) w fun t38 w =>
 xGuard t38 true (fun w K => K t35 w) w fun t40 w =>
 xGuard t38 true (fun w K => K t0 w) w fun t41 w =>
 xGuard t38 true (fun w K => xBin Try.prog .eql 64 false t40 false t41 w K) w fun t42 w =>
 xPick t38 t42 (.bool false) w fun t43 w =>
 K t43 w)))
abbrev n_loamlaw14_HeadWords : Nat := 12
def loamlaw14_HeadWords_ann : Ann := { loop := fun i => [], wr := fun i => [], told := fun i => bif Nat.beq i 5 then [(0, false, ⟨0, 2097160, some 21⟩), (2, false, ⟨0, 8388640, some 23⟩), (1, false, ⟨1, 6291456, some 22⟩), (3, false, ⟨6, 29360128, some 24⟩), (4, false, ⟨10, 50331648, some 25⟩), (5, false, ⟨16, 100663312, some 26⟩), (6, false, ⟨16, 167772224, some 27⟩), (7, false, ⟨112, 503316480, some 28⟩), (8, false, ⟨144, 838860800, some 29⟩)] else [] }
theorem loamlaw14_HeadWords_eq (t0 : Value) (w : World) (K : K1) : reads Try.prog loamlaw14_HeadWords_ann Try.f12 #[t0] w K = loamlaw14_HeadWords K t0 w := by kernel_rfl
theorem loamlaw14_HeadWords_of {t0 : Value} {w : World} {K : K1} (h : loamlaw14_HeadWords K t0 w) : Yld Try.prog n_loamlaw14_HeadWords #[t0] w K :=
  yld_of mixed loamlaw14_HeadWords_ann Try.func12 (by kernel_rfl) (loamlaw14_HeadWords_eq t0 w K) h

/-! loam/loamlaw14.HeadSizes: function 13 -/
def loamlaw14_HeadSizes (K : K1) (t0 t1 : Value) (w : World) : Prop :=
 xCall Try.prog (fnv 39) [] w fun t8 w =>
 xUn Try.prog .not t8 w fun t9 w =>
 xIf t9
 (K (.bool false) w)
 (xBin Try.prog .rem 5 false t0 true (c8 65) w fun t11 w =>
 xConv Try.prog 5 3 t11 w fun t12 w =>
 xBin Try.prog .rem 80 false t1 true (c16 1025) w fun t14 w =>
 xConv Try.prog 80 3 t14 w fun t15 w =>
 xBuild Try.prog 63 [(0, t12), (1, t15)] w fun t18 w =>
 xCall Try.prog (fnv 45) [t18] w fun t19 w =>
 xBin Try.prog .sub 3 false t19 true (.int .i64 1) w fun t21 w =>
 xBin Try.prog .sub 3 false t21 false t12 w fun t23 w =>
 xBin Try.prog .mul 3 true (.int .i64 8) false t23 w fun t24 w =>
 xBin Try.prog .geq 3 false t24 false t15 w fun t26 w =>
 xGuard t26 true (fun w K => K t19 w) w fun t28 w =>
 xGuard t26 true (fun w K => xBin Try.prog .sub 3 false t28 true (.int .i64 1) w K) w fun t29 w =>
 xGuard t26 true (fun w K => K t12 w) w fun t30 w =>
 xGuard t26 true (fun w K => xBin Try.prog .sub 3 false t29 false t30 w K) w fun t31 w =>
 xGuard t26 true (fun w K => xBin Try.prog .mul 3 true (.int .i64 8) false t31 w K) w fun t32 w =>
 xGuard t26 true (fun w K => K t15 w) w fun t33 w =>
 xGuard t26 true (fun w K => xBin Try.prog .add 3 false t33 true (.int .i64 8) w K) w fun t34 w =>
 xGuard t26 true (fun w K => xBin Try.prog .lss 3 false t32 false t34 w K) w fun t35 w =>
 xPick t26 t35 (.bool false) w fun t36 w =>
 xGuard t36 true (fun w K => K t19 w) w fun t38 w =>
 xGuard t36 true (fun w K => xBin Try.prog .leq 3 false t38 true (.int .i64 193) w K) w fun t39 w =>
 xPick t36 t39 (.bool false) w fun t40 w =>
 K t40 w)
abbrev n_loamlaw14_HeadSizes : Nat := 13
def loamlaw14_HeadSizes_ann : Ann := { loop := fun i => [], wr := fun i => [], told := fun i => [] }
theorem loamlaw14_HeadSizes_eq (t0 t1 : Value) (w : World) (K : K1) : reads Try.prog loamlaw14_HeadSizes_ann Try.f13 #[t0, t1] w K = loamlaw14_HeadSizes K t0 t1 w := by kernel_rfl
theorem loamlaw14_HeadSizes_of {t0 t1 : Value} {w : World} {K : K1} (h : loamlaw14_HeadSizes K t0 t1 w) : Yld Try.prog n_loamlaw14_HeadSizes #[t0, t1] w K :=
  yld_of mixed loamlaw14_HeadSizes_ann Try.func13 (by kernel_rfl) (loamlaw14_HeadSizes_eq t0 t1 w K) h

/-! loam/loamlaw14.HeadUnlike: function 14 -/
def loamlaw14_HeadUnlike (K : K1) (t0 t1 : Value) (w : World) : Prop :=
 xBox Try.prog 63 t0 w fun t2 w =>
 xBox Try.prog 63 t1 w fun t3 w =>
 xCall Try.prog (fnv 39) [] w fun t9 w =>
 xUn Try.prog .not t9 w fun t10 w =>
 xIf t10
 (K (.bool false) w)
 (xLoad Try.prog 63 t2 w fun t12 w =>
 xCall Try.prog (fnv 40) [t12] w fun t13 w =>
 xExtract Try.prog t13 0 w fun t14 w =>
 xExtract Try.prog t13 1 w fun t15 w =>
 xLoad Try.prog 63 t3 w fun t17 w =>
 xCall Try.prog (fnv 40) [t17] w fun t18 w =>
 xExtract Try.prog t18 0 w fun t19 w =>
 xExtract Try.prog t18 1 w fun t20 w =>
 xBin Try.prog .add 3 false t15 false t20 w fun t23 w =>
 xBin Try.prog .neq 3 false t23 true (.int .i64 0) w fun t24 w =>
 xIf t24
 (xBin Try.prog .eql 3 false t15 true (.int .i64 0) w fun t26 w =>
 xGuard t26 true (fun w K => xLoad Try.prog 63 t2 w K) w fun t28 w =>
 xGuard t26 true (fun w K => xCall Try.prog (fnv 43) [t28] w K) w fun t29 w =>
 xPick t26 t29 (.bool false) w fun t30 w =>
 xGuard t30 false (fun w K => K t20 w) w fun t32 w =>
 xGuard t30 false (fun w K => xBin Try.prog .eql 3 false t32 true (.int .i64 0) w K) w fun t33 w =>
 xGuard t30 false (fun w K => K t33 w) w fun t34 w =>
 xGuard t34 true (fun w K => xLoad Try.prog 63 t3 w K) w fun t35 w =>
 xGuard t34 true (fun w K => xCall Try.prog (fnv 43) [t35] w K) w fun t36 w =>
 xGuard t30 false (fun w K => xPick t34 t36 (.bool false) w K) w fun t37 w =>
 xPick t30 (.bool true) t37 w fun t38 w =>
 xGuard t38 false (fun w K => xLoad Try.prog 63 t2 w K) w fun t40 w =>
 xGuard t38 false (fun w K => xCall Try.prog (fnv 43) [t40] w K) w fun t41 w =>
 xGuard t38 false (fun w K => xUn Try.prog .not t41 w K) w fun t42 w =>
 xPick t38 (.bool true) t42 w fun t43 w =>
 xGuard t43 false (fun w K => xLoad Try.prog 63 t3 w K) w fun t45 w =>
 xGuard t43 false (fun w K => xCall Try.prog (fnv 43) [t45] w K) w fun t46 w =>
 xGuard t43 false (fun w K => xUn Try.prog .not t46 w K) w fun t47 w =>
 xPick t43 (.bool true) t47 w fun t48 w =>
 K t48 w)
 (xBin Try.prog .eql 64 false t14 false t19 w fun t51 w =>
 xLoad Try.prog 63 t2 w fun t52 w =>
 xLoad Try.prog 63 t3 w fun t53 w =>
 xBin Try.prog .eql 63 false t52 false t53 w fun t54 w =>
 xBin Try.prog .eql 4 false t51 false t54 w fun t55 w =>
 xGuard t55 true (fun w K => K t14 w) w fun t57 w =>
 xGuard t55 true (fun w K => xBin Try.prog .shr 64 false t57 true (c64 63) w K) w fun t58 w =>
 xGuard t55 true (fun w K => xBin Try.prog .eql 64 false t58 true (c64 1) w K) w fun t59 w =>
 xPick t55 t59 (.bool false) w fun t60 w =>
 xGuard t60 true (fun w K => K t19 w) w fun t62 w =>
 xGuard t60 true (fun w K => xBin Try.prog .shr 64 false t62 true (c64 63) w K) w fun t63 w =>
 xGuard t60 true (fun w K => xBin Try.prog .eql 64 false t63 true (c64 1) w K) w fun t64 w =>
 xPick t60 t64 (.bool false) w fun t65 w =>
 xGuard t65 true (fun w K => K t14 w) w fun t67 w =>
 xGuard t65 true (fun w K => xBin Try.prog .and 64 false t67 true (c64 1) w K) w fun t68 w =>
 xGuard t65 true (fun w K => xFieldAddr Try.prog 63 t2 2 w K) w fun t69 w =>
 xGuard t65 true (fun w K => xLoad Try.prog 4 t69 w K) w fun t70 w =>
 xGuard t65 true (fun w K => xCall Try.prog (fnv 49) [t70] w K) w fun t71 w =>
 xGuard t65 true (fun w K => xBin Try.prog .eql 64 false t68 false t71 w K) w fun t72 w =>
 xPick t65 t72 (.bool false) w fun t73 w =>
 K t73 w))
abbrev n_loamlaw14_HeadUnlike : Nat := 14
def loamlaw14_HeadUnlike_ann : Ann := { loop := fun i => [], wr := fun i => [], told := fun i => [] }
theorem loamlaw14_HeadUnlike_eq (t0 t1 : Value) (w : World) (K : K1) : reads Try.prog loamlaw14_HeadUnlike_ann Try.f14 #[t0, t1] w K = loamlaw14_HeadUnlike K t0 t1 w := by kernel_rfl
theorem loamlaw14_HeadUnlike_of {t0 t1 : Value} {w : World} {K : K1} (h : loamlaw14_HeadUnlike K t0 t1 w) : Yld Try.prog n_loamlaw14_HeadUnlike #[t0, t1] w K :=
  yld_of mixed loamlaw14_HeadUnlike_ann Try.func14 (by kernel_rfl) (loamlaw14_HeadUnlike_eq t0 t1 w K) h

/-! loam/loamlaw4.known: function 15 -/
def loamlaw4_known (K : K1) (w : World) : Prop :=
 xBuild Try.prog 23 [(0, (.int .i64 64)), (1, (.int .i64 8)), (2, (.int .i64 64))] w fun t4 w =>
 xAlloc Try.prog 23 w fun t1 w =>
 xStore Try.prog 23 t1 t4 w fun _ w =>
 xLoad Try.prog 23 t1 w fun t6 w =>
 xCall Try.prog (fnv 19) [t6, (.int .i64 1), (.int .i64 9)] w fun t7 w =>
 xExtract Try.prog t7 0 w fun t8 w =>
 xExtract Try.prog t7 1 w fun t9 w =>
 xLoad Try.prog 23 t1 w fun t10 w =>
 xCall Try.prog (fnv 17) [t10] w fun t11 w =>
 xBin Try.prog .eql 3 false t11 true (.int .i64 0) w fun t12 w =>
 xGuard t12 true (fun w K => xLoad Try.prog 23 t1 w K) w fun t14 w =>
 xGuard t12 true (fun w K => xCall Try.prog (fnv 22) [t14] w K) w fun t15 w =>
 xGuard t12 true (fun w K => xBin Try.prog .eql 3 false t15 true (.int .i64 30) w K) w fun t16 w =>
 xPick t12 t16 (.bool false) w fun t17 w =>
 xGuard t17 true (fun w K => xLoad Try.prog 23 t1 w K) w fun t19 w =>
 xGuard t17 true (fun w K => xCall Try.prog (fnv 25) [t19] w K) w fun t20 w =>
 xGuard t17 true (fun w K => xField Try.prog 34 t20 0 w K) w fun t21 w =>
 xGuard t17 true (fun w K => xBin Try.prog .eql 3 false t21 true (.int .i64 2) w K) w fun t22 w =>
 xPick t17 t22 (.bool false) w fun t23 w =>
 xGuard t23 true (fun w K => xLoad Try.prog 23 t1 w K) w fun t25 w =>
 xGuard t23 true (fun w K => xCall Try.prog (fnv 27) [t25, (.int .i64 1)] w K) w fun t26 w =>
 xGuard t23 true (fun w K => xField Try.prog 34 t26 0 w K) w fun t27 w =>
 xGuard t23 true (fun w K => xBin Try.prog .eql 3 false t27 true (.int .i64 20) w K) w fun t28 w =>
 xPick t23 t28 (.bool false) w fun t29 w =>
 xGuard t29 true (fun w K => xLoad Try.prog 23 t1 w K) w fun t31 w =>
 xGuard t29 true (fun w K => xCall Try.prog (fnv 21) [t31] w K) w fun t32 w =>
 xGuard t29 true (fun w K => xIndex Try.prog 35 t32 (.int .i64 1) w K) w fun t33 w =>
 xGuard t29 true (fun w K => xField Try.prog 34 t33 0 w K) w fun t34 w =>
 xGuard t29 true (fun w K => xBin Try.prog .eql 3 false t34 true (.int .i64 1) w K) w fun t35 w =>
 xPick t29 t35 (.bool false) w fun t36 w =>
 xGuard t36 true (fun w K => K t8 w) w fun t38 w =>
 xGuard t36 true (fun w K => xBin Try.prog .eql 3 false t38 true (.int .i64 21) w K) w fun t39 w =>
 xPick t36 t39 (.bool false) w fun t40 w =>
 xGuard t40 true (fun w K => K t9 w) w fun t42 w =>
 xGuard t40 true (fun w K => xBin Try.prog .eql 3 false t42 true (.int .i64 8) w K) w fun t43 w =>
 xPick t40 t43 (.bool false) w fun t44 w =>
 xGuard t44 true (fun w K => xLoad Try.prog 23 t1 w K) w fun t46 w =>
 xGuard t44 true (fun w K => xCall Try.prog (fnv 29) [t46, (.int .i64 1)] w K) w fun t47 w =>
 xGuard t44 true (fun w K => xBin Try.prog .eql 9 false t47 true (.string { data := #[115, 108, 111, 116] }) w K) w fun t48 w =>
 xPick t44 t48 (.bool false) w fun t49 w =>
 xGuard t49 true (fun w K => xLoad Try.prog 23 t1 w K) w fun t51 w =>
 xGuard t49 true (fun w K => xCall Try.prog (fnv 29) [t51, (.int .i64 30)] w K) w fun t52 w =>
 xGuard t49 true (fun w K => xBin Try.prog .eql 9 false t52 true (.string { data := #[] }) w K) w fun t53 w =>
 xPick t49 t53 (.bool false) w fun t54 w =>
 xGuard t54 true (fun w K => xBuild Try.prog 23 [] w K) w fun t56 w =>
 xGuard t54 true (fun w K => xCall Try.prog (fnv 17) [t56] w K) w fun t57 w =>
 xGuard t54 true (fun w K => xBin Try.prog .eql 3 false t57 true (.int .i64 1) w K) w fun t58 w =>
 xPick t54 t58 (.bool false) w fun t59 w =>
 K t59 w
abbrev n_loamlaw4_known : Nat := 15
def loamlaw4_known_ann : Ann := { loop := fun i => [], wr := fun i => [], told := fun i => [] }
theorem loamlaw4_known_eq (w : World) (K : K1) : reads Try.prog loamlaw4_known_ann Try.f15 #[] w K = loamlaw4_known K  w := by kernel_rfl
theorem loamlaw4_known_of {w : World} {K : K1} (h : loamlaw4_known K w) : Yld Try.prog n_loamlaw4_known #[] w K :=
  yld_of mixed loamlaw4_known_ann Try.func15 (by kernel_rfl) (loamlaw4_known_eq  w K) h

/-! loam/loamlaw4.Of: function 16 -/
def loamlaw4_Of (K : K1) (t0 : Value) (w : World) : Prop :=
 xBox Try.prog 23 t0 w fun t1 w =>
 xAlloc Try.prog 25 w fun t2 w =>
 xFieldAddr Try.prog 23 t1 0 w fun t3 w =>
 xLoad Try.prog 3 t3 w fun t4 w =>
 xFieldAddr Try.prog 23 t1 1 w fun t5 w =>
 xLoad Try.prog 3 t5 w fun t6 w =>
 xFieldAddr Try.prog 23 t1 2 w fun t7 w =>
 xLoad Try.prog 3 t7 w fun t8 w =>
 xBuild Try.prog 25 [(0, t4), (1, t6), (2, t8)] w fun t9 w =>
 xStore Try.prog 25 t2 t9 w fun _ w =>
 xLoadR Try.prog 25 t2 w fun r0 =>
 K r0 w
abbrev n_loamlaw4_Of : Nat := 16
def loamlaw4_Of_ann : Ann := { loop := fun i => [], wr := fun i => [], told := fun i => [] }
theorem loamlaw4_Of_eq (t0 : Value) (w : World) (K : K1) : reads Try.prog loamlaw4_Of_ann Try.f16 #[t0] w K = loamlaw4_Of K t0 w := by kernel_rfl
theorem loamlaw4_Of_of {t0 : Value} {w : World} {K : K1} (h : loamlaw4_Of K t0 w) : Yld Try.prog n_loamlaw4_Of #[t0] w K :=
  yld_of mixed loamlaw4_Of_ann Try.func16 (by kernel_rfl) (loamlaw4_Of_eq t0 w K) h

/-! loam/geom.Check: function 17 -/
def geom_Check_j1 (K : K1) (t1 t14 : Value) (w : World) : Prop :=
 xIf t14
 (K (.int .i64 1) w)
 (xLoad Try.prog 23 t1 w fun t28_1 w =>
 xCall Try.prog (fnv 22) [t28_1] w fun t29_1 w =>
 xBin Try.prog .gtr 3 false t29_1 true (.int .i64 16384) w fun t30_1 w =>
 xIf t30_1
 (K (.int .i64 1) w)
 (K (.int .i64 0) w))
def geom_Check_j3 (K : K1) (t1 t14 : Value) (w : World) : Prop :=
 xIf t14
 (K (.int .i64 1) w)
 (xLoad Try.prog 23 t1 w fun t28_1 w =>
 xCall Try.prog (fnv 22) [t28_1] w fun t29_1 w =>
 xBin Try.prog .gtr 3 false t29_1 true (.int .i64 16384) w fun t30_1 w =>
 xIf t30_1
 (K (.int .i64 1) w)
 (K (.int .i64 0) w))
def geom_Check_j2 (K : K1) (t1 t3 : Value) (w : World) : Prop :=
 xIf t3
 (K (.int .i64 1) w)
 (xFieldAddr Try.prog 23 t1 1 w fun t15_1 w =>
 xLoad Try.prog 3 t15_1 w fun t16_1 w =>
 xBin Try.prog .lss 3 false t16_1 true (.int .i64 8) w fun t17_1 w =>
 xIf t17_1
 (geom_Check_j3 K t1 t17_1 w)
 (xFieldAddr Try.prog 23 t1 1 w fun t18_1 w =>
 xLoad Try.prog 3 t18_1 w fun t19_1 w =>
 xBin Try.prog .gtr 3 false t19_1 true (.int .i64 1024) w fun t20_1 w =>
 xIf t20_1
 (geom_Check_j3 K t1 t20_1 w)
 (xFieldAddr Try.prog 23 t1 2 w fun t21_1 w =>
 xLoad Try.prog 3 t21_1 w fun t22_1 w =>
 xBin Try.prog .lss 3 false t22_1 true (.int .i64 64) w fun t23_1 w =>
 xIf t23_1
 (geom_Check_j3 K t1 t23_1 w)
 (xFieldAddr Try.prog 23 t1 2 w fun t24_1 w =>
 xLoad Try.prog 3 t24_1 w fun t25_1 w =>
 xBin Try.prog .gtr 3 false t25_1 true (.int .i64 8192) w fun t26_1 w =>
 geom_Check_j3 K t1 t26_1 w))))
def geom_Check (K : K1) (t0 : Value) (w : World) : Prop :=
 xBox Try.prog 23 t0 w fun t1 w =>
 xFieldAddr Try.prog 23 t1 0 w fun t4 w =>
 xLoad Try.prog 3 t4 w fun t5 w =>
 xBin Try.prog .lss 3 false t5 true (.int .i64 64) w fun t6 w =>
 xIf t6
 (geom_Check_j2 K t1 t6 w)
 (xFieldAddr Try.prog 23 t1 0 w fun t7 w =>
 xLoad Try.prog 3 t7 w fun t8 w =>
 xBin Try.prog .gtr 3 false t8 true (.int .i64 1024) w fun t9 w =>
 xIf t9
 (geom_Check_j2 K t1 t9 w)
 (xFieldAddr Try.prog 23 t1 0 w fun t10 w =>
 xLoad Try.prog 3 t10 w fun t11 w =>
 xBin Try.prog .rem 3 false t11 true (.int .i64 8) w fun t12 w =>
 xBin Try.prog .neq 3 false t12 true (.int .i64 0) w fun t13 w =>
 geom_Check_j2 K t1 t13 w))
abbrev n_geom_Check : Nat := 17
def geom_Check_ann : Ann := { loop := fun i => [], wr := fun i => [], told := fun i => [] }
theorem geom_Check_eq (t0 : Value) (w : World) (K : K1) : reads Try.prog geom_Check_ann Try.f17 #[t0] w K = geom_Check K t0 w := by kernel_rfl
theorem geom_Check_of {t0 : Value} {w : World} {K : K1} (h : geom_Check K t0 w) : Yld Try.prog n_geom_Check #[t0] w K :=
  yld_of mixed geom_Check_ann Try.func17 (by kernel_rfl) (geom_Check_eq t0 w K) h

/-! loam/loamref4.Check: function 18 -/
def loamref4_Check (K : K1) (t0 : Value) (w : World) : Prop :=
 xBox Try.prog 25 t0 w fun t1 w =>
 xFieldAddr Try.prog 25 t1 0 w fun t3 w =>
 xLoad Try.prog 3 t3 w fun t4 w =>
 xBin Try.prog .lss 3 false t4 true (.int .i64 64) w fun t5 w =>
 xGuard t5 false (fun w K => xFieldAddr Try.prog 25 t1 0 w K) w fun t7 w =>
 xGuard t5 false (fun w K => xLoad Try.prog 3 t7 w K) w fun t8 w =>
 xGuard t5 false (fun w K => xBin Try.prog .gtr 3 false t8 true (.int .i64 1024) w K) w fun t9 w =>
 xPick t5 (.bool true) t9 w fun t10 w =>
 xGuard t10 false (fun w K => xFieldAddr Try.prog 25 t1 0 w K) w fun t12 w =>
 xGuard t10 false (fun w K => xLoad Try.prog 3 t12 w K) w fun t13 w =>
 xGuard t10 false (fun w K => xBin Try.prog .rem 3 false t13 true (.int .i64 8) w K) w fun t14 w =>
 xGuard t10 false (fun w K => xBin Try.prog .neq 3 false t14 true (.int .i64 0) w K) w fun t15 w =>
 xPick t10 (.bool true) t15 w fun t16 w =>
 xGuard t16 false (fun w K => xFieldAddr Try.prog 25 t1 1 w K) w fun t18 w =>
 xGuard t16 false (fun w K => xLoad Try.prog 3 t18 w K) w fun t19 w =>
 xGuard t16 false (fun w K => xBin Try.prog .lss 3 false t19 true (.int .i64 8) w K) w fun t20 w =>
 xPick t16 (.bool true) t20 w fun t21 w =>
 xGuard t21 false (fun w K => xFieldAddr Try.prog 25 t1 1 w K) w fun t23 w =>
 xGuard t21 false (fun w K => xLoad Try.prog 3 t23 w K) w fun t24 w =>
 xGuard t21 false (fun w K => xBin Try.prog .gtr 3 false t24 true (.int .i64 1024) w K) w fun t25 w =>
 xPick t21 (.bool true) t25 w fun t26 w =>
 xGuard t26 false (fun w K => xFieldAddr Try.prog 25 t1 2 w K) w fun t28 w =>
 xGuard t26 false (fun w K => xLoad Try.prog 3 t28 w K) w fun t29 w =>
 xGuard t26 false (fun w K => xBin Try.prog .lss 3 false t29 true (.int .i64 64) w K) w fun t30 w =>
 xPick t26 (.bool true) t30 w fun t31 w =>
 xGuard t31 false (fun w K => xFieldAddr Try.prog 25 t1 2 w K) w fun t33 w =>
 xGuard t31 false (fun w K => xLoad Try.prog 3 t33 w K) w fun t34 w =>
 xGuard t31 false (fun w K => xBin Try.prog .gtr 3 false t34 true (.int .i64 8192) w K) w fun t35 w =>
 xPick t31 (.bool true) t35 w fun t36 w =>
 xGuard t36 false (fun w K => xLoad Try.prog 25 t1 w K) w fun t38 w =>
 xGuard t36 false (fun w K => xCall Try.prog (fnv 23) [t38] w K) w fun t39 w =>
 xGuard t36 false (fun w K => xBin Try.prog .gtr 3 false t39 true (.int .i64 16384) w K) w fun t40 w =>
 xPick t36 (.bool true) t40 w fun t41 w =>
 xIf t41
 (K (.int .i64 1) w)
 (K (.int .i64 0) w)
abbrev n_loamref4_Check : Nat := 18
def loamref4_Check_ann : Ann := { loop := fun i => [], wr := fun i => [], told := fun i => [] }
theorem loamref4_Check_eq (t0 : Value) (w : World) (K : K1) : reads Try.prog loamref4_Check_ann Try.f18 #[t0] w K = loamref4_Check K t0 w := by kernel_rfl
theorem loamref4_Check_of {t0 : Value} {w : World} {K : K1} (h : loamref4_Check K t0 w) : Yld Try.prog n_loamref4_Check #[t0] w K :=
  yld_of mixed loamref4_Check_ann Try.func18 (by kernel_rfl) (loamref4_Check_eq t0 w K) h

/-! loam/loamref4.Word: function 20 -/
def loamref4_Word (K : K1) (t0 t1 t2 : Value) (w : World) : Prop :=
 xBox Try.prog 25 t0 w fun t3 w =>
 xBin Try.prog .neq 3 false t1 true (.int .i64 0) w fun t10 w =>
 xGuard t10 true (fun w K => K t1 w) w fun t12 w =>
 xGuard t10 true (fun w K => xBin Try.prog .neq 3 false t12 true (.int .i64 1) w K) w fun t13 w =>
 xPick t10 t13 (.bool false) w fun t14 w =>
 xGuard t14 false (fun w K => K t2 w) w fun t16 w =>
 xGuard t14 false (fun w K => xBin Try.prog .lss 3 false t16 true (.int .i64 0) w K) w fun t17 w =>
 xPick t14 (.bool true) t17 w fun t18 w =>
 xGuard t18 false (fun w K => K t2 w) w fun t20 w =>
 xGuard t18 false (fun w K => xFieldAddr Try.prog 25 t3 2 w K) w fun t21 w =>
 xGuard t18 false (fun w K => xLoad Try.prog 3 t21 w K) w fun t22 w =>
 xGuard t18 false (fun w K => xBin Try.prog .geq 3 false t20 false t22 w K) w fun t23 w =>
 xPick t18 (.bool true) t23 w fun t24 w =>
 xIf t24
 (K (.tuple #[(.int .i64 0), (.int .i64 0)]) w)
 (xFieldAddr Try.prog 25 t3 0 w fun t25 w =>
 xLoad Try.prog 3 t25 w fun t26 w =>
 xBin Try.prog .quo 3 false t26 true (.int .i64 8) w fun t27 w =>
 xDraw w.drew fun le H =>
 xDet le (H) (fun w K => xLoad Try.prog 25 t3 w K) fun t28 =>
 xDet le (H) (fun w K => K t1 w) fun t29 =>
 xDet le (H) (fun w K => K t2 w) fun t32 =>
 xDet le (H) (fun w K => K t27 w) fun t33 =>
 xDet le (H) (fun w K => xBin Try.prog .quo 3 false t32 false t33 w K) fun t34 =>
 xDet le (H) (fun w K => K t2 w) fun t36 =>
 xDet le (H) (fun w K => K t27 w) fun t37 =>
 xDet le (H) (fun w K => xBin Try.prog .rem 3 false t36 false t37 w K) fun t38 =>
 xDet le (H) (fun w K => xBin Try.prog .mul 3 true (.int .i64 8) false t38 w K) fun t39 =>
 xDet le (H) (fun w K => xCall Try.prog (fnv 28) [t28, t29] w K) fun t30 =>
 xDet le (H) (fun w K => xField Try.prog 40 t30 0 w K) fun t31 =>
 xDet le (H) (fun w K => xBin Try.prog .add 3 false t31 false t34 w K) fun t35 =>
 xDet le (H) (fun w K => K t35 w) fun t6 =>
 xDet le (H) (fun w K => K t39 w) fun t7 =>
 xEnd (H) fun w =>
 K (.tuple #[t6, t7]) w)
abbrev n_loamref4_Word : Nat := 20
def loamref4_Word_ann : Ann := { loop := fun i => [], wr := fun i => [], told := fun i => bif Nat.beq i 4 then [(0, false, ⟨0, 268435464, some 28⟩), (1, false, ⟨0, 536870914, some 29⟩), (4, false, ⟨0, 4294967300, some 32⟩), (5, false, ⟨0, 8589934848, some 33⟩), (6, false, ⟨48, 30064771072, some 34⟩), (8, false, ⟨0, 68719476740, some 36⟩), (9, false, ⟨0, 137438953728, some 37⟩), (10, false, ⟨768, 481036337152, some 38⟩), (11, false, ⟨1024, 824633720832, some 39⟩), (2, false, ⟨3, 1879048192, some 30⟩), (3, false, ⟨4, 3221225472, some 31⟩), (7, false, ⟨72, 53687091200, some 35⟩), (12, false, ⟨255, 34359738432, some 6⟩), (13, false, ⟨8191, 549755814016, some 7⟩)] else [] }
theorem loamref4_Word_eq (t0 t1 t2 : Value) (w : World) (K : K1) : reads Try.prog loamref4_Word_ann Try.f20 #[t0, t1, t2] w K = loamref4_Word K t0 t1 t2 w := by kernel_rfl
theorem loamref4_Word_of {t0 t1 t2 : Value} {w : World} {K : K1} (h : loamref4_Word K t0 t1 t2 w) : Yld Try.prog n_loamref4_Word #[t0, t1, t2] w K :=
  yld_of mixed loamref4_Word_ann Try.func20 (by kernel_rfl) (loamref4_Word_eq t0 t1 t2 w K) h

/-! loam/geom.Slots: function 21 -/
def geom_Slots (K : K1) (t0 : Value) (w : World) : Prop :=
 xBox Try.prog 23 t0 w fun t1 w =>
 xAlloc Try.prog 35 w fun t2 w =>
 xBuild Try.prog 34 [(0, (.int .i64 0)), (1, (.int .i64 1))] w fun t3 w =>
 xBuild Try.prog 34 [(0, (.int .i64 1)), (1, (.int .i64 1))] w fun t4 w =>
 xBuild Try.prog 35 [(0, t3), (1, t4)] w fun t5 w =>
 xStore Try.prog 35 t2 t5 w fun _ w =>
 xLoadR Try.prog 35 t2 w fun r0 =>
 K r0 w
abbrev n_geom_Slots : Nat := 21
def geom_Slots_ann : Ann := { loop := fun i => [], wr := fun i => [], told := fun i => [] }
theorem geom_Slots_eq (t0 : Value) (w : World) (K : K1) : reads Try.prog geom_Slots_ann Try.f21 #[t0] w K = geom_Slots K t0 w := by kernel_rfl
theorem geom_Slots_of {t0 : Value} {w : World} {K : K1} (h : geom_Slots K t0 w) : Yld Try.prog n_geom_Slots #[t0] w K :=
  yld_of mixed geom_Slots_ann Try.func21 (by kernel_rfl) (geom_Slots_eq t0 w K) h

/-! loam/geom.Sectors: function 22 -/
def geom_Sectors (K : K1) (t0 : Value) (w : World) : Prop :=
 xBox Try.prog 23 t0 w fun t1 w =>
 xDraw w.drew fun le H =>
 xDet le (H) (fun w K => xFieldAddr Try.prog 23 t1 1 w K) fun t3 =>
 xDet le (H) (fun w K => xLoad Try.prog 3 t3 w K) fun t4 =>
 xDet le (H) (fun w K => xBin Try.prog .add 3 true (.int .i64 2) false t4 w K) fun t5 =>
 xDet le (H) (fun w K => xLoad Try.prog 23 t1 w K) fun t6 =>
 xDet le (H) (fun w K => xCall Try.prog (fnv 50) [t6] w K) fun t7 =>
 xDet le (H) (fun w K => xBin Try.prog .mul 3 true (.int .i64 2) false t7 w K) fun t8 =>
 xDet le (H) (fun w K => xBin Try.prog .add 3 false t5 false t8 w K) fun t9 =>
 xDet le (H) (fun w K => K t9 w) fun t2 =>
 xEnd (H) fun w =>
 K t2 w
abbrev n_geom_Sectors : Nat := 22
def geom_Sectors_ann : Ann := { loop := fun i => [], wr := fun i => [], told := fun i => bif Nat.beq i 1 then [(0, false, ⟨0, 10, some 3⟩), (1, false, ⟨1, 24, some 4⟩), (2, false, ⟨2, 48, some 5⟩), (3, false, ⟨0, 66, some 6⟩), (4, false, ⟨8, 192, some 7⟩), (5, false, ⟨16, 384, some 8⟩), (6, false, ⟨36, 800, some 9⟩), (7, false, ⟨127, 516, some 2⟩)] else [] }
theorem geom_Sectors_eq (t0 : Value) (w : World) (K : K1) : reads Try.prog geom_Sectors_ann Try.f22 #[t0] w K = geom_Sectors K t0 w := by kernel_rfl
theorem geom_Sectors_of {t0 : Value} {w : World} {K : K1} (h : geom_Sectors K t0 w) : Yld Try.prog n_geom_Sectors #[t0] w K :=
  yld_of mixed geom_Sectors_ann Try.func22 (by kernel_rfl) (geom_Sectors_eq t0 w K) h

/-! loam/loamref4.Sectors: function 23 -/
def loamref4_Sectors (K : K1) (t0 : Value) (w : World) : Prop :=
 xBox Try.prog 25 t0 w fun t1 w =>
 xDraw w.drew fun le H =>
 xDet le (H) (fun w K => xFieldAddr Try.prog 25 t1 1 w K) fun t3 =>
 xDet le (H) (fun w K => xLoad Try.prog 3 t3 w K) fun t4 =>
 xDet le (H) (fun w K => xBin Try.prog .add 3 true (.int .i64 2) false t4 w K) fun t5 =>
 xDet le (H) (fun w K => xLoad Try.prog 25 t1 w K) fun t6 =>
 xDet le (H) (fun w K => xCall Try.prog (fnv 51) [t6] w K) fun t7 =>
 xDet le (H) (fun w K => xBin Try.prog .mul 3 true (.int .i64 2) false t7 w K) fun t8 =>
 xDet le (H) (fun w K => xBin Try.prog .add 3 false t5 false t8 w K) fun t9 =>
 xDet le (H) (fun w K => K t9 w) fun t2 =>
 xEnd (H) fun w =>
 K t2 w
abbrev n_loamref4_Sectors : Nat := 23
def loamref4_Sectors_ann : Ann := { loop := fun i => [], wr := fun i => [], told := fun i => bif Nat.beq i 1 then [(0, false, ⟨0, 10, some 3⟩), (1, false, ⟨1, 24, some 4⟩), (2, false, ⟨2, 48, some 5⟩), (3, false, ⟨0, 66, some 6⟩), (4, false, ⟨8, 192, some 7⟩), (5, false, ⟨16, 384, some 8⟩), (6, false, ⟨36, 800, some 9⟩), (7, false, ⟨127, 516, some 2⟩)] else [] }
theorem loamref4_Sectors_eq (t0 : Value) (w : World) (K : K1) : reads Try.prog loamref4_Sectors_ann Try.f23 #[t0] w K = loamref4_Sectors K t0 w := by kernel_rfl
theorem loamref4_Sectors_of {t0 : Value} {w : World} {K : K1} (h : loamref4_Sectors K t0 w) : Yld Try.prog n_loamref4_Sectors #[t0] w K :=
  yld_of mixed loamref4_Sectors_ann Try.func23 (by kernel_rfl) (loamref4_Sectors_eq t0 w K) h

/-! loam/loamlaw4.same: function 24 -/
def loamlaw4_same (K : K1) (t0 t1 : Value) (w : World) : Prop :=
 xBox Try.prog 34 t0 w fun t2 w =>
 xBox Try.prog 40 t1 w fun t3 w =>
 xFieldAddr Try.prog 34 t2 0 w fun t5 w =>
 xLoad Try.prog 3 t5 w fun t6 w =>
 xFieldAddr Try.prog 40 t3 0 w fun t7 w =>
 xLoad Try.prog 3 t7 w fun t8 w =>
 xBin Try.prog .eql 3 false t6 false t8 w fun t9 w =>
 xGuard t9 true (fun w K => xFieldAddr Try.prog 34 t2 1 w K) w fun t11 w =>
 xGuard t9 true (fun w K => xLoad Try.prog 3 t11 w K) w fun t12 w =>
 xGuard t9 true (fun w K => xFieldAddr Try.prog 40 t3 1 w K) w fun t13 w =>
 xGuard t9 true (fun w K => xLoad Try.prog 3 t13 w K) w fun t14 w =>
 xGuard t9 true (fun w K => xBin Try.prog .eql 3 false t12 false t14 w K) w fun t15 w =>
 xPick t9 t15 (.bool false) w fun t16 w =>
 K t16 w
abbrev n_loamlaw4_same : Nat := 24
def loamlaw4_same_ann : Ann := { loop := fun i => [], wr := fun i => [], told := fun i => [] }
theorem loamlaw4_same_eq (t0 t1 : Value) (w : World) (K : K1) : reads Try.prog loamlaw4_same_ann Try.f24 #[t0, t1] w K = loamlaw4_same K t0 t1 w := by kernel_rfl
theorem loamlaw4_same_of {t0 t1 : Value} {w : World} {K : K1} (h : loamlaw4_same K t0 t1 w) : Yld Try.prog n_loamlaw4_same #[t0, t1] w K :=
  yld_of mixed loamlaw4_same_ann Try.func24 (by kernel_rfl) (loamlaw4_same_eq t0 t1 w K) h

/-! loam/geom.Log: function 25 -/
def geom_Log (K : K1) (t0 : Value) (w : World) : Prop :=
 xBox Try.prog 23 t0 w fun t1 w =>
 xAlloc Try.prog 34 w fun t2 w =>
 xFieldAddr Try.prog 23 t1 1 w fun t3 w =>
 xLoad Try.prog 3 t3 w fun t4 w =>
 xBuild Try.prog 34 [(0, (.int .i64 2)), (1, t4)] w fun t5 w =>
 xStore Try.prog 34 t2 t5 w fun _ w =>
 xLoadR Try.prog 34 t2 w fun r0 =>
 K r0 w
abbrev n_geom_Log : Nat := 25
def geom_Log_ann : Ann := { loop := fun i => [], wr := fun i => [], told := fun i => [] }
theorem geom_Log_eq (t0 : Value) (w : World) (K : K1) : reads Try.prog geom_Log_ann Try.f25 #[t0] w K = geom_Log K t0 w := by kernel_rfl
theorem geom_Log_of {t0 : Value} {w : World} {K : K1} (h : geom_Log K t0 w) : Yld Try.prog n_geom_Log #[t0] w K :=
  yld_of mixed geom_Log_ann Try.func25 (by kernel_rfl) (geom_Log_eq t0 w K) h

/-! loam/loamref4.Log: function 26 -/
def loamref4_Log (K : K1) (t0 : Value) (w : World) : Prop :=
 xBox Try.prog 25 t0 w fun t1 w =>
 xAlloc Try.prog 40 w fun t2 w =>
 xFieldAddr Try.prog 25 t1 1 w fun t3 w =>
 xLoad Try.prog 3 t3 w fun t4 w =>
 xBuild Try.prog 40 [(0, (.int .i64 2)), (1, t4)] w fun t5 w =>
 xStore Try.prog 40 t2 t5 w fun _ w =>
 xLoadR Try.prog 40 t2 w fun r0 =>
 K r0 w
abbrev n_loamref4_Log : Nat := 26
def loamref4_Log_ann : Ann := { loop := fun i => [], wr := fun i => [], told := fun i => [] }
theorem loamref4_Log_eq (t0 : Value) (w : World) (K : K1) : reads Try.prog loamref4_Log_ann Try.f26 #[t0] w K = loamref4_Log K t0 w := by kernel_rfl
theorem loamref4_Log_of {t0 : Value} {w : World} {K : K1} (h : loamref4_Log K t0 w) : Yld Try.prog n_loamref4_Log #[t0] w K :=
  yld_of mixed loamref4_Log_ann Try.func26 (by kernel_rfl) (loamref4_Log_eq t0 w K) h

/-! loam/geom.Space: function 27 -/
def geom_Space (K : K1) (t0 t1 : Value) (w : World) : Prop :=
 xBox Try.prog 23 t0 w fun t2 w =>
 xAlloc Try.prog 34 w fun t4 w =>
 xBin Try.prog .neq 3 false t1 true (.int .i64 0) w fun t7 w =>
 xGuard t7 true (fun w K => K t1 w) w fun t9 w =>
 xGuard t7 true (fun w K => xBin Try.prog .neq 3 false t9 true (.int .i64 1) w K) w fun t10 w =>
 xPick t7 t10 (.bool false) w fun t11 w =>
 xIf t11
 (xBuild Try.prog 34 [] w fun t12 w =>
 xStore Try.prog 34 t4 t12 w fun _ w =>
 xLoadR Try.prog 34 t4 w fun r0 =>
 K r0 w)
 (xLoad Try.prog 23 t2 w fun t13 w =>
 xCall Try.prog (fnv 50) [t13] w fun t14 w =>
 xFieldAddr Try.prog 23 t2 1 w fun t15 w =>
 xLoad Try.prog 3 t15 w fun t16 w =>
 xBin Try.prog .add 3 true (.int .i64 2) false t16 w fun t17 w =>
 xBin Try.prog .mul 3 false t1 false t14 w fun t20 w =>
 xBin Try.prog .add 3 false t17 false t20 w fun t21 w =>
 xBuild Try.prog 34 [(0, t21), (1, t14)] w fun t23 w =>
 xStore Try.prog 34 t4 t23 w fun _ w =>
 xLoadR Try.prog 34 t4 w fun r0 =>
 K r0 w)
abbrev n_geom_Space : Nat := 27
def geom_Space_ann : Ann := { loop := fun i => [], wr := fun i => [], told := fun i => [] }
theorem geom_Space_eq (t0 t1 : Value) (w : World) (K : K1) : reads Try.prog geom_Space_ann Try.f27 #[t0, t1] w K = geom_Space K t0 t1 w := by kernel_rfl
theorem geom_Space_of {t0 t1 : Value} {w : World} {K : K1} (h : geom_Space K t0 t1 w) : Yld Try.prog n_geom_Space #[t0, t1] w K :=
  yld_of mixed geom_Space_ann Try.func27 (by kernel_rfl) (geom_Space_eq t0 t1 w K) h

/-! loam/loamref4.Space: function 28 -/
def loamref4_Space (K : K1) (t0 t1 : Value) (w : World) : Prop :=
 xBox Try.prog 25 t0 w fun t2 w =>
 xAlloc Try.prog 40 w fun t4 w =>
 xBin Try.prog .neq 3 false t1 true (.int .i64 0) w fun t6 w =>
 xGuard t6 true (fun w K => K t1 w) w fun t8 w =>
 xGuard t6 true (fun w K => xBin Try.prog .neq 3 false t8 true (.int .i64 1) w K) w fun t9 w =>
 xPick t6 t9 (.bool false) w fun t10 w =>
 xIf t10
 (xBuild Try.prog 40 [] w fun t11 w =>
 xStore Try.prog 40 t4 t11 w fun _ w =>
 xLoadR Try.prog 40 t4 w fun r0 =>
 K r0 w)
 (xDraw w.drew fun le H =>
 xDet le (H) (fun w K => xFieldAddr Try.prog 25 t2 1 w K) fun t12 =>
 xDet le (H) (fun w K => xLoad Try.prog 3 t12 w K) fun t13 =>
 xDet le (H) (fun w K => xBin Try.prog .add 3 true (.int .i64 2) false t13 w K) fun t14 =>
 xDet le (H) (fun w K => K t1 w) fun t15 =>
 xDet le (H) (fun w K => xLoad Try.prog 25 t2 w K) fun t16 =>
 xDet le (H) (fun w K => xLoad Try.prog 25 t2 w K) fun t20 =>
 xDet le (H) (fun w K => xCall Try.prog (fnv 51) [t16] w K) fun t17 =>
 xDet le (H) (fun w K => xBin Try.prog .mul 3 false t15 false t17 w K) fun t18 =>
 xDet le (H) (fun w K => xBin Try.prog .add 3 false t14 false t18 w K) fun t19 =>
 xDet le (H) (fun w K => xCall Try.prog (fnv 51) [t20] w K) fun t21 =>
 xDet le (H) (fun w K => xBuild Try.prog 40 [(0, t19), (1, t21)] w K) fun t22 =>
 xEnd (H) fun w =>
 xStore Try.prog 40 t4 t22 w fun _x11 w =>
 xLoadR Try.prog 40 t4 w fun r0 =>
 K r0 w)
abbrev n_loamref4_Space : Nat := 28
def loamref4_Space_ann : Ann := { loop := fun i => [], wr := fun i => [], told := fun i => bif Nat.beq i 3 then [(0, false, ⟨0, 4100, some 12⟩), (1, false, ⟨1, 12288, some 13⟩), (2, false, ⟨2, 24576, some 14⟩), (3, false, ⟨0, 32770, some 15⟩), (4, false, ⟨0, 65540, some 16⟩), (8, false, ⟨0, 1048580, some 20⟩), (5, false, ⟨16, 196608, some 17⟩), (6, false, ⟨40, 425984, some 18⟩), (7, false, ⟨68, 802816, some 19⟩), (9, false, ⟨288, 3145728, some 21⟩), (10, false, ⟨640, 6815744, some 22⟩), (11, true, ⟨2047, 4194320, none⟩)] else [] }
theorem loamref4_Space_eq (t0 t1 : Value) (w : World) (K : K1) : reads Try.prog loamref4_Space_ann Try.f28 #[t0, t1] w K = loamref4_Space K t0 t1 w := by kernel_rfl
theorem loamref4_Space_of {t0 t1 : Value} {w : World} {K : K1} (h : loamref4_Space K t0 t1 w) : Yld Try.prog n_loamref4_Space #[t0, t1] w K :=
  yld_of mixed loamref4_Space_ann Try.func28 (by kernel_rfl) (loamref4_Space_eq t0 t1 w K) h

/-! loam/geom.Owner: function 29 -/
def geom_Owner_j1 (K : K1) (t16 : Value) (w : World) : Prop :=
 xIf t16
 (K (.string { data := #[115, 112, 97, 99, 101] }) w)
 (K (.string { data := #[] }) w)
def geom_Owner (K : K1) (t0 t1 : Value) (w : World) : Prop :=
 xBox Try.prog 23 t0 w fun t2 w =>
 xBin Try.prog .lss 3 false t1 true (.int .i64 0) w fun t7 w =>
 xIf t7
 (K (.string { data := #[] }) w)
 (xBin Try.prog .lss 3 false t1 true (.int .i64 2) w fun t10 w =>
 xIf t10
 (K (.string { data := #[115, 108, 111, 116] }) w)
 (xLoad Try.prog 23 t2 w fun t12 w =>
 xCall Try.prog (fnv 25) [t12] w fun t13 w =>
 xCall Try.prog (fnv 52) [t13, t1] w fun t15 w =>
 xIf t15
 (K (.string { data := #[108, 111, 103] }) w)
 (xLoad Try.prog 23 t2 w fun t17 w =>
 xCall Try.prog (fnv 27) [t17, (.int .i64 0)] w fun t18 w =>
 xCall Try.prog (fnv 52) [t18, t1] w fun t20 w =>
 xIf t20
 (geom_Owner_j1 K t20 w)
 (xLoad Try.prog 23 t2 w fun t21 w =>
 xCall Try.prog (fnv 27) [t21, (.int .i64 1)] w fun t22 w =>
 xCall Try.prog (fnv 52) [t22, t1] w fun t24 w =>
 geom_Owner_j1 K t24 w))))
abbrev n_geom_Owner : Nat := 29
def geom_Owner_ann : Ann := { loop := fun i => [], wr := fun i => [], told := fun i => [] }
theorem geom_Owner_eq (t0 t1 : Value) (w : World) (K : K1) : reads Try.prog geom_Owner_ann Try.f29 #[t0, t1] w K = geom_Owner K t0 t1 w := by kernel_rfl
theorem geom_Owner_of {t0 t1 : Value} {w : World} {K : K1} (h : geom_Owner K t0 t1 w) : Yld Try.prog n_geom_Owner #[t0, t1] w K :=
  yld_of mixed geom_Owner_ann Try.func29 (by kernel_rfl) (geom_Owner_eq t0 t1 w K) h

/-! loam/loamref4.Owner: function 30 -/
def loamref4_Owner (K : K1) (t0 t1 : Value) (w : World) : Prop :=
 xBox Try.prog 25 t0 w fun t2 w =>
 xBin Try.prog .lss 3 false t1 true (.int .i64 0) w fun t7 w =>
 xGuard t7 false (fun w K => K t1 w) w fun t9 w =>
 xGuard t7 false (fun w K => xLoad Try.prog 25 t2 w K) w fun t10 w =>
 xGuard t7 false (fun w K => xCall Try.prog (fnv 23) [t10] w K) w fun t11 w =>
 xGuard t7 false (fun w K => xBin Try.prog .geq 3 false t9 false t11 w K) w fun t12 w =>
 xPick t7 (.bool true) t12 w fun t13 w =>
 xIf t13
 (K (.string { data := #[] }) w)
 (xBin Try.prog .lss 3 false t1 true (.int .i64 2) w fun t16 w =>
 xIf t16
 (K (.string { data := #[115, 108, 111, 116] }) w)
 (xFieldAddr Try.prog 25 t2 1 w fun t19 w =>
 xLoad Try.prog 3 t19 w fun t20 w =>
 xBin Try.prog .add 3 true (.int .i64 2) false t20 w fun t21 w =>
 xBin Try.prog .lss 3 false t1 false t21 w fun t22 w =>
 xIf t22
 (K (.string { data := #[108, 111, 103] }) w)
 (K (.string { data := #[115, 112, 97, 99, 101] }) w)))
abbrev n_loamref4_Owner : Nat := 30
def loamref4_Owner_ann : Ann := { loop := fun i => [], wr := fun i => [], told := fun i => [] }
theorem loamref4_Owner_eq (t0 t1 : Value) (w : World) (K : K1) : reads Try.prog loamref4_Owner_ann Try.f30 #[t0, t1] w K = loamref4_Owner K t0 t1 w := by kernel_rfl
theorem loamref4_Owner_of {t0 t1 : Value} {w : World} {K : K1} (h : loamref4_Owner K t0 t1 w) : Yld Try.prog n_loamref4_Owner #[t0, t1] w K :=
  yld_of mixed loamref4_Owner_ann Try.func30 (by kernel_rfl) (loamref4_Owner_eq t0 t1 w K) h

/-! loam/loamlaw2.known: function 31 -/
def loamlaw2_known (K : K1) (w : World) : Prop :=
 xBuildSlice Try.prog 51 4 [(0, (c8 49)), (1, (c8 50)), (2, (c8 51)), (3, (c8 52))] w fun t1 w =>
 xConv Try.prog 51 51 t1 w fun t2 w =>
 xBuildSlice Try.prog 51 5 [(0, (c8 53)), (1, (c8 54)), (2, (c8 55)), (3, (c8 56)), (4, (c8 57))] w fun t3 w =>
 xConv Try.prog 51 51 t3 w fun t4 w =>
 xBuildSlice Try.prog 50 2 [(0, t2), (1, t4)] w fun t5 w =>
 xCall Try.prog (fnv 32) [t5] w fun t6 w =>
 xBin Try.prog .eql 52 false t6 true (c32 3421780262) w fun t7 w =>
 xGuard t7 true (fun w K => xBuildSlice Try.prog 51 4 [(0, (c8 49)), (1, (c8 50)), (2, (c8 51)), (3, (c8 52))] w K) w fun t9 w =>
 xGuard t7 true (fun w K => xConv Try.prog 51 51 t9 w K) w fun t10 w =>
 xGuard t7 true (fun w K => xBuildSlice Try.prog 50 1 [(0, t10)] w K) w fun t11 w =>
 xGuard t7 true (fun w K => xCall Try.prog (fnv 32) [t11] w K) w fun t12 w =>
 xGuard t7 true (fun w K => xBuildSlice Try.prog 51 5 [(0, (c8 53)), (1, (c8 54)), (2, (c8 55)), (3, (c8 56)), (4, (c8 57))] w K) w fun t13 w =>
 xGuard t7 true (fun w K => xConv Try.prog 51 51 t13 w K) w fun t14 w =>
 xGuard t7 true (fun w K => xCall Try.prog (fnv 33) [t12, t14] w K) w fun t15 w =>
 xGuard t7 true (fun w K => xBin Try.prog .eql 52 false t15 true (c32 3421780262) w K) w fun t16 w =>
 xPick t7 t16 (.bool false) w fun t17 w =>
 xGuard t17 true (fun w K => xBuildSlice Try.prog 51 1 [(0, (c8 120))] w K) w fun t19 w =>
 xGuard t17 true (fun w K => xConv Try.prog 51 51 t19 w K) w fun t20 w =>
 xGuard t17 true (fun w K => xCall Try.prog (fnv 35) [t20] w K) w fun t21 w =>
 xGuard t17 true (fun w K => xCall Try.prog (fnv 37) [t21] w K) w fun t22 w =>
 xPick t17 t22 (.bool false) w fun t23 w =>
 xGuard t23 true (fun w K => xBuildSlice Try.prog 51 3 [(0, (c8 97)), (1, (c8 98)), (2, (c8 99))] w K) w fun t25 w =>
 xGuard t23 true (fun w K => xConv Try.prog 51 51 t25 w K) w fun t26 w =>
 xGuard t23 true (fun w K => xCall Try.prog (fnv 37) [t26] w K) w fun t27 w =>
 xGuard t23 true (fun w K => xUn Try.prog .not t27 w K) w fun t28 w =>
 xPick t23 t28 (.bool false) w fun t29 w =>
 xGuard t29 true (fun w K => xCall Try.prog (fnv 35) [(.slice none 0 0)] w K) w fun t31 w =>
 xGuard t29 true (fun w K => xBuiltin Try.prog .len #[51] 3 [false] [t31] w K) w fun t32 w =>
 xGuard t29 true (fun w K => xBin Try.prog .eql 3 false t32 true (.int .i64 4) w K) w fun t33 w =>
 xPick t29 t33 (.bool false) w fun t34 w =>
 K t34 w
abbrev n_loamlaw2_known : Nat := 31
def loamlaw2_known_ann : Ann := { loop := fun i => [], wr := fun i => [], told := fun i => [] }
theorem loamlaw2_known_eq (w : World) (K : K1) : reads Try.prog loamlaw2_known_ann Try.f31 #[] w K = loamlaw2_known K  w := by kernel_rfl
theorem loamlaw2_known_of {w : World} {K : K1} (h : loamlaw2_known K w) : Yld Try.prog n_loamlaw2_known #[] w K :=
  yld_of mixed loamlaw2_known_ann Try.func31 (by kernel_rfl) (loamlaw2_known_eq  w K) h

/-! loam/crc.Sum: function 32 -/
def crc_Sum_l1 (K : K1) (nxt0 : List Value → World → Prop) (t3 t6 t7 t8 : Value) (w : World) : Prop :=
 xBin Try.prog .lss 3 false t8 false t7 w fun t9_1 w =>
 xIf t9_1
 (xIndexAddr Try.prog 50 t6 t8 w fun t10_1 w =>
 xLoad Try.prog 51 t10_1 w fun t11_1 w =>
 xCall Try.prog (fnv 33) [t3, t11_1] w fun t14_1 w =>
 xBin Try.prog .add 3 false t8 true (.int .i64 1) w fun t15_1 w =>
 nxt0 [t14_1, t15_1] w)
 (K t3 w)
def crc_Sum (K : K1) (t0 : Value) (w : World) : Prop :=
 xBuiltin Try.prog .len #[50] 3 [false] [t0] w fun t7 w =>
 xLoop [(c32 0), (.int .i64 0)] w [3, 8] fun u w nxt0 =>
 crc_Sum_l1 K nxt0 (u 3) t0 t7 (u 8) w
abbrev n_crc_Sum : Nat := 32
def crc_Sum_ann : Ann := { loop := fun i => bif Nat.beq i 0 then [3, 8] else [], wr := fun i => bif Nat.beq i 0 then [3, 5, 8, 9, 10, 11, 12, 13, 14, 15] else [], told := fun i => [] }
theorem crc_Sum_eq (t0 : Value) (w : World) (K : K1) : reads Try.prog crc_Sum_ann Try.f32 #[t0] w K = crc_Sum K t0 w := by kernel_rfl
theorem crc_Sum_of {t0 : Value} {w : World} {K : K1} (h : crc_Sum K t0 w) : Yld Try.prog n_crc_Sum #[t0] w K :=
  yld_of mixed crc_Sum_ann Try.func32 (by kernel_rfl) (crc_Sum_eq t0 w K) h

/-! loam/crc.Add: function 33 -/
def crc_Add_j1 (K : K1) (nxt2 : List Value → World → Prop) (t0 t20 : Value) (w : World) : Prop :=
 xBin Try.prog .add 3 false t20 true (.int .i64 1) w fun t30_1 w =>
 nxt2 [t0, t30_1] w
def crc_Add_l2 (K : K1) (nxt0 : List Value → World → Prop) (nxt2 : List Value → World → Prop) (t0 t12 t20 : Value) (w : World) : Prop :=
 xBin Try.prog .lss 3 false t20 true (.int .i64 8) w fun t21_1 w =>
 xIf t21_1
 (xBin Try.prog .and 52 false t0 true (c32 1) w fun t23_1 w =>
 xBin Try.prog .shr 52 false t0 true (c64 1) w fun t25_1 w =>
 xBin Try.prog .eql 52 false t23_1 true (c32 1) w fun t27_1 w =>
 xIf t27_1
 (xBin Try.prog .xor 52 false t25_1 true (c32 3988292384) w fun t29_1 w =>
 crc_Add_j1 K nxt2 t29_1 t20 w)
 (crc_Add_j1 K nxt2 t25_1 t20 w))
 (xBin Try.prog .add 3 false t12 true (.int .i64 1) w fun t31_1 w =>
 nxt0 [t0, t31_1] w)
def crc_Add_l1 (K : K1) (nxt0 : List Value → World → Prop) (t0 t10 t11 t12 : Value) (w : World) : Prop :=
 xBin Try.prog .lss 3 false t12 false t11 w fun t13_1 w =>
 xIf t13_1
 (xIndexAddr Try.prog 51 t10 t12 w fun t14_1 w =>
 xLoad Try.prog 5 t14_1 w fun t15_1 w =>
 xConv Try.prog 5 52 t15_1 w fun t18_1 w =>
 xBin Try.prog .xor 52 false t0 false t18_1 w fun t19_1 w =>
 xLoop [t19_1, (.int .i64 0)] w [0, 20] fun u w nxt2 =>
 crc_Add_l2 K nxt0 nxt2 (u 0) t12 (u 20) w)
 (xUn Try.prog .xor t0 w fun t33 w =>
 K t33 w)
def crc_Add (K : K1) (t0 t1 : Value) (w : World) : Prop :=
 xUn Try.prog .xor t0 w fun t9 w =>
 xBuiltin Try.prog .len #[51] 3 [false] [t1] w fun t11 w =>
 xLoop [t9, (.int .i64 0)] w [0, 12] fun u w nxt0 =>
 crc_Add_l1 K nxt0 (u 0) t1 t11 (u 12) w
abbrev n_crc_Add : Nat := 33
def crc_Add_ann : Ann := { loop := fun i => bif Nat.beq i 2 then [0, 20] else bif Nat.beq i 0 then [0, 12] else [], wr := fun i => bif Nat.beq i 2 then [0, 7, 20, 21, 22, 23, 24, 25, 26, 27, 28, 29, 30] else bif Nat.beq i 0 then [0, 6, 7, 12, 13, 14, 15, 16, 17, 18, 19, 20, 21, 22, 23, 24, 25, 26, 27, 28, 29, 30, 31] else [], told := fun i => [] }
theorem crc_Add_eq (t0 t1 : Value) (w : World) (K : K1) : reads Try.prog crc_Add_ann Try.f33 #[t0, t1] w K = crc_Add K t0 t1 w := by kernel_rfl
theorem crc_Add_of {t0 t1 : Value} {w : World} {K : K1} (h : crc_Add K t0 t1 w) : Yld Try.prog n_crc_Add #[t0, t1] w K :=
  yld_of mixed crc_Add_ann Try.func33 (by kernel_rfl) (crc_Add_eq t0 t1 w K) h

/-! loam/loamref2.Sum: function 34 -/
def loamref2_Sum_j1 (K : K1) (nxt2 : List Value → World → Prop) (t3 t5 : Value) (w : World) : Prop :=
 xBin Try.prog .add 3 false t5 true (.int .i64 1) w fun t23_1 w =>
 nxt2 [t3, t23_1] w
def loamref2_Sum_l2 (K : K1) (nxt0 : List Value → World → Prop) (nxt2 : List Value → World → Prop) (t3 t4 t5 : Value) (w : World) : Prop :=
 xBin Try.prog .lss 3 false t5 true (.int .i64 8) w fun t21_1 w =>
 xIf t21_1
 (xBin Try.prog .and 52 false t3 true (c32 1) w fun t25_1 w =>
 xBin Try.prog .shr 52 false t3 true (c64 1) w fun t27_1 w =>
 xBin Try.prog .eql 52 false t25_1 true (c32 1) w fun t29_1 w =>
 xIf t29_1
 (xBin Try.prog .xor 52 false t27_1 true (c32 3988292384) w fun t31_1 w =>
 loamref2_Sum_j1 K nxt2 t31_1 t5 w)
 (loamref2_Sum_j1 K nxt2 t27_1 t5 w))
 (xBin Try.prog .add 3 false t4 true (.int .i64 1) w fun t12_1 w =>
 nxt0 [t3, t12_1] w)
def loamref2_Sum_l1 (K : K1) (nxt0 : List Value → World → Prop) (t0 t3 t4 : Value) (w : World) : Prop :=
 xBuiltin Try.prog .len #[51] 3 [false] [t0] w fun t9_1 w =>
 xBin Try.prog .lss 3 false t4 false t9_1 w fun t10_1 w =>
 xIf t10_1
 (xIndexAddr Try.prog 51 t0 t4 w fun t16_1 w =>
 xLoad Try.prog 5 t16_1 w fun t17_1 w =>
 xConv Try.prog 5 52 t17_1 w fun t18_1 w =>
 xBin Try.prog .xor 52 false t3 false t18_1 w fun t19_1 w =>
 xLoop [t19_1, (.int .i64 0)] w [3, 5] fun u w nxt2 =>
 loamref2_Sum_l2 K nxt0 nxt2 (u 3) t4 (u 5) w)
 (xUn Try.prog .xor t3 w fun t33 w =>
 K t33 w)
def loamref2_Sum (K : K1) (t0 : Value) (w : World) : Prop :=
 xLoop [(c32 4294967295), (.int .i64 0)] w [3, 4] fun u w nxt0 =>
 loamref2_Sum_l1 K nxt0 t0 (u 3) (u 4) w
abbrev n_loamref2_Sum : Nat := 34
def loamref2_Sum_ann : Ann := { loop := fun i => bif Nat.beq i 2 then [3, 5] else bif Nat.beq i 0 then [3, 4] else [], wr := fun i => bif Nat.beq i 2 then [3, 5, 6, 20, 21, 22, 23, 24, 25, 26, 27, 28, 29, 30, 31] else bif Nat.beq i 0 then [3, 4, 5, 6, 7, 8, 9, 10, 11, 12, 13, 14, 15, 16, 17, 18, 19, 20, 21, 22, 23, 24, 25, 26, 27, 28, 29, 30, 31] else [], told := fun i => [] }
theorem loamref2_Sum_eq (t0 : Value) (w : World) (K : K1) : reads Try.prog loamref2_Sum_ann Try.f34 #[t0] w K = loamref2_Sum K t0 w := by kernel_rfl
theorem loamref2_Sum_of {t0 : Value} {w : World} {K : K1} (h : loamref2_Sum K t0 w) : Yld Try.prog n_loamref2_Sum #[t0] w K :=
  yld_of mixed loamref2_Sum_ann Try.func34 (by kernel_rfl) (loamref2_Sum_eq t0 w K) h

/-! loam/crc.Seal: function 35 -/
def crc_Seal (K : K1) (t0 : Value) (w : World) : Prop :=
 xBuiltin Try.prog .len #[51] 3 [false] [t0] w fun t5 w =>
 xBin Try.prog .add 3 false t5 true (.int .i64 4) w fun t6 w =>
 xMakeSlice Try.prog 51 t6 t6 w fun t7 w =>
 xBuiltin Try.prog .copy #[51, 51] 3 [false, false] [t7, t0] w fun t10 w =>
 xBuiltin Try.prog .len #[51] 3 [false] [t0] w fun t14 w =>
 xBuildSlice Try.prog 50 1 [(0, t0)] w fun t16 w =>
 xCall Try.prog (fnv 32) [t16] w fun t17 w =>
 xConv Try.prog 52 64 t17 w fun t18 w =>
 xCall Try.prog (fnv 53) [t7, t14, (.int .i64 4), t18] w fun t19 w =>
 xExtract Try.prog t19 0 w fun t20 w =>
 xExtract Try.prog t19 1 w fun t21 w =>
 K t20 w
abbrev n_crc_Seal : Nat := 35
def crc_Seal_ann : Ann := { loop := fun i => [], wr := fun i => [], told := fun i => [] }
theorem crc_Seal_eq (t0 : Value) (w : World) (K : K1) : reads Try.prog crc_Seal_ann Try.f35 #[t0] w K = crc_Seal K t0 w := by kernel_rfl
theorem crc_Seal_of {t0 : Value} {w : World} {K : K1} (h : crc_Seal K t0 w) : Yld Try.prog n_crc_Seal #[t0] w K :=
  yld_of mixed crc_Seal_ann Try.func35 (by kernel_rfl) (crc_Seal_eq t0 w K) h

/-! loam/loamref2.Seal: function 36 -/
def loamref2_Seal (K : K1) (t0 : Value) (w : World) : Prop :=
 xBuildSlice Try.prog 51 0 [] w fun t3 w =>
 xBuiltin Try.prog .append #[51, 51] 51 [false, false] [t3, t0] w fun t5 w =>
 xCall Try.prog (fnv 34) [t0] w fun t7 w =>
 xCall Try.prog (fnv 54) [t7] w fun t8 w =>
 xBuiltin Try.prog .append #[51, 51] 51 [false, false] [t5, t8] w fun t9 w =>
 K t9 w
abbrev n_loamref2_Seal : Nat := 36
def loamref2_Seal_ann : Ann := { loop := fun i => [], wr := fun i => [], told := fun i => [] }
theorem loamref2_Seal_eq (t0 : Value) (w : World) (K : K1) : reads Try.prog loamref2_Seal_ann Try.f36 #[t0] w K = loamref2_Seal K t0 w := by kernel_rfl
theorem loamref2_Seal_of {t0 : Value} {w : World} {K : K1} (h : loamref2_Seal K t0 w) : Yld Try.prog n_loamref2_Seal #[t0] w K :=
  yld_of mixed loamref2_Seal_ann Try.func36 (by kernel_rfl) (loamref2_Seal_eq t0 w K) h

/-! loam/crc.Right: function 37 -/
def crc_Right (K : K1) (t0 : Value) (w : World) : Prop :=
 xBuiltin Try.prog .len #[51] 3 [false] [t0] w fun t4 w =>
 xBin Try.prog .geq 3 false t4 true (.int .i64 4) w fun t5 w =>
 xGuard t5 true (fun w K => K t0 w) w fun t7 w =>
 xGuard t5 true (fun w K => K t0 w) w fun t8 w =>
 xGuard t5 true (fun w K => K t0 w) w fun t9 w =>
 xGuard t5 true (fun w K => xBuiltin Try.prog .len #[51] 3 [false] [t9] w K) w fun t10 w =>
 xGuard t5 true (fun w K => xBin Try.prog .sub 3 false t10 true (.int .i64 4) w K) w fun t11 w =>
 xGuard t5 true (fun w K => xSlice Try.prog 51 t8 none (some t11) none w K) w fun t12 w =>
 xGuard t5 true (fun w K => xCall Try.prog (fnv 35) [t12] w K) w fun t13 w =>
 xGuard t5 true (fun w K => xCall Try.prog (fnv 55) [t7, t13] w K) w fun t14 w =>
 xPick t5 t14 (.bool false) w fun t15 w =>
 K t15 w
abbrev n_crc_Right : Nat := 37
def crc_Right_ann : Ann := { loop := fun i => [], wr := fun i => [], told := fun i => [] }
theorem crc_Right_eq (t0 : Value) (w : World) (K : K1) : reads Try.prog crc_Right_ann Try.f37 #[t0] w K = crc_Right K t0 w := by kernel_rfl
theorem crc_Right_of {t0 : Value} {w : World} {K : K1} (h : crc_Right K t0 w) : Yld Try.prog n_crc_Right #[t0] w K :=
  yld_of mixed crc_Right_ann Try.func37 (by kernel_rfl) (crc_Right_eq t0 w K) h

/-! loam/loamref2.Right: function 38 -/
def loamref2_Right (K : K1) (t0 : Value) (w : World) : Prop :=
 xBuiltin Try.prog .len #[51] 3 [false] [t0] w fun t5 w =>
 xBin Try.prog .sub 3 false t5 true (.int .i64 4) w fun t6 w =>
 xDraw w.drew fun le H =>
 xDet le (H) (fun w K => K t6 w) fun t7 =>
 xDet le (H) (fun w K => xBin Try.prog .geq 3 false t7 true (.int .i64 0) w K) fun t8 =>
 xDet le (H) (fun w K => K t8 w) fun t9 =>
 xDet le (H) (fun w K => xGuard t9 true (fun w K => K t0 w) w K) fun t10 =>
 xDet le (H) (fun w K => xGuard t9 true (fun w K => K t6 w) w K) fun t11 =>
 xDet le (H) (fun w K => xGuard t9 true (fun w K => xSlice Try.prog 51 t10 none (some t11) none w K) w K) fun t12 =>
 xDet le (H) (fun w K => xGuard t9 true (fun w K => K t0 w) w K) fun t16 =>
 xDet le (H) (fun w K => xGuard t9 true (fun w K => K t6 w) w K) fun t17 =>
 xDet le (H) (fun w K => xGuard t9 true (fun w K => xSlice Try.prog 51 t16 (some t17) none none w K) w K) fun t18 =>
 xDet le (H) (fun w K => xGuard t9 true (fun w K => xConv Try.prog 51 9 t18 w K) w K) fun t19 =>
 xDet le (H) (fun w K => xGuard t9 true (fun w K => xCall Try.prog (fnv 34) [t12] w K) w K) fun t13 =>
 xStr (fun N =>
  xNon le (H) (fun w K => xGuard t9 true (fun w K => xCall Try.prog (fnv 54) [t13] w K) w K) fun t14 h7 =>
  xDet le (fun w => H w ∧ h7 w) (fun w K => xGuard t9 true (fun w K => xConv Try.prog 51 9 t14 w K) w K) N) fun t15 =>
 xDet le (H) (fun w K => xGuard t9 true (fun w K => xBin Try.prog .eql 9 false t15 false t19 w K) w K) fun t20 =>
 xDet le (H) (fun w K => xPick t9 t20 (.bool false) w K) fun t21 =>
 xDet le (H) (fun w K => K t21 w) fun t2 =>
 xEndU (H) fun uS w =>
 K t2 w
abbrev n_loamref2_Right : Nat := 38
def loamref2_Right_ann : Ann := { loop := fun i => [], wr := fun i => [], told := fun i => bif Nat.beq i 2 then [(0, false, ⟨0, 136, some 7⟩), (1, false, ⟨1, 384, some 8⟩), (2, false, ⟨2, 768, some 9⟩), (3, false, ⟨4, 1537, some 10⟩), (4, false, ⟨4, 2568, some 11⟩), (5, false, ⟨28, 7680, some 12⟩), (9, false, ⟨4, 66049, some 16⟩), (10, false, ⟨4, 131592, some 17⟩), (11, false, ⟨1540, 459264, some 18⟩), (12, false, ⟨2052, 786944, some 19⟩), (6, false, ⟨36, 12800, some 13⟩), (7, false, ⟨68, 25088, some 14⟩), (8, false, ⟨132, 49664, some 15⟩), (13, false, ⟨4356, 1606144, some 20⟩), (14, false, ⟨8196, 3146240, some 21⟩), (15, false, ⟨32767, 2097156, some 2⟩)] else [], plan := fun i => bif Nat.beq i 2 then some ⟨[[0], [1], [2], [3], [4], [5], [9], [10], [11], [12], [6], [7, 8], [13], [14], [15]], [], [14]⟩ else none }
theorem loamref2_Right_eq (t0 : Value) (w : World) (K : K1) : reads Try.prog loamref2_Right_ann Try.f38 #[t0] w K = loamref2_Right K t0 w := by kernel_rfl
theorem loamref2_Right_of {t0 : Value} {w : World} {K : K1} (h : loamref2_Right K t0 w) : Yld Try.prog n_loamref2_Right #[t0] w K :=
  yld_of mixed loamref2_Right_ann Try.func38 (by kernel_rfl) (loamref2_Right_eq t0 w K) h

/-! loam/loamlaw14.known: function 39 -/
def loamlaw14_known (K : K1) (w : World) : Prop :=
 xBuild Try.prog 63 [(0, (.int .i64 3)), (1, (.int .i64 9))] w fun t10 w =>
 xCall Try.prog (fnv 40) [t10] w fun t11 w =>
 xExtract Try.prog t11 0 w fun t12 w =>
 xExtract Try.prog t11 1 w fun t13 w =>
 xCall Try.prog (fnv 47) [t12] w fun t16 w =>
 xExtract Try.prog t16 0 w fun t17 w =>
 xExtract Try.prog t16 1 w fun t18 w =>
 xAlloc Try.prog 63 w fun t3 w =>
 xStore Try.prog 63 t3 t17 w fun _ w =>
 xBuild Try.prog 63 [(2, (.bool true)), (3, (.int .i64 7))] w fun t20 w =>
 xCall Try.prog (fnv 40) [t20] w fun t21 w =>
 xExtract Try.prog t21 0 w fun t22 w =>
 xExtract Try.prog t21 1 w fun t23 w =>
 xCall Try.prog (fnv 47) [(c64 0)] w fun t25 w =>
 xExtract Try.prog t25 0 w fun t26 w =>
 xExtract Try.prog t25 1 w fun t27 w =>
 xAlloc Try.prog 63 w fun t7 w =>
 xStore Try.prog 63 t7 t26 w fun _ w =>
 xBin Try.prog .add 3 false t13 false t18 w fun t30 w =>
 xBin Try.prog .add 3 false t30 false t23 w fun t32 w =>
 xBin Try.prog .eql 3 false t32 true (.int .i64 0) w fun t33 w =>
 xGuard t33 true (fun w K => K t12 w) w fun t35 w =>
 xGuard t33 true (fun w K => xBin Try.prog .eql 64 false t35 true (c64 9223372036855365638) w K) w fun t36 w =>
 xPick t33 t36 (.bool false) w fun t37 w =>
 xGuard t37 true (fun w K => xFieldAddr Try.prog 63 t3 0 w K) w fun t39 w =>
 xGuard t37 true (fun w K => xLoad Try.prog 3 t39 w K) w fun t40 w =>
 xGuard t37 true (fun w K => xBin Try.prog .eql 3 false t40 true (.int .i64 3) w K) w fun t41 w =>
 xPick t37 t41 (.bool false) w fun t42 w =>
 xGuard t42 true (fun w K => xFieldAddr Try.prog 63 t3 1 w K) w fun t44 w =>
 xGuard t42 true (fun w K => xLoad Try.prog 3 t44 w K) w fun t45 w =>
 xGuard t42 true (fun w K => xBin Try.prog .eql 3 false t45 true (.int .i64 9) w K) w fun t46 w =>
 xPick t42 t46 (.bool false) w fun t47 w =>
 xGuard t47 true (fun w K => K t22 w) w fun t49 w =>
 xGuard t47 true (fun w K => xBin Try.prog .eql 64 false t49 true (c64 9223372066919546881) w K) w fun t50 w =>
 xPick t47 t50 (.bool false) w fun t51 w =>
 xGuard t51 true (fun w K => K t27 w) w fun t53 w =>
 xGuard t51 true (fun w K => xBin Try.prog .eql 3 false t53 true (.int .i64 2) w K) w fun t54 w =>
 xPick t51 t54 (.bool false) w fun t55 w =>
 xGuard t55 true (fun w K => xLoad Try.prog 63 t3 w K) w fun t57 w =>
 xGuard t55 true (fun w K => xCall Try.prog (fnv 45) [t57] w K) w fun t58 w =>
 xGuard t55 true (fun w K => xBin Try.prog .eql 3 false t58 true (.int .i64 6) w K) w fun t59 w =>
 xPick t55 t59 (.bool false) w fun t60 w =>
 xGuard t60 true (fun w K => xLoad Try.prog 63 t3 w K) w fun t62 w =>
 xGuard t60 true (fun w K => xCall Try.prog (fnv 43) [t62] w K) w fun t63 w =>
 xPick t60 t63 (.bool false) w fun t64 w =>
 xGuard t64 true (fun w K => xBuild Try.prog 63 [(0, (.int .i64 65))] w K) w fun t66 w =>
 xGuard t64 true (fun w K => xCall Try.prog (fnv 43) [t66] w K) w fun t67 w =>
 xGuard t64 true (fun w K => xUn Try.prog .not t67 w K) w fun t68 w =>
 xPick t64 t68 (.bool false) w fun t69 w =>
 K t69 w
abbrev n_loamlaw14_known : Nat := 39
def loamlaw14_known_ann : Ann := { loop := fun i => [], wr := fun i => [], told := fun i => [] }
theorem loamlaw14_known_eq (w : World) (K : K1) : reads Try.prog loamlaw14_known_ann Try.f39 #[] w K = loamlaw14_known K  w := by kernel_rfl
theorem loamlaw14_known_of {w : World} {K : K1} (h : loamlaw14_known K w) : Yld Try.prog n_loamlaw14_known #[] w K :=
  yld_of mixed loamlaw14_known_ann Try.func39 (by kernel_rfl) (loamlaw14_known_eq  w K) h

/-! loam/head.Pack: function 40 -/
def head_Pack (K : K1) (t0 : Value) (w : World) : Prop :=
 xBox Try.prog 63 t0 w fun t1 w =>
 xLoad Try.prog 63 t1 w fun t5 w =>
 xCall Try.prog (fnv 43) [t5] w fun t6 w =>
 xUn Try.prog .not t6 w fun t7 w =>
 xIf t7
 (K (.tuple #[(c64 0), (.int .i64 1)]) w)
 (xFieldAddr Try.prog 63 t1 2 w fun t8 w =>
 xLoad Try.prog 4 t8 w fun t9 w =>
 xIf t9
 (xBin Try.prog .or 64 false (c64 9223372036854775808) true (c64 1) w fun t11 w =>
 xFieldAddr Try.prog 63 t1 3 w fun t12 w =>
 xLoad Try.prog 3 t12 w fun t13 w =>
 xConv Try.prog 3 64 t13 w fun t14 w =>
 xCall Try.prog (fnv 56) [t11, (.int .i64 32), (.int .i64 16), t14] w fun t15 w =>
 K (.tuple #[t15, (.int .i64 0)]) w)
 (xDraw w.drew fun le H =>
 xDet le (H) (fun w K => K (c64 9223372036854775808) w) fun t16 =>
 xDet le (H) (fun w K => xFieldAddr Try.prog 63 t1 0 w K) fun t17 =>
 xDet le (H) (fun w K => xLoad Try.prog 3 t17 w K) fun t18 =>
 xDet le (H) (fun w K => xConv Try.prog 3 64 t18 w K) fun t19 =>
 xDet le (H) (fun w K => xFieldAddr Try.prog 63 t1 1 w K) fun t21 =>
 xDet le (H) (fun w K => xLoad Try.prog 3 t21 w K) fun t22 =>
 xDet le (H) (fun w K => xConv Try.prog 3 64 t22 w K) fun t23 =>
 xDet le (H) (fun w K => xCall Try.prog (fnv 56) [t16, (.int .i64 1), (.int .i64 8), t19] w K) fun t20 =>
 xDet le (H) (fun w K => xCall Try.prog (fnv 56) [t20, (.int .i64 16), (.int .i64 12), t23] w K) fun t24 =>
 xDet le (H) (fun w K => K t24 w) fun t2 =>
 xDet le (H) (fun w K => K (.int .i64 0) w) fun t3 =>
 xEnd (H) fun w =>
 K (.tuple #[t2, t3]) w))
abbrev n_head_Pack : Nat := 40
def head_Pack_ann : Ann := { loop := fun i => [], wr := fun i => [], told := fun i => bif Nat.beq i 6 then [(0, false, ⟨0, 65552, some 16⟩), (1, false, ⟨0, 131074, some 17⟩), (2, false, ⟨2, 393216, some 18⟩), (3, false, ⟨4, 786432, some 19⟩), (5, false, ⟨0, 2097154, some 21⟩), (6, false, ⟨32, 6291456, some 22⟩), (7, false, ⟨64, 12582912, some 23⟩), (4, false, ⟨9, 1638400, some 20⟩), (8, false, ⟨144, 26214400, some 24⟩), (9, false, ⟨511, 16777220, some 2⟩), (10, false, ⟨1023, 8, some 3⟩)] else [] }
theorem head_Pack_eq (t0 : Value) (w : World) (K : K1) : reads Try.prog head_Pack_ann Try.f40 #[t0] w K = head_Pack K t0 w := by kernel_rfl
theorem head_Pack_of {t0 : Value} {w : World} {K : K1} (h : head_Pack K t0 w) : Yld Try.prog n_head_Pack #[t0] w K :=
  yld_of mixed head_Pack_ann Try.func40 (by kernel_rfl) (head_Pack_eq t0 w K) h

/-! loam/loamref14.Pack: function 41 -/
def loamref14_Pack (K : K1) (t0 : Value) (w : World) : Prop :=
 xBox Try.prog 69 t0 w fun t1 w =>
 xLoad Try.prog 69 t1 w fun t5 w =>
 xCall Try.prog (fnv 44) [t5] w fun t6 w =>
 xUn Try.prog .not t6 w fun t7 w =>
 xIf t7
 (K (.tuple #[(c64 0), (.int .i64 1)]) w)
 (xFieldAddr Try.prog 69 t1 2 w fun t8 w =>
 xLoad Try.prog 4 t8 w fun t9 w =>
 xIf t9
 (xBin Try.prog .add 64 false (c64 9223372036854775808) true (c64 1) w fun t11 w =>
 xFieldAddr Try.prog 69 t1 3 w fun t12 w =>
 xLoad Try.prog 3 t12 w fun t13 w =>
 xConv Try.prog 3 64 t13 w fun t14 w =>
 xBin Try.prog .shl 64 false t14 true (c64 32) w fun t15 w =>
 xBin Try.prog .add 64 false t11 false t15 w fun t16 w =>
 K (.tuple #[t16, (.int .i64 0)]) w)
 (xFieldAddr Try.prog 69 t1 0 w fun t18 w =>
 xLoad Try.prog 3 t18 w fun t19 w =>
 xConv Try.prog 3 64 t19 w fun t20 w =>
 xBin Try.prog .shl 64 false t20 true (c64 1) w fun t21 w =>
 xBin Try.prog .add 64 false (c64 9223372036854775808) false t21 w fun t22 w =>
 xFieldAddr Try.prog 69 t1 1 w fun t23 w =>
 xLoad Try.prog 3 t23 w fun t24 w =>
 xConv Try.prog 3 64 t24 w fun t25 w =>
 xBin Try.prog .shl 64 false t25 true (c64 16) w fun t26 w =>
 xBin Try.prog .add 64 false t22 false t26 w fun t27 w =>
 K (.tuple #[t27, (.int .i64 0)]) w))
abbrev n_loamref14_Pack : Nat := 41
def loamref14_Pack_ann : Ann := { loop := fun i => [], wr := fun i => [], told := fun i => [] }
theorem loamref14_Pack_eq (t0 : Value) (w : World) (K : K1) : reads Try.prog loamref14_Pack_ann Try.f41 #[t0] w K = loamref14_Pack K t0 w := by kernel_rfl
theorem loamref14_Pack_of {t0 : Value} {w : World} {K : K1} (h : loamref14_Pack K t0 w) : Yld Try.prog n_loamref14_Pack #[t0] w K :=
  yld_of mixed loamref14_Pack_ann Try.func41 (by kernel_rfl) (loamref14_Pack_eq t0 w K) h

/-! loam/loamlaw14.Of: function 42 -/
def loamlaw14_Of (K : K1) (t0 : Value) (w : World) : Prop :=
 xBox Try.prog 63 t0 w fun t1 w =>
 xAlloc Try.prog 69 w fun t2 w =>
 xFieldAddr Try.prog 63 t1 0 w fun t3 w =>
 xLoad Try.prog 3 t3 w fun t4 w =>
 xFieldAddr Try.prog 63 t1 1 w fun t5 w =>
 xLoad Try.prog 3 t5 w fun t6 w =>
 xFieldAddr Try.prog 63 t1 2 w fun t7 w =>
 xLoad Try.prog 4 t7 w fun t8 w =>
 xFieldAddr Try.prog 63 t1 3 w fun t9 w =>
 xLoad Try.prog 3 t9 w fun t10 w =>
 xBuild Try.prog 69 [(0, t4), (1, t6), (2, t8), (3, t10)] w fun t11 w =>
 xStore Try.prog 69 t2 t11 w fun _ w =>
 xLoadR Try.prog 69 t2 w fun r0 =>
 K r0 w
abbrev n_loamlaw14_Of : Nat := 42
def loamlaw14_Of_ann : Ann := { loop := fun i => [], wr := fun i => [], told := fun i => [] }
theorem loamlaw14_Of_eq (t0 : Value) (w : World) (K : K1) : reads Try.prog loamlaw14_Of_ann Try.f42 #[t0] w K = loamlaw14_Of K t0 w := by kernel_rfl
theorem loamlaw14_Of_of {t0 : Value} {w : World} {K : K1} (h : loamlaw14_Of K t0 w) : Yld Try.prog n_loamlaw14_Of #[t0] w K :=
  yld_of mixed loamlaw14_Of_ann Try.func42 (by kernel_rfl) (loamlaw14_Of_eq t0 w K) h

/-! loam/head.Right: function 43 -/
def head_Right (K : K1) (t0 : Value) (w : World) : Prop :=
 xBox Try.prog 63 t0 w fun t1 w =>
 xFieldAddr Try.prog 63 t1 2 w fun t3 w =>
 xLoad Try.prog 4 t3 w fun t4 w =>
 xIf t4
 (xFieldAddr Try.prog 63 t1 0 w fun t5 w =>
 xLoad Try.prog 3 t5 w fun t6 w =>
 xBin Try.prog .eql 3 false t6 true (.int .i64 0) w fun t7 w =>
 xGuard t7 true (fun w K => xFieldAddr Try.prog 63 t1 1 w K) w fun t9 w =>
 xGuard t7 true (fun w K => xLoad Try.prog 3 t9 w K) w fun t10 w =>
 xGuard t7 true (fun w K => xBin Try.prog .eql 3 false t10 true (.int .i64 0) w K) w fun t11 w =>
 xPick t7 t11 (.bool false) w fun t12 w =>
 xGuard t12 true (fun w K => xFieldAddr Try.prog 63 t1 3 w K) w fun t14 w =>
 xGuard t12 true (fun w K => xLoad Try.prog 3 t14 w K) w fun t15 w =>
 xGuard t12 true (fun w K => xBin Try.prog .geq 3 false t15 true (.int .i64 0) w K) w fun t16 w =>
 xPick t12 t16 (.bool false) w fun t17 w =>
 xGuard t17 true (fun w K => xFieldAddr Try.prog 63 t1 3 w K) w fun t19 w =>
 xGuard t17 true (fun w K => xLoad Try.prog 3 t19 w K) w fun t20 w =>
 xGuard t17 true (fun w K => xBin Try.prog .lss 3 false t20 true (.int .i64 8192) w K) w fun t21 w =>
 xPick t17 t21 (.bool false) w fun t22 w =>
 K t22 w)
 (xFieldAddr Try.prog 63 t1 3 w fun t23 w =>
 xLoad Try.prog 3 t23 w fun t24 w =>
 xBin Try.prog .eql 3 false t24 true (.int .i64 0) w fun t25 w =>
 xGuard t25 true (fun w K => xFieldAddr Try.prog 63 t1 0 w K) w fun t27 w =>
 xGuard t25 true (fun w K => xLoad Try.prog 3 t27 w K) w fun t28 w =>
 xGuard t25 true (fun w K => xBin Try.prog .geq 3 false t28 true (.int .i64 0) w K) w fun t29 w =>
 xPick t25 t29 (.bool false) w fun t30 w =>
 xGuard t30 true (fun w K => xFieldAddr Try.prog 63 t1 0 w K) w fun t32 w =>
 xGuard t30 true (fun w K => xLoad Try.prog 3 t32 w K) w fun t33 w =>
 xGuard t30 true (fun w K => xBin Try.prog .leq 3 false t33 true (.int .i64 64) w K) w fun t34 w =>
 xPick t30 t34 (.bool false) w fun t35 w =>
 xGuard t35 true (fun w K => xFieldAddr Try.prog 63 t1 1 w K) w fun t37 w =>
 xGuard t35 true (fun w K => xLoad Try.prog 3 t37 w K) w fun t38 w =>
 xGuard t35 true (fun w K => xBin Try.prog .geq 3 false t38 true (.int .i64 0) w K) w fun t39 w =>
 xPick t35 t39 (.bool false) w fun t40 w =>
 xGuard t40 true (fun w K => xFieldAddr Try.prog 63 t1 1 w K) w fun t42 w =>
 xGuard t40 true (fun w K => xLoad Try.prog 3 t42 w K) w fun t43 w =>
 xGuard t40 true (fun w K => xBin Try.prog .leq 3 false t43 true (.int .i64 1024) w K) w fun t44 w =>
 xPick t40 t44 (.bool false) w fun t45 w =>
 K t45 w)
abbrev n_head_Right : Nat := 43
def head_Right_ann : Ann := { loop := fun i => [], wr := fun i => [], told := fun i => [] }
theorem head_Right_eq (t0 : Value) (w : World) (K : K1) : reads Try.prog head_Right_ann Try.f43 #[t0] w K = head_Right K t0 w := by kernel_rfl
theorem head_Right_of {t0 : Value} {w : World} {K : K1} (h : head_Right K t0 w) : Yld Try.prog n_head_Right #[t0] w K :=
  yld_of mixed head_Right_ann Try.func43 (by kernel_rfl) (head_Right_eq t0 w K) h

/-! loam/loamref14.Right: function 44 -/
def loamref14_Right (K : K1) (t0 : Value) (w : World) : Prop :=
 xBox Try.prog 69 t0 w fun t1 w =>
 xFieldAddr Try.prog 69 t1 2 w fun t3 w =>
 xLoad Try.prog 4 t3 w fun t4 w =>
 xIf t4
 (xFieldAddr Try.prog 69 t1 0 w fun t5 w =>
 xLoad Try.prog 3 t5 w fun t6 w =>
 xBin Try.prog .eql 3 false t6 true (.int .i64 0) w fun t7 w =>
 xGuard t7 true (fun w K => xFieldAddr Try.prog 69 t1 1 w K) w fun t9 w =>
 xGuard t7 true (fun w K => xLoad Try.prog 3 t9 w K) w fun t10 w =>
 xGuard t7 true (fun w K => xBin Try.prog .eql 3 false t10 true (.int .i64 0) w K) w fun t11 w =>
 xPick t7 t11 (.bool false) w fun t12 w =>
 xGuard t12 true (fun w K => xFieldAddr Try.prog 69 t1 3 w K) w fun t14 w =>
 xGuard t12 true (fun w K => xLoad Try.prog 3 t14 w K) w fun t15 w =>
 xGuard t12 true (fun w K => xBin Try.prog .geq 3 false t15 true (.int .i64 0) w K) w fun t16 w =>
 xPick t12 t16 (.bool false) w fun t17 w =>
 xGuard t17 true (fun w K => xFieldAddr Try.prog 69 t1 3 w K) w fun t19 w =>
 xGuard t17 true (fun w K => xLoad Try.prog 3 t19 w K) w fun t20 w =>
 xGuard t17 true (fun w K => xBin Try.prog .lss 3 false t20 true (.int .i64 8192) w K) w fun t21 w =>
 xPick t17 t21 (.bool false) w fun t22 w =>
 K t22 w)
 (xFieldAddr Try.prog 69 t1 0 w fun t23 w =>
 xLoad Try.prog 3 t23 w fun t24 w =>
 xBin Try.prog .geq 3 false t24 true (.int .i64 0) w fun t25 w =>
 xGuard t25 true (fun w K => xFieldAddr Try.prog 69 t1 0 w K) w fun t27 w =>
 xGuard t25 true (fun w K => xLoad Try.prog 3 t27 w K) w fun t28 w =>
 xGuard t25 true (fun w K => xBin Try.prog .leq 3 false t28 true (.int .i64 64) w K) w fun t29 w =>
 xPick t25 t29 (.bool false) w fun t30 w =>
 xGuard t30 true (fun w K => xFieldAddr Try.prog 69 t1 1 w K) w fun t32 w =>
 xGuard t30 true (fun w K => xLoad Try.prog 3 t32 w K) w fun t33 w =>
 xGuard t30 true (fun w K => xBin Try.prog .geq 3 false t33 true (.int .i64 0) w K) w fun t34 w =>
 xPick t30 t34 (.bool false) w fun t35 w =>
 xGuard t35 true (fun w K => xFieldAddr Try.prog 69 t1 1 w K) w fun t37 w =>
 xGuard t35 true (fun w K => xLoad Try.prog 3 t37 w K) w fun t38 w =>
 xGuard t35 true (fun w K => xBin Try.prog .leq 3 false t38 true (.int .i64 1024) w K) w fun t39 w =>
 xPick t35 t39 (.bool false) w fun t40 w =>
 xGuard t40 true (fun w K => xFieldAddr Try.prog 69 t1 3 w K) w fun t42 w =>
 xGuard t40 true (fun w K => xLoad Try.prog 3 t42 w K) w fun t43 w =>
 xGuard t40 true (fun w K => xBin Try.prog .eql 3 false t43 true (.int .i64 0) w K) w fun t44 w =>
 xPick t40 t44 (.bool false) w fun t45 w =>
 K t45 w)
abbrev n_loamref14_Right : Nat := 44
def loamref14_Right_ann : Ann := { loop := fun i => [], wr := fun i => [], told := fun i => [] }
theorem loamref14_Right_eq (t0 : Value) (w : World) (K : K1) : reads Try.prog loamref14_Right_ann Try.f44 #[t0] w K = loamref14_Right K t0 w := by kernel_rfl
theorem loamref14_Right_of {t0 : Value} {w : World} {K : K1} (h : loamref14_Right K t0 w) : Yld Try.prog n_loamref14_Right #[t0] w K :=
  yld_of mixed loamref14_Right_ann Try.func44 (by kernel_rfl) (loamref14_Right_eq t0 w K) h

/-! loam/head.Size: function 45 -/
def head_Size (K : K1) (t0 : Value) (w : World) : Prop :=
 xBox Try.prog 63 t0 w fun t1 w =>
 xLoad Try.prog 63 t1 w fun t3 w =>
 xCall Try.prog (fnv 43) [t3] w fun t4 w =>
 xUn Try.prog .not t4 w fun t5 w =>
 xGuard t5 false (fun w K => xFieldAddr Try.prog 63 t1 2 w K) w fun t7 w =>
 xGuard t5 false (fun w K => xLoad Try.prog 4 t7 w K) w fun t8 w =>
 xPick t5 (.bool true) t8 w fun t9 w =>
 xIf t9
 (K (.int .i64 0) w)
 (xFieldAddr Try.prog 63 t1 0 w fun t10 w =>
 xLoad Try.prog 3 t10 w fun t11 w =>
 xBin Try.prog .add 3 true (.int .i64 1) false t11 w fun t12 w =>
 xFieldAddr Try.prog 63 t1 1 w fun t13 w =>
 xLoad Try.prog 3 t13 w fun t14 w =>
 xBin Try.prog .add 3 false t14 true (.int .i64 8) w fun t15 w =>
 xBin Try.prog .sub 3 false t15 true (.int .i64 1) w fun t16 w =>
 xBin Try.prog .quo 3 false t16 true (.int .i64 8) w fun t17 w =>
 xBin Try.prog .add 3 false t12 false t17 w fun t18 w =>
 K t18 w)
abbrev n_head_Size : Nat := 45
def head_Size_ann : Ann := { loop := fun i => [], wr := fun i => [], told := fun i => [] }
theorem head_Size_eq (t0 : Value) (w : World) (K : K1) : reads Try.prog head_Size_ann Try.f45 #[t0] w K = head_Size K t0 w := by kernel_rfl
theorem head_Size_of {t0 : Value} {w : World} {K : K1} (h : head_Size K t0 w) : Yld Try.prog n_head_Size #[t0] w K :=
  yld_of mixed head_Size_ann Try.func45 (by kernel_rfl) (head_Size_eq t0 w K) h

/-! loam/loamref14.Size: function 46 -/
def loamref14_Size (K : K1) (t0 : Value) (w : World) : Prop :=
 xBox Try.prog 69 t0 w fun t1 w =>
 xLoad Try.prog 69 t1 w fun t3 w =>
 xCall Try.prog (fnv 44) [t3] w fun t4 w =>
 xUn Try.prog .not t4 w fun t5 w =>
 xGuard t5 false (fun w K => xFieldAddr Try.prog 69 t1 2 w K) w fun t7 w =>
 xGuard t5 false (fun w K => xLoad Try.prog 4 t7 w K) w fun t8 w =>
 xPick t5 (.bool true) t8 w fun t9 w =>
 xIf t9
 (K (.int .i64 0) w)
 (xFieldAddr Try.prog 69 t1 0 w fun t10 w =>
 xLoad Try.prog 3 t10 w fun t11 w =>
 xBin Try.prog .add 3 true (.int .i64 1) false t11 w fun t12 w =>
 xFieldAddr Try.prog 69 t1 1 w fun t13 w =>
 xLoad Try.prog 3 t13 w fun t14 w =>
 xBin Try.prog .add 3 false t14 true (.int .i64 7) w fun t15 w =>
 xBin Try.prog .quo 3 false t15 true (.int .i64 8) w fun t16 w =>
 xBin Try.prog .add 3 false t12 false t16 w fun t17 w =>
 K t17 w)
abbrev n_loamref14_Size : Nat := 46
def loamref14_Size_ann : Ann := { loop := fun i => [], wr := fun i => [], told := fun i => [] }
theorem loamref14_Size_eq (t0 : Value) (w : World) (K : K1) : reads Try.prog loamref14_Size_ann Try.f46 #[t0] w K = loamref14_Size K t0 w := by kernel_rfl
theorem loamref14_Size_of {t0 : Value} {w : World} {K : K1} (h : loamref14_Size K t0 w) : Yld Try.prog n_loamref14_Size #[t0] w K :=
  yld_of mixed loamref14_Size_ann Try.func46 (by kernel_rfl) (loamref14_Size_eq t0 w K) h

/-! loam/head.Unpack: function 47 -/
def head_Unpack_j1 (K : K1) (t0 t2 t4 : Value) (w : World) : Prop :=
 xLoad Try.prog 63 t4 w fun t22_1 w =>
 xCall Try.prog (fnv 40) [t22_1] w fun t23_1 w =>
 xExtract Try.prog t23_1 0 w fun t24_1 w =>
 xExtract Try.prog t23_1 1 w fun t25_1 w =>
 xBin Try.prog .neq 27 false t25_1 true (.int .i64 0) w fun t27_1 w =>
 xGuard t27_1 false (fun w K => K t24_1 w) w fun t29_1 w =>
 xGuard t27_1 false (fun w K => K t0 w) w fun t30_1 w =>
 xGuard t27_1 false (fun w K => xBin Try.prog .neq 64 false t29_1 false t30_1 w K) w fun t31_1 w =>
 xPick t27_1 (.bool true) t31_1 w fun t32_1 w =>
 xIf t32_1
 (xBuild Try.prog 63 [] w fun t33_1 w =>
 xStore Try.prog 63 t2 t33_1 w fun _ w =>
 xLoadR Try.prog 63 t2 w fun r0 =>
 K (.tuple #[r0, (.int .i64 2)]) w)
 (xLoad Try.prog 63 t4 w fun t34_1 w =>
 xStore Try.prog 63 t2 t34_1 w fun _ w =>
 xLoadR Try.prog 63 t2 w fun r0 =>
 K (.tuple #[r0, (.int .i64 0)]) w)
def head_Unpack (K : K1) (t0 : Value) (w : World) : Prop :=
 xAlloc Try.prog 63 w fun t2 w =>
 xCall Try.prog (fnv 57) [t0, (.int .i64 1), (.int .i64 8)] w fun t8 w =>
 xConv Try.prog 64 3 t8 w fun t9 w =>
 xCall Try.prog (fnv 57) [t0, (.int .i64 16), (.int .i64 12)] w fun t11 w =>
 xConv Try.prog 64 3 t11 w fun t12 w =>
 xBuild Try.prog 63 [(0, t9), (1, t12)] w fun t13 w =>
 xAlloc Try.prog 63 w fun t4 w =>
 xStore Try.prog 63 t4 t13 w fun _ w =>
 xBin Try.prog .and 64 false t0 true (c64 1) w fun t15 w =>
 xBin Try.prog .eql 64 false t15 true (c64 1) w fun t16 w =>
 xIf t16
 (xCall Try.prog (fnv 57) [t0, (.int .i64 32), (.int .i64 16)] w fun t18 w =>
 xConv Try.prog 64 3 t18 w fun t19 w =>
 xBuild Try.prog 63 [(2, (.bool true)), (3, t19)] w fun t20 w =>
 xStore Try.prog 63 t4 t20 w fun _ w =>
 head_Unpack_j1 K t0 t2 t4 w)
 (head_Unpack_j1 K t0 t2 t4 w)
abbrev n_head_Unpack : Nat := 47
def head_Unpack_ann : Ann := { loop := fun i => [], wr := fun i => [], told := fun i => [] }
theorem head_Unpack_eq (t0 : Value) (w : World) (K : K1) : reads Try.prog head_Unpack_ann Try.f47 #[t0] w K = head_Unpack K t0 w := by kernel_rfl
theorem head_Unpack_of {t0 : Value} {w : World} {K : K1} (h : head_Unpack K t0 w) : Yld Try.prog n_head_Unpack #[t0] w K :=
  yld_of mixed head_Unpack_ann Try.func47 (by kernel_rfl) (head_Unpack_eq t0 w K) h

/-! loam/loamref14.Unpack: function 48 -/
def loamref14_Unpack_j1 (K : K1) (t0 t2 t4 : Value) (w : World) : Prop :=
 xLoad Try.prog 69 t4 w fun t22_1 w =>
 xCall Try.prog (fnv 41) [t22_1] w fun t23_1 w =>
 xExtract Try.prog t23_1 0 w fun t24_1 w =>
 xExtract Try.prog t23_1 1 w fun t25_1 w =>
 xBin Try.prog .neq 3 false t25_1 true (.int .i64 0) w fun t27_1 w =>
 xGuard t27_1 false (fun w K => K t24_1 w) w fun t29_1 w =>
 xGuard t27_1 false (fun w K => K t0 w) w fun t30_1 w =>
 xGuard t27_1 false (fun w K => xBin Try.prog .neq 64 false t29_1 false t30_1 w K) w fun t31_1 w =>
 xPick t27_1 (.bool true) t31_1 w fun t32_1 w =>
 xIf t32_1
 (xBuild Try.prog 69 [] w fun t33_1 w =>
 xStore Try.prog 69 t2 t33_1 w fun _ w =>
 xLoadR Try.prog 69 t2 w fun r0 =>
 K (.tuple #[r0, (.int .i64 2)]) w)
 (xLoad Try.prog 69 t4 w fun t34_1 w =>
 xStore Try.prog 69 t2 t34_1 w fun _ w =>
 xLoadR Try.prog 69 t2 w fun r0 =>
 K (.tuple #[r0, (.int .i64 0)]) w)
def loamref14_Unpack (K : K1) (t0 : Value) (w : World) : Prop :=
 xAlloc Try.prog 69 w fun t2 w =>
 xCall Try.prog (fnv 58) [t0, (.int .i64 1), (.int .i64 8)] w fun t8 w =>
 xConv Try.prog 64 3 t8 w fun t9 w =>
 xCall Try.prog (fnv 58) [t0, (.int .i64 16), (.int .i64 12)] w fun t11 w =>
 xConv Try.prog 64 3 t11 w fun t12 w =>
 xBuild Try.prog 69 [(0, t9), (1, t12)] w fun t13 w =>
 xAlloc Try.prog 69 w fun t4 w =>
 xStore Try.prog 69 t4 t13 w fun _ w =>
 xBin Try.prog .and 64 false t0 true (c64 1) w fun t15 w =>
 xBin Try.prog .eql 64 false t15 true (c64 1) w fun t16 w =>
 xIf t16
 (xCall Try.prog (fnv 58) [t0, (.int .i64 32), (.int .i64 16)] w fun t18 w =>
 xConv Try.prog 64 3 t18 w fun t19 w =>
 xBuild Try.prog 69 [(2, (.bool true)), (3, t19)] w fun t20 w =>
 xStore Try.prog 69 t4 t20 w fun _ w =>
 loamref14_Unpack_j1 K t0 t2 t4 w)
 (loamref14_Unpack_j1 K t0 t2 t4 w)
abbrev n_loamref14_Unpack : Nat := 48
def loamref14_Unpack_ann : Ann := { loop := fun i => [], wr := fun i => [], told := fun i => [] }
theorem loamref14_Unpack_eq (t0 : Value) (w : World) (K : K1) : reads Try.prog loamref14_Unpack_ann Try.f48 #[t0] w K = loamref14_Unpack K t0 w := by kernel_rfl
theorem loamref14_Unpack_of {t0 : Value} {w : World} {K : K1} (h : loamref14_Unpack K t0 w) : Yld Try.prog n_loamref14_Unpack #[t0] w K :=
  yld_of mixed loamref14_Unpack_ann Try.func48 (by kernel_rfl) (loamref14_Unpack_eq t0 w K) h

/-! loam/loamlaw14.map1: function 49 -/
def loamlaw14_map1 (K : K1) (t0 : Value) (w : World) : Prop :=
 xIf t0
 (K (c64 1) w)
 (K (c64 0) w)
abbrev n_loamlaw14_map1 : Nat := 49
def loamlaw14_map1_ann : Ann := { loop := fun i => [], wr := fun i => [], told := fun i => [] }
theorem loamlaw14_map1_eq (t0 : Value) (w : World) (K : K1) : reads Try.prog loamlaw14_map1_ann Try.f49 #[t0] w K = loamlaw14_map1 K t0 w := by kernel_rfl
theorem loamlaw14_map1_of {t0 : Value} {w : World} {K : K1} (h : loamlaw14_map1 K t0 w) : Yld Try.prog n_loamlaw14_map1 #[t0] w K :=
  yld_of mixed loamlaw14_map1_ann Try.func49 (by kernel_rfl) (loamlaw14_map1_eq t0 w K) h

/-! (loam/geom.Geom).sectors: function 50 -/
def geom_Geom_sectors (K : K1) (t0 : Value) (w : World) : Prop :=
 xBox Try.prog 23 t0 w fun t1 w =>
 xDraw w.drew fun le H =>
 xDet le (H) (fun w K => xFieldAddr Try.prog 23 t1 2 w K) fun t3 =>
 xDet le (H) (fun w K => xLoad Try.prog 3 t3 w K) fun t4 =>
 xDet le (H) (fun w K => xBin Try.prog .mul 3 false t4 true (.int .i64 8) w K) fun t5 =>
 xDet le (H) (fun w K => xFieldAddr Try.prog 23 t1 0 w K) fun t6 =>
 xDet le (H) (fun w K => xLoad Try.prog 3 t6 w K) fun t7 =>
 xDet le (H) (fun w K => xFieldAddr Try.prog 23 t1 2 w K) fun t9 =>
 xDet le (H) (fun w K => xLoad Try.prog 3 t9 w K) fun t10 =>
 xDet le (H) (fun w K => xCall Try.prog (fnv 59) [t5, t7] w K) fun t8 =>
 xDet le (H) (fun w K => xCall Try.prog (fnv 59) [t10, (.int .i64 32)] w K) fun t11 =>
 xDet le (H) (fun w K => xBin Try.prog .add 3 false t8 false t11 w K) fun t12 =>
 xDet le (H) (fun w K => K t12 w) fun t2 =>
 xEnd (H) fun w =>
 K t2 w
abbrev n_geom_Geom_sectors : Nat := 50
def geom_Geom_sectors_ann : Ann := { loop := fun i => [], wr := fun i => [], told := fun i => bif Nat.beq i 1 then [(0, false, ⟨0, 10, some 3⟩), (1, false, ⟨1, 24, some 4⟩), (2, false, ⟨2, 48, some 5⟩), (3, false, ⟨0, 66, some 6⟩), (4, false, ⟨8, 192, some 7⟩), (6, false, ⟨0, 514, some 9⟩), (7, false, ⟨64, 1536, some 10⟩), (5, false, ⟨20, 416, some 8⟩), (8, false, ⟨160, 3072, some 11⟩), (9, false, ⟨288, 6400, some 12⟩), (10, false, ⟨1023, 4100, some 2⟩)] else [] }
theorem geom_Geom_sectors_eq (t0 : Value) (w : World) (K : K1) : reads Try.prog geom_Geom_sectors_ann Try.f50 #[t0] w K = geom_Geom_sectors K t0 w := by kernel_rfl
theorem geom_Geom_sectors_of {t0 : Value} {w : World} {K : K1} (h : geom_Geom_sectors K t0 w) : Yld Try.prog n_geom_Geom_sectors #[t0] w K :=
  yld_of mixed geom_Geom_sectors_ann Try.func50 (by kernel_rfl) (geom_Geom_sectors_eq t0 w K) h

/-! loam/loamref4.one: function 51 -/
def loamref4_one (K : K1) (t0 : Value) (w : World) : Prop :=
 xBox Try.prog 25 t0 w fun t1 w =>
 xFieldAddr Try.prog 25 t1 0 w fun t4 w =>
 xLoad Try.prog 3 t4 w fun t5 w =>
 xBin Try.prog .quo 3 false t5 true (.int .i64 8) w fun t6 w =>
 xDraw w.drew fun le H =>
 xDet le (H) (fun w K => xFieldAddr Try.prog 25 t1 2 w K) fun t7 =>
 xDet le (H) (fun w K => xLoad Try.prog 3 t7 w K) fun t8 =>
 xDet le (H) (fun w K => K t6 w) fun t9 =>
 xDet le (H) (fun w K => xBin Try.prog .add 3 false t8 false t9 w K) fun t10 =>
 xDet le (H) (fun w K => xBin Try.prog .sub 3 false t10 true (.int .i64 1) w K) fun t11 =>
 xDet le (H) (fun w K => K t6 w) fun t12 =>
 xDet le (H) (fun w K => xBin Try.prog .quo 3 false t11 false t12 w K) fun t13 =>
 xDet le (H) (fun w K => xFieldAddr Try.prog 25 t1 2 w K) fun t14 =>
 xDet le (H) (fun w K => xLoad Try.prog 3 t14 w K) fun t15 =>
 xDet le (H) (fun w K => xBin Try.prog .add 3 false t15 true (.int .i64 31) w K) fun t16 =>
 xDet le (H) (fun w K => xBin Try.prog .quo 3 false t16 true (.int .i64 32) w K) fun t17 =>
 xDet le (H) (fun w K => xBin Try.prog .add 3 false t13 false t17 w K) fun t18 =>
 xDet le (H) (fun w K => K t18 w) fun t2 =>
 xEnd (H) fun w =>
 K t2 w
abbrev n_loamref4_one : Nat := 51
def loamref4_one_ann : Ann := { loop := fun i => [], wr := fun i => [], told := fun i => bif Nat.beq i 2 then [(0, false, ⟨0, 130, some 7⟩), (1, false, ⟨1, 384, some 8⟩), (2, false, ⟨0, 520, some 9⟩), (3, false, ⟨6, 1792, some 10⟩), (4, false, ⟨8, 3072, some 11⟩), (5, false, ⟨0, 4104, some 12⟩), (6, false, ⟨48, 14336, some 13⟩), (7, false, ⟨0, 16386, some 14⟩), (8, false, ⟨128, 49152, some 15⟩), (9, false, ⟨256, 98304, some 16⟩), (10, false, ⟨512, 196608, some 17⟩), (11, false, ⟨1088, 401408, some 18⟩), (12, false, ⟨4095, 262148, some 2⟩)] else [] }
theorem loamref4_one_eq (t0 : Value) (w : World) (K : K1) : reads Try.prog loamref4_one_ann Try.f51 #[t0] w K = loamref4_one K t0 w := by kernel_rfl
theorem loamref4_one_of {t0 : Value} {w : World} {K : K1} (h : loamref4_one K t0 w) : Yld Try.prog n_loamref4_one #[t0] w K :=
  yld_of mixed loamref4_one_ann Try.func51 (by kernel_rfl) (loamref4_one_eq t0 w K) h

/-! (loam/geom.Place).has: function 52 -/
def geom_Place_has (K : K1) (t0 t1 : Value) (w : World) : Prop :=
 xBox Try.prog 34 t0 w fun t2 w =>
 xFieldAddr Try.prog 34 t2 0 w fun t6 w =>
 xLoad Try.prog 3 t6 w fun t7 w =>
 xBin Try.prog .geq 3 false t1 false t7 w fun t8 w =>
 xGuard t8 true (fun w K => K t1 w) w fun t10 w =>
 xGuard t8 true (fun w K => xFieldAddr Try.prog 34 t2 0 w K) w fun t11 w =>
 xGuard t8 true (fun w K => xLoad Try.prog 3 t11 w K) w fun t12 w =>
 xGuard t8 true (fun w K => xFieldAddr Try.prog 34 t2 1 w K) w fun t13 w =>
 xGuard t8 true (fun w K => xLoad Try.prog 3 t13 w K) w fun t14 w =>
 xGuard t8 true (fun w K => xBin Try.prog .add 3 false t12 false t14 w K) w fun t15 w =>
 xGuard t8 true (fun w K => xBin Try.prog .lss 3 false t10 false t15 w K) w fun t16 w =>
 xPick t8 t16 (.bool false) w fun t17 w =>
 K t17 w
abbrev n_geom_Place_has : Nat := 52
def geom_Place_has_ann : Ann := { loop := fun i => [], wr := fun i => [], told := fun i => [] }
theorem geom_Place_has_eq (t0 t1 : Value) (w : World) (K : K1) : reads Try.prog geom_Place_has_ann Try.f52 #[t0, t1] w K = geom_Place_has K t0 t1 w := by kernel_rfl
theorem geom_Place_has_of {t0 t1 : Value} {w : World} {K : K1} (h : geom_Place_has K t0 t1 w) : Yld Try.prog n_geom_Place_has #[t0, t1] w K :=
  yld_of mixed geom_Place_has_ann Try.func52 (by kernel_rfl) (geom_Place_has_eq t0 t1 w K) h

/-! loam/bits.Put: function 53 -/
def bits_Put_l1 (K : K1) (nxt0 : List Value → World → Prop) (t1 t3 t10 t24 t25 : Value) (w : World) : Prop :=
 xBin Try.prog .lss 3 false t25 false t24 w fun t26_1 w =>
 xIf t26_1
 (xBin Try.prog .add 3 false t1 false t25 w fun t31_1 w =>
 xBin Try.prog .mul 3 true (.int .i64 8) false t25 w fun t34_1 w =>
 xBin Try.prog .shr 64 false t3 false t34_1 w fun t35_1 w =>
 xConv Try.prog 64 5 t35_1 w fun t36_1 w =>
 xIndexAddr Try.prog 51 t10 t31_1 w fun t37_1 w =>
 xStore Try.prog 5 t37_1 t36_1 w fun _ w =>
 xBin Try.prog .add 3 false t25 true (.int .i64 1) w fun t38_1 w =>
 nxt0 [t38_1] w)
 (K (.tuple #[t10, (.int .i64 0)]) w)
def bits_Put (K : K1) (t0 t1 t2 t3 : Value) (w : World) : Prop :=
 xBuiltin Try.prog .len #[51] 3 [false] [t0] w fun t15 w =>
 xCall Try.prog (fnv 60) [t1, t2, t15] w fun t16 w =>
 xUn Try.prog .not t16 w fun t17 w =>
 xIf t17
 (K (.tuple #[(.slice none 0 0), (.int .i64 1)]) w)
 (xBuiltin Try.prog .len #[51] 3 [false] [t0] w fun t19 w =>
 xMakeSlice Try.prog 51 t19 t19 w fun t20 w =>
 xBuiltin Try.prog .copy #[51, 51] 3 [false, false] [t20, t0] w fun t23 w =>
 xLoop [(.int .i64 0)] w [25] fun u w nxt0 =>
 bits_Put_l1 K nxt0 t1 t3 t20 t2 (u 25) w)
abbrev n_bits_Put : Nat := 53
def bits_Put_ann : Ann := { loop := fun i => bif Nat.beq i 0 then [25] else [], wr := fun i => bif Nat.beq i 0 then [11, 25, 26, 27, 28, 29, 30, 31, 32, 33, 34, 35, 36, 37, 38] else [], told := fun i => [] }
theorem bits_Put_eq (t0 t1 t2 t3 : Value) (w : World) (K : K1) : reads Try.prog bits_Put_ann Try.f53 #[t0, t1, t2, t3] w K = bits_Put K t0 t1 t2 t3 w := by kernel_rfl
theorem bits_Put_of {t0 t1 t2 t3 : Value} {w : World} {K : K1} (h : bits_Put K t0 t1 t2 t3 w) : Yld Try.prog n_bits_Put #[t0, t1, t2, t3] w K :=
  yld_of mixed bits_Put_ann Try.func53 (by kernel_rfl) (bits_Put_eq t0 t1 t2 t3 w K) h

/-! loam/loamref2.Low: function 54 -/
def loamref2_Low (K : K1) (t0 : Value) (w : World) : Prop :=
 xConv Try.prog 52 5 t0 w fun t4 w =>
 xBin Try.prog .shr 52 false t0 true (c64 8) w fun t6 w =>
 xConv Try.prog 52 5 t6 w fun t7 w =>
 xBin Try.prog .shr 52 false t0 true (c64 16) w fun t9 w =>
 xConv Try.prog 52 5 t9 w fun t10 w =>
 xBin Try.prog .shr 52 false t0 true (c64 24) w fun t12 w =>
 xConv Try.prog 52 5 t12 w fun t13 w =>
 xBuildSlice Try.prog 51 4 [(0, t4), (1, t7), (2, t10), (3, t13)] w fun t14 w =>
 K t14 w
abbrev n_loamref2_Low : Nat := 54
def loamref2_Low_ann : Ann := { loop := fun i => [], wr := fun i => [], told := fun i => [] }
theorem loamref2_Low_eq (t0 : Value) (w : World) (K : K1) : reads Try.prog loamref2_Low_ann Try.f54 #[t0] w K = loamref2_Low K t0 w := by kernel_rfl
theorem loamref2_Low_of {t0 : Value} {w : World} {K : K1} (h : loamref2_Low K t0 w) : Yld Try.prog n_loamref2_Low #[t0] w K :=
  yld_of mixed loamref2_Low_ann Try.func54 (by kernel_rfl) (loamref2_Low_eq t0 w K) h

/-! bytes.Equal: function 55 -/
def bytes_Equal (K : K1) (t0 t1 : Value) (w : World) : Prop :=
 xConv Try.prog 51 9 t0 w fun t6 w =>
 xConv Try.prog 51 9 t1 w fun t8 w =>
 xBin Try.prog .eql 9 false t6 false t8 w fun t9 w =>
 K t9 w
abbrev n_bytes_Equal : Nat := 55
def bytes_Equal_ann : Ann := { loop := fun i => [], wr := fun i => [], told := fun i => [] }
theorem bytes_Equal_eq (t0 t1 : Value) (w : World) (K : K1) : reads Try.prog bytes_Equal_ann Try.f55 #[t0, t1] w K = bytes_Equal K t0 t1 w := by kernel_rfl
theorem bytes_Equal_of {t0 t1 : Value} {w : World} {K : K1} (h : bytes_Equal K t0 t1 w) : Yld Try.prog n_bytes_Equal #[t0, t1] w K :=
  yld_of mixed bytes_Equal_ann Try.func55 (by kernel_rfl) (bytes_Equal_eq t0 t1 w K) h

/-! loam/bits.With: function 56 -/
def bits_With (K : K1) (t0 t1 t2 t3 : Value) (w : World) : Prop :=
 xCall Try.prog (fnv 61) [t1, t2] w fun t14 w =>
 xExtract Try.prog t14 0 w fun t15 w =>
 xExtract Try.prog t14 1 w fun t16 w =>
 xUn Try.prog .not t16 w fun t18 w =>
 xIf t18
 (K t0 w)
 (xBin Try.prog .andNot 64 false t0 false t15 w fun t22 w =>
 xBin Try.prog .shl 64 false t3 false t1 w fun t25 w =>
 xBin Try.prog .and 64 false t25 false t15 w fun t27 w =>
 xBin Try.prog .or 64 false t22 false t27 w fun t28 w =>
 K t28 w)
abbrev n_bits_With : Nat := 56
def bits_With_ann : Ann := { loop := fun i => [], wr := fun i => [], told := fun i => [] }
theorem bits_With_eq (t0 t1 t2 t3 : Value) (w : World) (K : K1) : reads Try.prog bits_With_ann Try.f56 #[t0, t1, t2, t3] w K = bits_With K t0 t1 t2 t3 w := by kernel_rfl
theorem bits_With_of {t0 t1 t2 t3 : Value} {w : World} {K : K1} (h : bits_With K t0 t1 t2 t3 w) : Yld Try.prog n_bits_With #[t0, t1, t2, t3] w K :=
  yld_of mixed bits_With_ann Try.func56 (by kernel_rfl) (bits_With_eq t0 t1 t2 t3 w K) h

/-! loam/bits.Field: function 57 -/
def bits_Field (K : K1) (t0 t1 t2 : Value) (w : World) : Prop :=
 xCall Try.prog (fnv 61) [t1, t2] w fun t12 w =>
 xExtract Try.prog t12 0 w fun t13 w =>
 xExtract Try.prog t12 1 w fun t14 w =>
 xUn Try.prog .not t14 w fun t16 w =>
 xIf t16
 (K (c64 0) w)
 (xBin Try.prog .and 64 false t0 false t13 w fun t19 w =>
 xBin Try.prog .shr 64 false t19 false t1 w fun t21 w =>
 K t21 w)
abbrev n_bits_Field : Nat := 57
def bits_Field_ann : Ann := { loop := fun i => [], wr := fun i => [], told := fun i => [] }
theorem bits_Field_eq (t0 t1 t2 : Value) (w : World) (K : K1) : reads Try.prog bits_Field_ann Try.f57 #[t0, t1, t2] w K = bits_Field K t0 t1 t2 w := by kernel_rfl
theorem bits_Field_of {t0 t1 t2 : Value} {w : World} {K : K1} (h : bits_Field K t0 t1 t2 w) : Yld Try.prog n_bits_Field #[t0, t1, t2] w K :=
  yld_of mixed bits_Field_ann Try.func57 (by kernel_rfl) (bits_Field_eq t0 t1 t2 w K) h

/-! loam/loamref1.Field: function 58 -/
def loamref1_Field (K : K1) (t0 t1 t2 : Value) (w : World) : Prop :=
 xBin Try.prog .lss 3 false t1 true (.int .i64 0) w fun t8 w =>
 xGuard t8 false (fun w K => K t1 w) w fun t10 w =>
 xGuard t8 false (fun w K => xBin Try.prog .gtr 3 false t10 true (.int .i64 63) w K) w fun t11 w =>
 xPick t8 (.bool true) t11 w fun t12 w =>
 xGuard t12 false (fun w K => K t2 w) w fun t14 w =>
 xGuard t12 false (fun w K => xBin Try.prog .lss 3 false t14 true (.int .i64 1) w K) w fun t15 w =>
 xPick t12 (.bool true) t15 w fun t16 w =>
 xGuard t16 false (fun w K => K t2 w) w fun t18 w =>
 xGuard t16 false (fun w K => K t1 w) w fun t19 w =>
 xGuard t16 false (fun w K => xBin Try.prog .sub 3 true (.int .i64 64) false t19 w K) w fun t20 w =>
 xGuard t16 false (fun w K => xBin Try.prog .gtr 3 false t18 false t20 w K) w fun t21 w =>
 xPick t16 (.bool true) t21 w fun t22 w =>
 xIf t22
 (K (c64 0) w)
 (xConv Try.prog 3 59 t1 w fun t25 w =>
 xBin Try.prog .shr 64 false t0 false t25 w fun t26 w =>
 xCall Try.prog (fnv 62) [t2] w fun t28 w =>
 xBin Try.prog .and 64 false t26 false t28 w fun t29 w =>
 K t29 w)
abbrev n_loamref1_Field : Nat := 58
def loamref1_Field_ann : Ann := { loop := fun i => [], wr := fun i => [], told := fun i => [] }
theorem loamref1_Field_eq (t0 t1 t2 : Value) (w : World) (K : K1) : reads Try.prog loamref1_Field_ann Try.f58 #[t0, t1, t2] w K = loamref1_Field K t0 t1 t2 w := by kernel_rfl
theorem loamref1_Field_of {t0 t1 t2 : Value} {w : World} {K : K1} (h : loamref1_Field K t0 t1 t2 w) : Yld Try.prog n_loamref1_Field #[t0, t1, t2] w K :=
  yld_of mixed loamref1_Field_ann Try.func58 (by kernel_rfl) (loamref1_Field_eq t0 t1 t2 w K) h

/-! loam/geom.up: function 59 -/
def geom_up (K : K1) (t0 t1 : Value) (w : World) : Prop :=
 xBin Try.prog .add 3 false t0 false t1 w fun t7 w =>
 xBin Try.prog .sub 3 false t7 true (.int .i64 1) w fun t8 w =>
 xBin Try.prog .quo 3 false t8 false t1 w fun t10 w =>
 K t10 w
abbrev n_geom_up : Nat := 59
def geom_up_ann : Ann := { loop := fun i => [], wr := fun i => [], told := fun i => [] }
theorem geom_up_eq (t0 t1 : Value) (w : World) (K : K1) : reads Try.prog geom_up_ann Try.f59 #[t0, t1] w K = geom_up K t0 t1 w := by kernel_rfl
theorem geom_up_of {t0 t1 : Value} {w : World} {K : K1} (h : geom_up K t0 t1 w) : Yld Try.prog n_geom_up #[t0, t1] w K :=
  yld_of mixed geom_up_ann Try.func59 (by kernel_rfl) (geom_up_eq t0 t1 w K) h

/-! loam/bits.within: function 60 -/
def bits_within (K : K1) (t0 t1 t2 : Value) (w : World) : Prop :=
 xBin Try.prog .geq 3 false t1 true (.int .i64 1) w fun t8 w =>
 xGuard t8 true (fun w K => K t1 w) w fun t10 w =>
 xGuard t8 true (fun w K => xBin Try.prog .leq 3 false t10 true (.int .i64 8) w K) w fun t11 w =>
 xPick t8 t11 (.bool false) w fun t12 w =>
 xGuard t12 true (fun w K => K t0 w) w fun t14 w =>
 xGuard t12 true (fun w K => xBin Try.prog .geq 3 false t14 true (.int .i64 0) w K) w fun t15 w =>
 xPick t12 t15 (.bool false) w fun t16 w =>
 xGuard t16 true (fun w K => K t1 w) w fun t18 w =>
 xGuard t16 true (fun w K => K t2 w) w fun t19 w =>
 xGuard t16 true (fun w K => xBin Try.prog .leq 3 false t18 false t19 w K) w fun t20 w =>
 xPick t16 t20 (.bool false) w fun t21 w =>
 xGuard t21 true (fun w K => K t0 w) w fun t23 w =>
 xGuard t21 true (fun w K => K t2 w) w fun t24 w =>
 xGuard t21 true (fun w K => K t1 w) w fun t25 w =>
 xGuard t21 true (fun w K => xBin Try.prog .sub 3 false t24 false t25 w K) w fun t26 w =>
 xGuard t21 true (fun w K => xBin Try.prog .leq 3 false t23 false t26 w K) w fun t27 w =>
 xPick t21 t27 (.bool false) w fun t28 w =>
 K t28 w
abbrev n_bits_within : Nat := 60
def bits_within_ann : Ann := { loop := fun i => [], wr := fun i => [], told := fun i => [] }
theorem bits_within_eq (t0 t1 t2 : Value) (w : World) (K : K1) : reads Try.prog bits_within_ann Try.f60 #[t0, t1, t2] w K = bits_within K t0 t1 t2 w := by kernel_rfl
theorem bits_within_of {t0 t1 t2 : Value} {w : World} {K : K1} (h : bits_within K t0 t1 t2 w) : Yld Try.prog n_bits_within #[t0, t1, t2] w K :=
  yld_of mixed bits_within_ann Try.func60 (by kernel_rfl) (bits_within_eq t0 t1 t2 w K) h

/-! loam/bits.mask: function 61 -/
def bits_mask (K : K1) (t0 t1 : Value) (w : World) : Prop :=
 xBin Try.prog .lss 3 false t0 true (.int .i64 0) w fun t7 w =>
 xGuard t7 false (fun w K => K t0 w) w fun t9 w =>
 xGuard t7 false (fun w K => xBin Try.prog .geq 3 false t9 true (.int .i64 64) w K) w fun t10 w =>
 xPick t7 (.bool true) t10 w fun t11 w =>
 xGuard t11 false (fun w K => K t1 w) w fun t13 w =>
 xGuard t11 false (fun w K => xBin Try.prog .lss 3 false t13 true (.int .i64 1) w K) w fun t14 w =>
 xPick t11 (.bool true) t14 w fun t15 w =>
 xGuard t15 false (fun w K => K t1 w) w fun t17 w =>
 xGuard t15 false (fun w K => K t0 w) w fun t18 w =>
 xGuard t15 false (fun w K => xBin Try.prog .sub 3 true (.int .i64 64) false t18 w K) w fun t19 w =>
 xGuard t15 false (fun w K => xBin Try.prog .gtr 3 false t17 false t19 w K) w fun t20 w =>
 xPick t15 (.bool true) t20 w fun t21 w =>
 xIf t21
 (K (.tuple #[(c64 0), (.bool false)]) w)
 (xBin Try.prog .sub 3 true (.int .i64 64) false t1 w fun t23 w =>
 xBin Try.prog .shr 64 true (c64 18446744073709551615) false t23 w fun t24 w =>
 xBin Try.prog .shl 64 false t24 false t0 w fun t26 w =>
 K (.tuple #[t26, (.bool true)]) w)
abbrev n_bits_mask : Nat := 61
def bits_mask_ann : Ann := { loop := fun i => [], wr := fun i => [], told := fun i => [] }
theorem bits_mask_eq (t0 t1 : Value) (w : World) (K : K1) : reads Try.prog bits_mask_ann Try.f61 #[t0, t1] w K = bits_mask K t0 t1 w := by kernel_rfl
theorem bits_mask_of {t0 t1 : Value} {w : World} {K : K1} (h : bits_mask K t0 t1 w) : Yld Try.prog n_bits_mask #[t0, t1] w K :=
  yld_of mixed bits_mask_ann Try.func61 (by kernel_rfl) (bits_mask_eq t0 t1 w K) h

/-! loam/loamref1.mask: function 62 -/
def loamref1_mask (K : K1) (t0 : Value) (w : World) : Prop :=
 xBin Try.prog .geq 3 false t0 true (.int .i64 64) w fun t4 w =>
 xIf t4
 (K (c64 18446744073709551615) w)
 (xConv Try.prog 3 59 t0 w fun t6 w =>
 xBin Try.prog .shl 64 true (c64 1) false t6 w fun t7 w =>
 xBin Try.prog .sub 64 false t7 true (c64 1) w fun t8 w =>
 K t8 w)
abbrev n_loamref1_mask : Nat := 62
def loamref1_mask_ann : Ann := { loop := fun i => [], wr := fun i => [], told := fun i => [] }
theorem loamref1_mask_eq (t0 : Value) (w : World) (K : K1) : reads Try.prog loamref1_mask_ann Try.f62 #[t0] w K = loamref1_mask K t0 w := by kernel_rfl
theorem loamref1_mask_of {t0 : Value} {w : World} {K : K1} (h : loamref1_mask K t0 w) : Yld Try.prog n_loamref1_mask #[t0] w K :=
  yld_of mixed loamref1_mask_ann Try.func62 (by kernel_rfl) (loamref1_mask_eq t0 w K) h

end Go.Proofs.Ytohonkbneimkoaa
