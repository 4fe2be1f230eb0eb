/- Chains: what is reached, how many words. The statement GraphChains walked (sq). -/
import Derived.Test.YthhcmoknppljpaaPk1
section
set_option linter.unusedVariables false
set_option linter.unusedSimpArgs false
set_option maxHeartbeats 4000000
namespace Go.Proofs.Ythhcmoknppljpaa
open Go.Sh Go.RowKit

def chP (m i : Nat) : Int := if i + 1 = m then 0 else (i : Int) + 2
def chB (m n : Nat) : List GN := (List.range n).map fun i => ⟨[chP m i], none, 0, [], none, 0⟩
theorem chB_succ (m n : Nat) : chB m (n + 1) = chB m n ++ [⟨[chP m n], none, 0, [], none, 0⟩] := by
  unfold chB
  rw [List.range_succ, List.map_append]
  rfl
theorem chB_len (m n : Nat) : (chB m n).length = n := by simp [chB]
theorem chn_at {ns : List GN} {m n : Nat} (hb : ns.map bare = chB m n) {i : Nat} (h : i < ns.length) : ns[i].p = [chP m i] ∧ ns[i].d = [] := by
  have hl : ns.length = n := by have := congrArg List.length hb; rwa [List.length_map, chB_len] at this
  have h1 : (ns.map bare)[i]'(by simpa using h) = (chB m n)[i]'(by rw [chB_len]; omega) := by simp only [hb]
  rw [List.getElem_map] at h1
  have h2 : (chB m n)[i]'(by rw [chB_len]; omega) = (⟨[chP m i], none, 0, [], none, 0⟩ : GN) := by simp [chB]
  rw [h2] at h1
  exact ⟨congrArg GN.p h1, congrArg GN.d h1⟩
theorem chn_rch {ns : List GN} {m k : Nat} (hb : ns.map bare = chB m m) (h1 : 1 ≤ k) (h2 : k ≤ m) (p : Int) : Rch ns [(k : Int)] p ↔ (k : Int) ≤ p ∧ p ≤ m := by
  have hl : ns.length = m := by have := congrArg List.length hb; rwa [List.length_map, chB_len] at this
  constructor
  · intro h
    induction h with
    | base a b =>
      rw [List.mem_singleton] at a
      subst a
      omega
    | @step j p hj a b c ih =>
      rw [(chn_at hb hj).1, List.mem_singleton] at b
      unfold chP at b
      unfold okNo at c
      split at b <;> omega
  · rintro ⟨a, b⟩
    have : ∀ d : Nat, k + d ≤ m → Rch ns [(k : Int)] ((k + d : Nat) : Int) := by
      intro d
      induction d with
      | zero => exact fun h => .base (by simp) (by unfold okNo; omega)
      | succ d ih =>
        intro h
        have hj : k + d - 1 < ns.length := by omega
        refine .step hj ?_ ?_ (by unfold okNo; omega)
        · have := ih (by omega)
          rwa [show ((k + d - 1 : Nat) : Int) + 1 = ((k + d : Nat) : Int) by omega]
        · rw [(chn_at hb hj).1, List.mem_singleton]
          unfold chP
          rw [if_neg (by omega)]
          omega
    have h := this (p.toNat - k) (by omega)
    rwa [show ((k + (p.toNat - k) : Nat) : Int) = p by omega] at h
def chR (m k : Nat) : List Bool := (List.range m).map fun i => decide (k ≤ i + 1)
theorem chR_len (m k : Nat) : (chR m k).length = m := by simp [chR]
theorem chn_bs {ns : List GN} {m k : Nat} {bs : List Bool} (hb : ns.map bare = chB m m) (h1 : 1 ≤ k) (h2 : k ≤ m) (R : RchOk ns [(k : Int)] bs) : bs = chR m k := by
  have hl : ns.length = m := by have := congrArg List.length hb; rwa [List.length_map, chB_len] at this
  have hlen := R.len
  refine List.ext_getElem (by rw [chR_len]; omega) fun i ha hc => ?_
  rw [Bool.eq_iff_iff, R.iff i ha, chn_rch hb h1 h2]
  simp [chR]
  omega
theorem chR_cnt (m k : Nat) : (chR m k).countP id = m - (k - 1) := by
  induction m with
  | zero => simp [chR]
  | succ m ih =>
    have e : chR (m + 1) k = chR m k ++ [decide (k ≤ m + 1)] := by
      unfold chR
      rw [List.range_succ, List.map_append]
      rfl
    rw [e, List.countP_append, ih]
    by_cases h : k ≤ m + 1
    · simp [h]; omega
    · simp [h]; omega
theorem two_gW : ∀ (l : List GN), (∀ x ∈ l, x.p.length = 1 ∧ x.d.length = 0) → gW l = 2 * l.length
  | [], _ => by simp [gW]
  | x :: l, h => by
    have e : gW (x :: l) = gsz x + gW l := by simp [gW]
    obtain ⟨h1, h2⟩ := h x (by simp)
    rw [e, two_gW l fun y hy => h y (by simp [hy]), List.length_cons]
    unfold gsz
    rw [h1, h2]
    omega
theorem chn_good {ns : List GN} {m : Nat} (hb : ns.map bare = chB m m) : GoodG ns [] := by
  have hl : ns.length = m := by have := congrArg List.length hb; rwa [List.length_map, chB_len] at this
  refine ⟨fun x hx => ?_, by simp, fun r hr => (by cases hr), fun i hi => (by simp at hi)⟩
  obtain ⟨i, hi, rfl⟩ := List.getElem_of_mem hx
  obtain ⟨e1, e2⟩ := chn_at hb hi
  rw [e1, e2]
  refine ⟨fun p hp => ?_, by simp, by simp⟩
  rw [List.mem_singleton] at hp
  subst hp
  unfold chP
  split <;> omega
theorem chn_few {ns : List GN} {m : Nat} (hb : ns.map bare = chB m m) (hm : m ≤ 50) : FewH ns [] := by
  have hl : ns.length = m := by have := congrArg List.length hb; rwa [List.length_map, chB_len] at this
  refine ⟨by omega, by simp, fun x hx => ?_⟩
  obtain ⟨i, hi, rfl⟩ := List.getElem_of_mem hx
  obtain ⟨e1, e2⟩ := chn_at hb hi
  rw [e1, e2]
  simp
theorem chn_trim {ns ns' : List GN} {m k : Nat} (hb : ns.map bare = chB m m) (h1 : 1 ≤ k) (h2 : k ≤ m) (h : ns'.map bare = trNs ns (chR m k)) : ns'.length = m - k + 1 ∧ gW ns' = 2 * (m - k + 1) ∧ GoodG ns' [] := by
  have hl : ns.length = m := by have := congrArg List.length hb; rwa [List.length_map, chB_len] at this
  have hl2 : ns'.length = m - k + 1 := by
    have := congrArg List.length h
    rw [List.length_map] at this
    rw [this]
    refine (sel_len _ _ _ (by rw [chR_len, hl])).trans ?_
    rw [chR_cnt]
    omega
  refine ⟨hl2, ?_, ?_⟩
  · rw [two_gW, hl2]
    intro x hx
    have hm : bare x ∈ trNs ns (chR m k) := by rw [← h]; exact List.mem_map.2 ⟨x, hx, rfl⟩
    obtain ⟨y, hy, e⟩ := sel_mem _ _ _ _ hm
    obtain ⟨i, hi, rfl⟩ := List.getElem_of_mem hy
    obtain ⟨e1, e2⟩ := chn_at hb hi
    have e3 : x.p.length = ns[i].p.length := by
      have := congrArg (fun z => z.p.length) e
      simpa [bare, trN] using this
    have e4 : x.d.length = ns[i].d.length := by
      have := congrArg (fun z => z.d.length) e
      simpa [bare, trN] using this
    rw [e3, e4, e1, e2]
    simp
  · have := trim_good (rs := []) (bs := chR m k) (by rw [chR_len, hl]) (chn_good hb)
    rw [← bare_good, h]
    simpa [trRs] using this
end Go.Proofs.Ythhcmoknppljpaa
end
section
set_option linter.unusedVariables false
set_option linter.unusedSimpArgs false
set_option maxHeartbeats 4000000
namespace Go.Proofs.Ythhcmoknppljpaa
open Go.Sh Go.RowKit

theorem nodes_app {w w5 : World} {hx : Nat} {v v' : Value} {ns : List GN} {x : GN} (A : ∀ y ∈ ns, NOk w y ∧ Apt (hx :: blk v) y) (hk : NOk w x) (ha : Apt (hx :: blk v) x) (T : Stp (blk v) (blk v') w w5) {w6 : World} (F6 : Ext [hx] w5 w6) : ∀ y ∈ ns ++ [x], NOk w6 y ∧ Apt (hx :: blk v') y := by
  intro p hp
  have hA : NOk w p ∧ Apt (hx :: blk v) p := by
    rcases List.mem_append.1 hp with hp | hp
    · exact A p hp
    · rw [List.mem_singleton] at hp
      subst hp
      exact ⟨hk, ha⟩
  have hA2 := hA.1.ext (T.ext.more (fun z hz => List.mem_cons_of_mem hx hz)) hA.2
  have hA3 : Apt (hx :: blk v') p := hA.2.more hA.1 fun b hb => by
    rcases List.mem_cons.1 hb with e | e
    · exact .inl (by rw [e]; exact List.mem_cons_self ..)
    · exact (T.at' b e).imp (List.mem_cons_of_mem _) id
  exact ⟨hA2.ext (F6.more (by simp)) hA3, hA3⟩
abbrev rsChn1_0 := (And.intro @xu8_add (And.intro @xu16_add (And.intro @xu32_add (And.intro @xu64_add (And.intro @ld_22 (And.intro @ld_53 (And.intro @fa_25_0 (And.intro @st_22 (And.intro @bs_22_1 @bs_22_3)))))))))
theorem chn_join {q w : World} {hx hn hr j : Nat} {v : Value} {ns : List GN} {p : Int} {K : K1} {nxt : List Value → World → Prop} (F : Ext [hx] q w) (hlt : hx < q.heap.size) (O : OwnGN w v ns) (B : Blk w hx 25 [v, .slice none 0 0]) (U : ∀ z ∈ blk v, q.heap.size ≤ z) (A : ∀ x ∈ ns, NOk w x ∧ Apt (hx :: blk v) x)
    (BN : Blk w hn 53 [.slice (some ⟨hr, 0, none⟩) 1 1, .slice none 0 0]) (BR : Blk w hr 3 [i64 p]) (hne : hr ∉ hx :: blk v) (hl : ns.length ≤ 1000) (hjl : j ≤ 1000)
    (hnx : ∀ v' w', Ext [hx] q w' → OwnGN w' v' (ns ++ [⟨[p], some ⟨hr, 0, none⟩, 1, [], none, 0⟩]) → Blk w' hx 25 [v', .slice none 0 0] → (∀ z ∈ blk v', q.heap.size ≤ z) → (∀ x ∈ ns ++ [(⟨[p], some ⟨hr, 0, none⟩, 1, [], none, 0⟩ : GN)], NOk w' x ∧ Apt (hx :: blk v') x) → nxt [i64 ((j : Int) + 1)] w') :
    loamlaw17_GraphChains_j1 K nxt (ptr hx) (i64 (j : Int)) (ptr hn) w := by
  unfold loamlaw17_GraphChains_j1
  obtain ⟨a0, c0, hv0, _⟩ := O.slice
  subst hv0
  have k1 := fun i => B.cell (i := i)
  have k2 := fun i => BN.cell (i := i)
  simp (disch := (first | omega | decide | (simp only [rsD] <;> omega) | fail)) only [↓rsC, rsK, rsL, ↓rsChn1_0, tick_eq, tickV_eq, ne_eq, Int.reduceAdd, Int.reduceSub, Int.reduceMul, Int.reduceEq, Int.reduceLT, Int.reduceLE, Int.reduceToNat, Nat.reduceMul, Nat.reduceAdd, Nat.reduceSub, ←decide_not, k1, k2]
  have hk : NOk w (⟨[p], some ⟨hr, 0, none⟩, 1, [], none, 0⟩ : GN) := ⟨BR.row, Nat.le_refl _, fun e => (by cases e), .nil, Nat.le_refl _, fun _ => rfl⟩
  have ha : Apt (hx :: blk (.slice a0 ns.length c0)) (⟨[p], some ⟨hr, 0, none⟩, 1, [], none, 0⟩ : GN) := ⟨fun y hy _ hm => by cases hy; exact hne hm, fun y hy => by cases hy⟩
  refine appGN O (x := ⟨[p], some ⟨hr, 0, none⟩, 1, [], none, 0⟩) rfl (by omega) fun v' x5 O5 T5 => ?_
  obtain ⟨F5, U5, n1, n2⟩ := grow F U hlt T5
  have B5 := B.ext T5.ext n1
  have A5 := fun {w6 : World} (F6 : Ext [hx] x5 w6) => nodes_app A hk ha T5 F6
  obtain ⟨a3, c3, hv3, _⟩ := O5.slice
  have k5 := fun i => B5.cell (i := i)
  have f5 := fun i => B5.frozen (i := i)
  subst hv3
  simp (disch := (first | omega | decide | (simp only [rsD] <;> omega) | fail)) only [↓rsC, rsK, rsL, ↓rsChn1_0, tick_eq, tickV_eq, ne_eq, Int.reduceAdd, Int.reduceSub, Int.reduceMul, Int.reduceEq, Int.reduceLT, Int.reduceLE, Int.reduceToNat, Nat.reduceMul, Nat.reduceAdd, Nat.reduceSub, ←decide_not, k1, k2, k5, f5]
  have B6 := B5.set (i := 0) (v := .slice a3 (ns ++ [(⟨[p], some ⟨hr, 0, none⟩, 1, [], none, 0⟩ : GN)]).length c3)
  have O6 := O5.ext (Ext.set (w := x5) (b := hx) (o := 0) (v := .slice a3 (ns ++ [(⟨[p], some ⟨hr, 0, none⟩, 1, [], none, 0⟩ : GN)]).length c3)) (fun z hz hm => by simp only [List.mem_singleton] at hm; subst hm; exact n2 hz)
  exact hnx _ _ (F5.set' (.inl (by simp))) O6 B6 U5 (A5 Ext.set)
abbrev rsChn1_1 := (And.intro @xu8_add (And.intro @xu8_sub (And.intro @xu8_mul (And.intro @xu8_eql (And.intro @xu8_neq (And.intro @xu8_lss (And.intro @xu8_leq (And.intro @xu8_gtr (And.intro @xu8_geq (And.intro @xu16_add (And.intro @xu16_sub (And.intro @xu16_mul (And.intro @xu16_eql (And.intro @xu16_neq (And.intro @xu16_lss (And.intro @xu16_leq 
  (And.intro @xu16_gtr (And.intro @xu16_geq (And.intro @xu32_add (And.intro @xu32_sub (And.intro @xu32_mul (And.intro @xu32_eql (And.intro @xu32_neq (And.intro @xu32_lss (And.intro @xu32_leq (And.intro @xu32_gtr (And.intro @xu32_geq (And.intro @xu64_add (And.intro @xu64_sub (And.intro @xu64_mul (And.intro @xu64_eql (And.intro @xu64_neq (And.intro @xu64_lss 
  (And.intro @xu64_leq (And.intro @xu64_gtr (And.intro @xu64_geq (And.intro @xi64_lss (And.intro @xi64_leq (And.intro @xi64_gtr (And.intro @xi64_geq (And.intro @xi64_eql (And.intro @xi64_neq (And.intro @xi64_neg (And.intro @ld_3 (And.intro @ld_4 (And.intro @ld_22 (And.intro @ld_25 (And.intro @ld_26 (And.intro @fa_25_0 (And.intro @fa_53_0 (And.intro @al_25 
  (And.intro @al_53 (And.intro @st_3 (And.intro @st_25 (And.intro @st_53 (And.intro @bd_53_0 (And.intro @bd_53_0_1 (And.intro @bd_53_1 (And.intro @bd_53 (And.intro @eb_4 (And.intro @nb_4 (And.intro @ia_26 (And.intro @ia_37 (And.intro @ln_22 (And.intro @ln_37 (And.intro @bs_26_0 @bs_26_1))))))))))))))))))))))))))))))))))))))))))))))))))))))))))))))))))
theorem chains_spec {m k : Nat} (hm : m ≤ 50) (h1 : 1 ≤ k) (h2 : k ≤ m) {w0 q : World} {hx : Nat} (F0 : Ext [] w0 q) (B0 : Blk q hx 25 [.slice none 0 0, .slice none 0 0]) (hw : w0.heap.size ≤ hx) :
    xLoop [i64 1] q [8] fun u w nxt0 => loamlaw17_GraphChains_l1 (fun u w' => u = .bool true ∧ Ext [] w0 w') nxt0 (i64 (m : Int)) (i64 (k : Int)) (ptr hx) (u 8) w := by
  have hlt := B0.lt
  have fresh : ∀ {w' : World}, Ext [hx] q w' → Ext [] w0 w' := fun F => F0.new F (fun z hz => by simp only [List.mem_singleton] at hz; omega)
  refine xLoop_n m (fun j => [i64 ((j : Int) + 1)]) (fun j w' => Ext [hx] q w' ∧ ∃ v ns, ns.map bare = chB m j ∧ OwnGN w' v ns ∧ Blk w' hx 25 [v, .slice none 0 0] ∧ (∀ z ∈ blk v, q.heap.size ≤ z) ∧ ∀ x ∈ ns, NOk w' x ∧ Apt (hx :: blk v) x) rfl ⟨Ext.refl _ _, .slice none 0 0, [], rfl, Own.nil, B0, by simp [blk, Value.ownBlock], by simp⟩ ?_ ?_
  · rintro j hj u x1 hu ⟨F, v, ns, hns, O, B, U, A⟩ nxt hnx
    simp only [List.map_cons, List.map_nil, List.cons.injEq, and_true] at hu
    rw [hu]
    have hnl : ns.length = j := by have := congrArg List.length hns; rwa [List.length_map, chB_len] at this
    have ej : ((j + 1 : Nat) : Int) = (j : Int) + 1 := by omega
    have hjm : (j : Int) + 1 ≤ (m : Int) := by omega
    unfold loamlaw17_GraphChains_l1
    have al2 : ∀ {o1 o2 : Obj}, Ext [] x1 ((x1.alloc o1).alloc o2) := (Ext.alloc _ _ _).trans (Ext.alloc _ _ _)
    have hvl := O.lt
    have hxl := B.lt
    have hne : x1.heap.size ∉ hx :: blk v := fun h => by
      rcases List.mem_cons.1 h with e | e
      · omega
      · have := hvl _ e; omega
    by_cases hlast : (j : Int) + 1 = (m : Int)
    · simp (disch := (first | omega | decide | (simp only [rsD] <;> omega) | fail)) only [↓rsC, rsK, rsL, ↓rsChn1_1, tick_eq, tickV_eq, ne_eq, Int.reduceAdd, Int.reduceSub, Int.reduceMul, Int.reduceEq, Int.reduceLT, Int.reduceLE, Int.reduceToNat, Nat.reduceMul, Nat.reduceAdd, Nat.reduceSub, ←decide_not, eq_self]
      rw [← ej]
      refine chn_join (ns := ns) (v := v) (hr := x1.heap.size) (p := 0) (F.trans (al2.more (by simp))) hlt (O.ext0 al2) (B.ext al2 (by simp)) U (fun x hx' => ⟨(A x hx').1.ext0 al2, (A x hx').2⟩) ?_ ?_ hne (by omega) (by omega) fun v' w' F' O' B' U' A' => ?_
      · exact Blk.at (by simp only [World.size_alloc])
      · exact (Blk.at (cs := [i64 (0)]) rfl).ext (Ext.alloc [] _ _) (by simp)
      · exact hnx w' ⟨F', v', _, by
          rw [List.map_append, hns, chB_succ]
          have : chP m j = 0 := by unfold chP; rw [if_pos (by omega)]
          rw [this]
          rfl, O', B', U', A'⟩
    · simp (disch := (first | omega | decide | (simp only [rsD] <;> omega) | fail)) only [↓rsC, rsK, rsL, ↓rsChn1_1, tick_eq, tickV_eq, ne_eq, Int.reduceAdd, Int.reduceSub, Int.reduceMul, Int.reduceEq, Int.reduceLT, Int.reduceLE, Int.reduceToNat, Nat.reduceMul, Nat.reduceAdd, Nat.reduceSub, ←decide_not, eq_self]
      rw [← ej]
      refine chn_join (ns := ns) (v := v) (hr := x1.heap.size) (p := ((j + 1 : Nat) : Int) + 1) (F.trans (al2.more (by simp))) hlt (O.ext0 al2) (B.ext al2 (by simp)) U (fun x hx' => ⟨(A x hx').1.ext0 al2, (A x hx').2⟩) ?_ ?_ hne (by omega) (by omega) fun v' w' F' O' B' U' A' => ?_
      · exact Blk.at (by simp only [World.size_alloc])
      · exact (Blk.at (cs := [i64 (((j + 1 : Nat) : Int) + 1)]) rfl).ext (Ext.alloc [] _ _) (by simp)
      · exact hnx w' ⟨F', v', _, by
          rw [List.map_append, hns, chB_succ]
          have : chP m j = ((j + 1 : Nat) : Int) + 1 := by unfold chP; rw [if_neg (by omega)]; omega
          rw [this]
          rfl, O', B', U', A'⟩
  · rintro u x1 hu ⟨F, v, ns, hns, O, B, U, A⟩ nxt
    simp only [List.map_cons, List.map_nil, List.cons.injEq, and_true] at hu
    rw [hu]
    have hjm : ¬ ((m : Int) + 1 ≤ (m : Int)) := by omega
    obtain ⟨a0, c0, hv0, _⟩ := O.slice
    subst hv0
    have k1 := fun i => B.cell (i := i)
    unfold loamlaw17_GraphChains_l1
    simp (disch := (first | omega | decide | (simp only [rsD] <;> omega) | fail)) only [↓rsC, rsK, rsL, ↓rsChn1_1, tick_eq, tickV_eq, ne_eq, Int.reduceAdd, Int.reduceSub, Int.reduceMul, Int.reduceEq, Int.reduceLT, Int.reduceLE, Int.reduceToNat, Nat.reduceMul, Nat.reduceAdd, Nat.reduceSub, ←decide_not, k1]
    have hcb := chn_few hns hm
    have hcg := chn_good hns
    obtain ⟨rl, rr, rn⟩ := (O.slice).elim fun a h => h.elim fun c h => (by obtain ⟨e, h1, _, h3, h4, _⟩ := h; cases e; exact ⟨h1, h4, h3⟩ : ns.length ≤ c0 ∧ RowAt x1 a0 (ns.flatMap gnC) ∧ (a0 = none → c0 = 0))
    have G : GIs x1 a0 c0 none 0 ns [] := ⟨rr, rl, rn, .nil, Nat.le_refl _, fun _ => rfl, fun x hx' => (A x hx').1⟩
    have hnl : ns.length = m := by have := congrArg List.length hns; rwa [List.length_map, chB_len] at this
    have B2 : Blk (x1.alloc (.cells #[i64 (k : Int)] 3)) x1.heap.size 3 [i64 (k : Int)] := Blk.at rfl
    have X2 : Ext [] x1 (x1.alloc (.cells #[i64 (k : Int)] 3)) := Ext.alloc _ _ _
    generalize x1.alloc (.cells #[i64 (k : Int)] 3) = x2 at *
    generalize x1.heap.size = g2 at *
    refine graph_Reach_call (Yld.mono (Reach_spec (fr := [(k : Int)]) (G.ext0 X2) hcb B2.row (fun e => (by cases e)) (by simp)) ?_)
    rintro u x3 ⟨bs, hbs, N3⟩
    obtain rfl := chn_bs hns h1 h2 hbs
    obtain ⟨r3, k3, rfl, _, _, _, R3, _⟩ := N3.2.1.slice
    have X13 := X2.trans N3.1
    have kb3 := fun i => (B.ext X13 (by simp)).cell (i := i)
    simp (disch := (first | omega | decide | (simp only [rsD] <;> omega) | fail)) only [↓rsC, rsK, rsL, ↓rsChn1_1, tick_eq, tickV_eq, ne_eq, Int.reduceAdd, Int.reduceSub, Int.reduceMul, Int.reduceEq, Int.reduceLT, Int.reduceLE, Int.reduceToNat, Nat.reduceMul, Nat.reduceAdd, Nat.reduceSub, ←decide_not, k1, kb3]
    have B4 : Blk (x3.alloc (.cells #[i64 (k : Int)] 3)) x3.heap.size 3 [i64 (k : Int)] := Blk.at rfl
    have X4 : Ext [] x3 (x3.alloc (.cells #[i64 (k : Int)] 3)) := Ext.alloc _ _ _
    generalize x3.alloc (.cells #[i64 (k : Int)] 3) = x4 at *
    generalize x3.heap.size = g4 at *
    have X14 := X13.trans X4
    refine graph_Trim_call (Yld.mono (Trim_spec (keep := [(k : Int)]) (G.ext0 X14) hcb B4.row (Nat.le_refl _) (fun e => (by cases e)) (by simp)) ?_)
    rintro u x5 ⟨F5, bs, na', nc', ra', rc', ns', v, hbs5, hns5, rfl, G5, av, cv, rfl, hcv, R5⟩
    obtain rfl := chn_bs hns h1 h2 hbs5
    obtain ⟨hl5, hw5, hg5⟩ := chn_trim hns h1 h2 hns5
    have hf5 : FewH ns' [] := by
      have := trim_few hbs5 hcb hns5
      simpa [trRs] using this
    have ers : trRs [] (chR m k) = [] := rfl
    rw [ers] at G5 ⊢
    rw [chR_len] at *
    have e5 : ((ns'.length : Nat) : Int) = (m : Int) - (k : Int) + 1 := by omega
    simp (disch := (first | omega | decide | (simp only [rsD] <;> omega) | fail)) only [↓rsC, rsK, rsL, ↓rsChn1_1, tick_eq, tickV_eq, ne_eq, Int.reduceAdd, Int.reduceSub, Int.reduceMul, Int.reduceEq, Int.reduceLT, Int.reduceLE, Int.reduceToNat, Nat.reduceMul, Nat.reduceAdd, Nat.reduceSub, ←decide_not, k1, kb3]
    have X6 : Ext [] x5 (x5.alloc (.cells #[.slice na' ns'.length nc', .slice ra' ([] : List GR).length rc'] 25)) := Ext.alloc _ _ _
    generalize x5.alloc (.cells #[.slice na' ns'.length nc', .slice ra' ([] : List GR).length rc'] 25) = x6 at *
    have hW := gwords_spec (G5.ext0 X6) hf5 hg5
    have ew : ((2 * (m - k + 1) : Nat) : Int) = 2 * ((m : Int) - (k : Int) + 1) := by omega
    rw [hw5, ew] at hW
    refine graph_Words_call (Gives.to hW fun x7 F7 => ?_)
    simp (disch := (first | omega | decide | (simp only [rsD] <;> omega) | fail)) only [↓rsC, rsK, rsL, ↓rsChn1_1, tick_eq, tickV_eq, ne_eq, Int.reduceAdd, Int.reduceSub, Int.reduceMul, Int.reduceEq, Int.reduceLT, Int.reduceLE, Int.reduceToNat, Nat.reduceMul, Nat.reduceAdd, Nat.reduceSub, ←decide_not, k1, kb3]
    have X57 := X6.trans F7
    have Xq := (fresh F).trans (X14.trans (F5.trans X57))
    have R3' := R3.ext0 (X4.trans (F5.trans X57))
    have R5' := R5.ext0 X57
    have hbl : (bls (chR m k)).length = m := by simp [bls, chR]
    have hnl' : (noL (chR m k)).length = m := by simp [noL, chR]
    refine xLoop_n m (fun j => [i64 (j : Int)]) (fun j w' => Ext [] x7 w') rfl (Ext.refl _ _) ?_ ?_
    · rintro j hj u y1 hu Fy nxt hnx
      simp only [List.map_cons, List.map_nil, List.cons.injEq, and_true] at hu
      rw [hu]
      have Ed := Fy.trans (Ext.drew [] y1)
      obtain ⟨b1, o1, rfl, _, c1⟩ := (R3'.ext0 Ed).at (i := j) (by omega)
      obtain ⟨b2, o2, rfl, _, c2⟩ := its_at (R5'.ext0 Ed) (k := j) (by omega)
      have e1 : (bls (chR m k))[j]'(by omega) = .bool (decide (k ≤ j + 1)) := by simp [bls, chR]
      have e2 : (noL (chR m k))[j]'(by omega) = noB (chR m k) j := by simp [noL]
      rw [e1] at c1
      rw [e2] at c2
      have hjm : (j : Int) < (m : Int) := by omega
      unfold loamlaw17_GraphChains_l2
      by_cases hkj : k ≤ j + 1
      · have hkj' : (j : Int) + 1 ≥ (k : Int) := by omega
        have hb : (chR m k).getD j false = true := by rw [getD_at (by rw [chR_len]; exact hj)]; simp [chR, hkj]
        have en : noB (chR m k) j = (rk (chR m k) j : Int) + 1 := by unfold noB; rw [hb, if_pos rfl]
        rw [en] at c2
        rw [decide_eq_true hkj] at c1
        have hpos : (rk (chR m k) j : Int) + 1 > 0 := by omega
        simp (disch := (first | omega | decide | (simp only [rsD] <;> omega) | fail)) only [↓rsC, rsK, rsL, ↓rsChn1_1, tick_eq, tickV_eq, ne_eq, Int.reduceAdd, Int.reduceSub, Int.reduceMul, Int.reduceEq, Int.reduceLT, Int.reduceLE, Int.reduceToNat, Nat.reduceMul, Nat.reduceAdd, Nat.reduceSub, ←decide_not, k1, kb3, c1, c2]
        exact hnx _ Ed
      · have hkj' : ¬ (j : Int) + 1 ≥ (k : Int) := by omega
        have hb : (chR m k).getD j false = false := by rw [getD_at (by rw [chR_len]; exact hj)]; simp [chR, hkj]
        have en : noB (chR m k) j = 0 := by unfold noB; rw [hb]; rfl
        rw [en] at c2
        rw [decide_eq_false hkj] at c1
        simp (disch := (first | omega | decide | (simp only [rsD] <;> omega) | fail)) only [↓rsC, rsK, rsL, ↓rsChn1_1, tick_eq, tickV_eq, ne_eq, Int.reduceAdd, Int.reduceSub, Int.reduceMul, Int.reduceEq, Int.reduceLT, Int.reduceLE, Int.reduceToNat, Nat.reduceMul, Nat.reduceAdd, Nat.reduceSub, ←decide_not, k1, kb3, c1, c2]
        exact hnx _ Ed
    · rintro u y1 hu Fy nxt
      simp only [List.map_cons, List.map_nil, List.cons.injEq, and_true] at hu
      rw [hu]
      unfold loamlaw17_GraphChains_l2
      simp (disch := (first | omega | decide | (simp only [rsD] <;> omega) | fail)) only [↓rsC, rsK, rsL, ↓rsChn1_1, tick_eq, tickV_eq, ne_eq, Int.reduceAdd, Int.reduceSub, Int.reduceMul, Int.reduceEq, Int.reduceLT, Int.reduceLE, Int.reduceToNat, Nat.reduceMul, Nat.reduceAdd, Nat.reduceSub, ←decide_not, k1, kb3]
      exact ⟨trivial, Xq.trans Fy⟩
abbrev rsChn1_2 := (And.intro @xu8_add (And.intro @xu8_rem (And.intro @xu8_com (And.intro @xu16_add (And.intro @xu16_rem (And.intro @xu16_com (And.intro @xu32_add (And.intro @xu32_rem (And.intro @xu32_com (And.intro @xu64_add (And.intro @xu64_rem (And.intro @xu64_com (And.intro @al_25 (And.intro @st_25 (And.intro @bd_25_0_1 (And.intro @bd_25_0 
  (And.intro @bd_25 @cv_5_3)))))))))))))))))
theorem GraphChains_spec (a b : Int) (ha : 0 ≤ a ∧ a ≤ 255) (hb : 0 ≤ b ∧ b ≤ 255) (w : World) : Gives Try.prog n_loamlaw17_GraphChains #[.int .u8 a, .int .u8 b] w (.bool true) := by
  obtain ⟨x, rfl⟩ : ∃ x : BitVec 8, a = (x.toNat : Int) := ⟨BitVec.ofNat 8 a.toNat, by rw [BitVec.toNat_ofNat]; omega⟩
  obtain ⟨y, rfl⟩ : ∃ y : BitVec 8, b = (y.toNat : Int) := ⟨BitVec.ofNat 8 b.toNat, by rw [BitVec.toNat_ofNat]; omega⟩
  refine loamlaw17_GraphChains_of ?_
  unfold loamlaw17_GraphChains
  simp (disch := (first | omega | decide | (simp only [rsD] <;> omega) | fail)) only [↓rsC, rsK, rsL, ↓rsChn1_2, tick_eq, tickV_eq, ne_eq, Int.reduceAdd, Int.reduceSub, Int.reduceMul, Int.reduceEq, Int.reduceLT, Int.reduceLE, Int.reduceToNat, Nat.reduceMul, Nat.reduceAdd, Nat.reduceSub, ←decide_not, eq_self]
  refine loamlaw17_known_call (Gives.to (known17_spec w) fun y1 X1 => ?_)
  simp (disch := (first | omega | decide | (simp only [rsD] <;> omega) | fail)) only [↓rsC, rsK, rsL, ↓rsChn1_2, tick_eq, tickV_eq, ne_eq, Int.reduceAdd, Int.reduceSub, Int.reduceMul, Int.reduceEq, Int.reduceLT, Int.reduceLE, Int.reduceToNat, Nat.reduceMul, Nat.reduceAdd, Nat.reduceSub, ←decide_not, eq_self]
  have e1 : 1 + ((x % 50#8).toNat : Int) = ((1 + x.toNat % 50 : Nat) : Int) := by
    rw [BitVec.toNat_umod]
    simp
  rw [e1]
  have hm : 1 + x.toNat % 50 ≤ 50 := by omega
  have hm0 : 0 < 1 + x.toNat % 50 := by omega
  generalize 1 + x.toNat % 50 = m at *
  have e2 : ((y.toNat : Int) % (m : Int)) = ((y.toNat % m : Nat) : Int) := by simp
  have hk : y.toNat % m < m := Nat.mod_lt _ hm0
  rw [e2]
  generalize y.toNat % m = k at *
  have e3 : 1 + (k : Int) = ((1 + k : Nat) : Int) := by omega
  simp (disch := (first | omega | decide | (simp only [rsD] <;> omega) | fail)) only [↓rsC, rsK, rsL, ↓rsChn1_2, tick_eq, tickV_eq, ne_eq, Int.reduceAdd, Int.reduceSub, Int.reduceMul, Int.reduceEq, Int.reduceLT, Int.reduceLE, Int.reduceToNat, Nat.reduceMul, Nat.reduceAdd, Nat.reduceSub, ←decide_not, eq_self]
  rw [e3]
  have X2 : Ext [] y1 (y1.alloc (.cells #[.slice none 0 0, .slice none 0 0] 25)) := Ext.alloc _ _ _
  exact chains_spec hm (by omega) (by omega) (X1.trans X2) (Blk.at rfl) X1.size
end Go.Proofs.Ythhcmoknppljpaa
end
