/- What a graph's words are, word by word; in them nothing is wrong. The statement on the images of graphs, walked (sq). -/
import Derived.Test.YtdpmidgeipibbaaPk2
section
set_option linter.unusedVariables false
set_option linter.unusedSimpArgs false
set_option maxHeartbeats 4000000
namespace Go.Proofs.Ytdpmidgeipibbaa
open Go.Sh Go.RowKit

theorem flat_at {α β : Type} (l : List α) (f : α → List β) {i k m : Nat} (hi : i < l.length) (hk : k < (f l[i]).length) (hm : ((l.take i).flatMap f).length = m) : (l.flatMap f)[m + k]? = (f l[i])[k]? := by
  have e : l = l.take i ++ l[i] :: l.drop (i + 1) := by rw [List.getElem_cons_drop, List.take_append_drop]
  have e2 : l.flatMap f = (l.take i).flatMap f ++ (f l[i] ++ (l.drop (i + 1)).flatMap f) := by
    conv => lhs; rw [e]
    rw [List.flatMap_append, List.flatMap_cons]
  rw [e2, List.getElem?_append_right (by omega), show m + k - ((l.take i).flatMap f).length = k by omega, List.getElem?_append_left hk]
theorem orV_bit (l : List (BitVec 8)) (a : Nat) : ∀ (k b : Nat), k ≤ 8 → (orV l a k).getLsbD b = (decide (b < 8 * k) && (l.getD (a + b / 8) (BitVec.ofNat 8 0)).getLsbD (b % 8))
  | 0, b, _ => by simp [orV]
  | k + 1, b, hk => by
    rw [orV, BitVec.getLsbD_or, orV_bit l a k b (by omega), BitVec.getLsbD_shiftLeft, BitVec.getLsbD_setWidth]
    by_cases h1 : b < 8 * k
    · have h2 : b < 8 * (k + 1) := by omega
      simp [h1, h2]
    · by_cases h2 : b < 8 * (k + 1)
      · have e1 : b / 8 = k := by omega
        have e2 : b - 8 * k = b % 8 := by omega
        have h3 : b < 64 := by omega
        have h4 : b % 8 < 64 := by omega
        simp [h1, h2, e1, e2, h3, h4]
      · have h5 : 8 ≤ b - 8 * k := by omega
        simp [h1, h2]
        intro _
        rw [BitVec.getLsbD_of_ge _ _ h5]
        simp
theorem wordV_bit (l : List (BitVec 8)) (i b : Nat) (hb : b < 64) : (wordV l i).getLsbD b = (l.getD (8 * i + b / 8) (BitVec.ofNat 8 0)).getLsbD (b % 8) := by
  unfold wordV
  rw [orV_bit _ _ _ _ (by omega)]
  by_cases h : b < 8 * min 8 (l.length - 8 * i)
  · rw [decide_eq_true h, Bool.true_and]
  · rw [decide_eq_false h, Bool.false_and]
    have : l.length ≤ 8 * i + b / 8 := by omega
    rw [List.getD_eq_getElem?_getD, List.getElem?_eq_none this]
    simp
theorem wordV_byte (l : List (BitVec 8)) (i r : Nat) (hr : r < 8) : (wordV l i >>> (8 * r)).setWidth 8 = l.getD (8 * i + r) (BitVec.ofNat 8 0) := by
  apply BitVec.eq_of_getLsbD_eq
  intro k hk
  rw [BitVec.getLsbD_setWidth, decide_eq_true hk, Bool.true_and, BitVec.getLsbD_ushiftRight, wordV_bit _ _ _ (by omega), show (8 * r + k) / 8 = r by omega, show (8 * r + k) % 8 = k by omega]
theorem wordV_pad (l : List (BitVec 8)) (h : l.length % 8 ≠ 0) : wordV l ((l.length + 7) / 8 - 1) >>> (8 * (l.length % 8)) = 0#64 := by
  apply BitVec.eq_of_getLsbD_eq
  intro k hk
  rw [BitVec.getLsbD_ushiftRight]
  by_cases h2 : 8 * (l.length % 8) + k < 64
  · rw [wordV_bit _ _ _ h2, List.getD_eq_getElem?_getD, List.getElem?_eq_none (by omega)]
    simp
  · rw [BitVec.getLsbD_of_ge _ _ (by omega)]
    simp
theorem wordsV_at (l : List (BitVec 8)) {i : Nat} (h : i < (l.length + 7) / 8) : (wordsV l)[i]? = some (wordV l i) := by
  unfold wordsV
  rw [List.getElem?_map, List.getElem?_range h]
  rfl
theorem cut_fill (n : Nat) : ∀ s : List (BitVec 8), z8 ∉ s → cutN (s ++ List.replicate n z8) = s
  | [], _ => by
    cases n with
    | zero => rfl
    | succ n => rw [List.nil_append, List.replicate_succ]; unfold cutN; rw [List.takeWhile_cons, if_neg (by simp)]
  | c :: s, h => by
    have h1 : c ≠ z8 := fun e => h (e ▸ List.mem_cons_self ..)
    have ih := cut_fill n s fun h2 => h (List.mem_cons_of_mem _ h2)
    unfold cutN at ih ⊢
    rw [List.cons_append, List.takeWhile_cons, if_pos (decide_eq_true h1), ih]
theorem cut_pad {s : List (BitVec 8)} (h : z8 ∉ s) : cutN (padS s) = s := cut_fill _ s h
theorem strOf_list (s : List (BitVec 8)) : (strOf s).toList = s.map UInt8.ofBitVec := by
  rw [ByteArray.toList_eq]
  simp [strOf]
section
variable {ns : List GN} {rs : List GR}
abbrev plE (ns : List GN) (rs : List GR) : List Nat := plL ns rs.length ns.length
theorem wat_some {l : List (BitVec 64)} {i : Nat} {x : BitVec 64} (h : l[i]? = some x) : wat l i = x := by
  unfold wat
  rw [List.getD_eq_getElem?_getD, h]
  rfl
theorem enc_root (hs : ∀ r ∈ rs, r.s.length ≤ 32) {i k : Nat} (hi : i < rs.length) (hk : k < 5) : (encW ns rs)[2 + 5 * i + k]? = (rtW (plE ns rs) rs[i])[k]? := by
  have hl : ((rs.take i).flatMap (rtW (plE ns rs))).length = 5 * i := by
    rw [rts_len fun r hr => hs r (List.mem_of_mem_take hr), List.length_take]
    omega
  unfold encW
  rw [List.append_assoc, List.getElem?_append_right (by simp; omega), List.getElem?_append_left (by rw [rts_len hs]; simp; omega), show 2 + 5 * i + k - ([BitVec.ofNat 64 1296125772, hdrW rs.length (2 + 5 * rs.length + gW ns)] : List (BitVec 64)).length = 5 * i + k by simp; omega]
  exact flat_at rs _ hi (by rw [rtW_len (hs _ (List.getElem_mem hi))]; exact hk) hl
abbrev plc (ns : List GN) (rs : List GR) (j : Nat) : Nat := 2 + 5 * rs.length + gW (ns.take j)
theorem gW_le_all {ns : List GN} : ∀ {j : Nat}, gW (ns.take j) ≤ gW ns := fun {j} => by
  conv => rhs; rw [← List.take_append_drop j ns]
  unfold gW
  rw [List.map_append, List.sum_append]
  omega
theorem enc_node (hs : ∀ r ∈ rs, r.s.length ≤ 32) {j k : Nat} (hj : j < ns.length) (hk : k < gsz ns[j]) : (encW ns rs)[plc ns rs j + k]? = (ndW (plE ns rs) ns[j])[k]? := by
  unfold encW
  have h2 : ([BitVec.ofNat 64 1296125772, hdrW rs.length (2 + 5 * rs.length + gW ns)] ++ rs.flatMap (rtW (plE ns rs))).length = 2 + 5 * rs.length := by
    rw [List.length_append, rts_len hs]
    rfl
  rw [List.getElem?_append_right (by rw [h2]; unfold plc; omega), h2, show plc ns rs j + k - (2 + 5 * rs.length) = gW (ns.take j) + k by unfold plc; omega]
  exact flat_at ns _ hj (by rw [ndW_len]; exact hk) nds_len
theorem pl_get {j : Nat} (hj : j < ns.length) : (plE ns rs)[j]? = some (plc ns rs j) := by
  unfold plE plL
  rw [List.getElem?_map, List.getElem?_range hj]
  rfl
theorem pl_mem {p : Nat} : p ∈ plE ns rs ↔ ∃ j, j < ns.length ∧ p = plc ns rs j := by
  unfold plE plL
  simp only [List.mem_map, List.mem_range]
  exact ⟨fun ⟨j, h1, h2⟩ => ⟨j, h1, h2.symm⟩, fun ⟨j, h1, h2⟩ => ⟨j, h1, h2.symm⟩⟩
theorem plc_lt {j : Nat} (hj : j < ns.length) : plc ns rs j + gsz ns[j] ≤ 2 + 5 * rs.length + gW ns := by
  have := gW_take hj
  have h2 := @gW_le_all ns (j + 1)
  unfold plc
  omega
variable (hg : GoodG ns rs) (hN : 2 + 5 * rs.length + gW ns ≤ 8192)
include hg
theorem enc_len : (encW ns rs).length = 2 + 5 * rs.length + gW ns := encW_len fun r hr => (hg.s r hr).1.2.1
theorem enc_hd {j : Nat} (hj : j < ns.length) : wat (encW ns rs) (plc ns rs j) = packW ns[j].p.length ns[j].d.length false 0 :=
  wat_some ((enc_node (ns := ns) (rs := rs) (fun r hr => (hg.s r hr).1.2.1) hj (k := 0) (by unfold gsz; omega)).trans rfl)
theorem enc_ptr {j k : Nat} (hj : j < ns.length) (hk : k < ns[j].p.length) : wat (encW ns rs) (plc ns rs j + 1 + k) = ptW (plE ns rs) ns[j].p[k] := by
  refine wat_some ?_
  rw [Nat.add_assoc, enc_node (fun r hr => (hg.s r hr).1.2.1) hj (by unfold gsz; omega), Nat.add_comm 1 k]
  unfold ndW
  rw [List.getElem?_cons_succ, List.getElem?_append_left (by simpa using hk), List.getElem?_map, List.getElem?_eq_getElem hk]
  rfl
theorem enc_dat {j k : Nat} (hj : j < ns.length) (hk : k < (ns[j].d.length + 7) / 8) : wat (encW ns rs) (plc ns rs j + 1 + ns[j].p.length + k) = wordV ns[j].d k := by
  refine wat_some ?_
  rw [show plc ns rs j + 1 + ns[j].p.length + k = plc ns rs j + (ns[j].p.length + k + 1) by omega, enc_node (fun r hr => (hg.s r hr).1.2.1) hj (by unfold gsz; omega)]
  unfold ndW
  rw [List.getElem?_cons_succ, List.getElem?_append_right (by simp), List.length_map, show ns[j].p.length + k - ns[j].p.length = k by omega]
  exact wordsV_at _ hk
theorem enc_sz {j : Nat} (hj : j < ns.length) : okW (wat (encW ns rs) (plc ns rs j)) ∧ szW (wat (encW ns rs) (plc ns rs j)) = gsz ns[j] ∧ pN (wat (encW ns rs) (plc ns rs j)) = ns[j].p.length ∧ bN (wat (encW ns rs) (plc ns rs j)) = ns[j].d.length := by
  obtain ⟨_, h1, h2⟩ := hg.x _ (List.getElem_mem hj)
  obtain ⟨_, q1, q2, q3, q4⟩ := pack_v h1 h2
  rw [enc_hd hg hj]
  exact ⟨q1, q2, q3, q4⟩
theorem enc_sc : Sc (wat (encW ns rs)) (encW ns rs).length (2 + 5 * rs.length) (plE ns rs) none := by
  have hl := enc_len hg
  have key : ∀ d j, j + d = ns.length → Sc (wat (encW ns rs)) (encW ns rs).length (plc ns rs j) ((List.range' j d).map (plc ns rs)) none := by
    intro d
    induction d with
    | zero =>
      intro j hj
      have e : plc ns rs j = (encW ns rs).length := by
        rw [hl]
        unfold plc
        rw [List.take_of_length_le (by omega)]
      rw [e]
      exact .done
    | succ d ih =>
      intro j hj
      have hjl : j < ns.length := by omega
      obtain ⟨h1, h2, _, _⟩ := enc_sz hg hjl
      have h3 := plc_lt (ns := ns) (rs := rs) hjl
      have h4 : plc ns rs j + gsz ns[j] = plc ns rs (j + 1) := by
        have := gW_take hjl
        unfold plc
        omega
      rw [List.range'_succ, List.map_cons]
      refine .step h1 (by rw [h2, hl]; exact h3) ?_
      rw [h2, h4]
      exact ih (j + 1) (by omega)
  have := key ns.length 0 (by omega)
  rw [← List.range_eq_range'] at this
  exact this
omit hg in
include hN in
theorem pt_ok {to : Int} (h0 : 0 ≤ to) (h1 : to ≤ ns.length) : PtrOk (plE ns rs) (ptW (plE ns rs) to).toNat := by
  unfold ptW
  by_cases h : to = 0
  · rw [if_pos h]
    exact .inl rfl
  · rw [if_neg h]
    have hj : to.toNat - 1 < ns.length := by omega
    have h3 := plc_lt (ns := ns) (rs := rs) hj
    have h4 : 1 ≤ gsz ns[to.toNat - 1] := by unfold gsz; omega
    rw [List.getD_eq_getElem?_getD, pl_get hj, Option.getD_some, BitVec.toNat_ofNat, Nat.mod_eq_of_lt (by omega)]
    exact .inr ⟨by omega, by omega, pl_mem.2 ⟨_, hj, by omega⟩⟩
include hN in
theorem enc_all : allF (wat (encW ns rs)) (plE ns rs) none = [] := by
  unfold allF
  rw [badF, List.nil_append, List.flatMap_eq_nil_iff]
  intro p hp
  obtain ⟨j, hj, rfl⟩ := pl_mem.1 hp
  obtain ⟨h1, h2, h3, h4⟩ := enc_sz hg hj
  unfold objF
  rw [List.append_eq_nil_iff]
  constructor
  · rw [ptrF_nil]
    intro i hi
    rw [h3] at hi
    rw [enc_ptr hg hj hi]
    obtain ⟨q1, _⟩ := hg.x _ (List.getElem_mem hj)
    have := q1 _ (List.getElem_mem hi)
    exact pt_ok hN this.1 this.2
  · unfold padF
    rw [if_neg]
    rintro ⟨q1, q2⟩
    rw [h2, h4] at q2
    rw [h4] at q1
    refine q2 ?_
    have hk : (ns[j].d.length + 7) / 8 - 1 < (ns[j].d.length + 7) / 8 := by omega
    rw [show plc ns rs j + gsz ns[j] - 1 = plc ns rs j + 1 + ns[j].p.length + ((ns[j].d.length + 7) / 8 - 1) by unfold gsz; omega, enc_dat hg hj hk]
    exact wordV_pad _ q1
theorem enc_name {i : Nat} (hi : i < rs.length) : bytesW (encW ns rs) (8 * (2 + 5 * i)) 32 = padS rs[i].s := by
  have h32 := (hg.s _ (List.getElem_mem hi)).1.2.1
  refine List.ext_getElem (by rw [bytesW_length, padS_len h32]) fun j h1 h2 => ?_
  rw [bytesW_length] at h1
  have e1 : ∀ h : j < (bytesW (encW ns rs) (8 * (2 + 5 * i)) 32).length, (bytesW (encW ns rs) (8 * (2 + 5 * i)) 32)[j]'h = byteW (encW ns rs) (8 * (2 + 5 * i) + j) := fun h => by simp [bytesW]
  have e2 : wat (encW ns rs) (2 + 5 * i + j / 8) = wordV (padS rs[i].s) (j / 8) := by
    refine wat_some ?_
    rw [enc_root (fun r hr => (hg.s r hr).1.2.1) hi (by omega)]
    unfold rtW
    have hl : j / 8 < ((padS rs[i].s).length + 7) / 8 := by rw [padS_len h32]; omega
    rw [List.getElem?_append_left (by rw [wordsV_len]; exact hl), wordsV_at _ hl]
  rw [e1]
  unfold byteW
  rw [show (8 * (2 + 5 * i) + j) / 8 = 2 + 5 * i + j / 8 by omega, show (8 * (2 + 5 * i) + j) % 8 = j % 8 by omega]
  rw [show (encW ns rs).getD (2 + 5 * i + j / 8) c0 = wordV (padS rs[i].s) (j / 8) from e2, wordV_byte _ _ _ (by omega), show 8 * (j / 8) + j % 8 = j by omega, List.getD_eq_getElem?_getD, List.getElem?_eq_getElem h2]
  rfl
theorem enc_rt {i : Nat} (hi : i < rs.length) : wat (encW ns rs) (2 + 5 * i + 4) = ptW (plE ns rs) rs[i].to := by
  have h32 := (hg.s _ (List.getElem_mem hi)).1.2.1
  refine wat_some ?_
  rw [enc_root (fun r hr => (hg.s r hr).1.2.1) hi (by omega)]
  unfold rtW
  rw [List.getElem?_append_right (by rw [wordsV_len, padS_len h32]; decide), wordsV_len, padS_len h32]
  rfl
theorem enc_nm {i : Nat} (hi : i < rs.length) : nameS (encW ns rs) (2 + 5 * i) = rs[i].s ∧ nameB (encW ns rs) (2 + 5 * i) := by
  obtain ⟨⟨h1, h2, h3⟩, _⟩ := hg.s _ (List.getElem_mem hi)
  have hz : z8 ∉ rs[i].s := fun h => h3 _ h rfl
  have e1 : nameS (encW ns rs) (2 + 5 * i) = rs[i].s := by unfold nameS; rw [enc_name hg hi, cut_pad hz]
  refine ⟨e1, ?_⟩
  have hok : nmOk rs[i].s := ⟨h1, h2, hz⟩
  unfold nameB
  rw [e1, enc_name hg hi]
  refine ⟨hok, ?_⟩
  unfold fixN padS
  rw [if_pos hok]
end
theorem bytesLess_as : ∀ x y : List UInt8, Op.bytesLess x y = true → (Op.bytesLess y x || y == x) = false
  | _, [], h => by simp [Op.bytesLess] at h
  | [], b :: y, h => by simp [Op.bytesLess]
  | a :: x, b :: y, h => by
    rw [Op.bytesLess] at h ⊢
    rw [Bool.or_eq_true] at h
    rcases h with h | h
    · have h1 : a < b := by simpa using h
      have h2 : ¬ b < a := by
        intro h3
        exact absurd (UInt8.lt_trans h1 h3) (UInt8.lt_irrefl _)
      have h4 : b ≠ a := by
        rintro rfl
        exact UInt8.lt_irrefl _ h1
      simp [h2, h4]
    · rw [Bool.and_eq_true] at h
      obtain ⟨h1, h2⟩ := h
      have h3 : a = b := eq_of_beq h1
      subst h3
      have := bytesLess_as x y h2
      simp only [Bool.or_eq_false_iff] at this ⊢
      refine ⟨by simp [this.1], ?_⟩
      have h5 := this.2
      simp only [beq_eq_false_iff_ne, ne_eq, List.cons.injEq, true_and] at h5 ⊢
      exact h5
section
variable {ns : List GN} {rs : List GR} (hg : GoodG ns rs) (hN : 2 + 5 * rs.length + gW ns ≤ 8192)
include hg hN
theorem enc_roots : ∀ j, j ≤ rs.length → rootsF (encW ns rs) (plE ns rs) j = [] ∧ lastAt (encW ns rs) j = (if h : 0 < j ∧ j ≤ rs.length then rs[j - 1].s else [])
  | 0, _ => ⟨rfl, by simp [lastAt]⟩
  | j + 1, hj => by
    obtain ⟨ih1, ih2⟩ := enc_roots j (by omega)
    have hi : j < rs.length := by omega
    obtain ⟨e1, e2⟩ := enc_nm hg hi
    obtain ⟨⟨q1, _, _⟩, q4, q5⟩ := hg.s _ (List.getElem_mem hi)
    have hle : leN rs[j].s (lastAt (encW ns rs) j) = false := by
      rw [ih2]
      unfold leN
      by_cases h0 : 0 < j
      · rw [dif_pos ⟨h0, by omega⟩]
        have ho := hg.o (j - 1) (by omega)
        have e3 : rs[j - 1 + 1]'(by omega) = rs[j] := by congr 1; omega
        rw [e3] at ho
        exact bytesLess_as _ _ ho
      · rw [dif_neg (by omega), strOf_list, strOf_list]
        cases hs : rs[j].s with
        | nil => rw [hs] at q1; simp at q1
        | cons c t => simp [Op.bytesLess]
    refine ⟨?_, ?_⟩
    · rw [rootsF, ih1, List.nil_append]
      have hp := pt_ok hN q4 q5
      unfold nmF rtF
      rw [e1, enc_rt hg hi, if_pos hp, if_neg]
      · rfl
      · rintro (h | h)
        · exact h e2
        · rw [hle] at h; cases h
    · rw [lastAt, if_pos e2, e1, dif_pos ⟨by omega, hj⟩]
      rfl
theorem enc_ok : sizeOk (encW ns rs) ∧ nR (encW ns rs) = rs.length ∧ magF (encW ns rs) = [] := by
  have hl := enc_len hg
  have hr := hg.r
  have w0 : wat (encW ns rs) 0 = BitVec.ofNat 64 1296125772 := rfl
  have w1 : wat (encW ns rs) 1 = hdrW rs.length (2 + 5 * rs.length + gW ns) := rfl
  have hN' := hN
  generalize hT : 2 + 5 * rs.length + gW ns = T at *
  have hn : (hdrW rs.length T).toNat = rs.length + T * 65536 := by
    unfold hdrW
    rw [BitVec.toNat_ofNat]
    omega
  have f0 : (fieldB (hdrW rs.length T) 0 16).toNat = _ := field_nat _ (a := 0) (n := 16) (by decide) (by decide)
  have f1 : (fieldB (hdrW rs.length T) 16 32).toNat = _ := field_nat _ (a := 16) (n := 32) (by decide) (by decide)
  have f2 : (fieldB (hdrW rs.length T) 48 16).toNat = _ := field_nat _ (a := 48) (n := 16) (by decide) (by decide)
  rw [hn] at f0 f1 f2
  have hnR : nR (encW ns rs) = rs.length := by
    unfold nR
    rw [w1, f0]
    omega
  refine ⟨⟨by omega, ?_, ?_, by omega, by omega⟩, hnR, ?_⟩
  · apply BitVec.eq_of_toNat_eq
    rw [w1, f2, BitVec.toNat_ofNat]
    omega
  · apply BitVec.eq_of_toNat_eq
    rw [w1, f1, hl, BitVec.toNat_ofNat]
    omega
  · unfold magF
    rw [if_neg]
    rintro (h | h)
    · omega
    · exact h w0
theorem enc_img {os : List Nat} {bad : Option Nat} (h : sizeOk (encW ns rs) → Sc (wat (encW ns rs)) (encW ns rs).length (2 + 5 * nR (encW ns rs)) os bad) : imgG (encW ns rs) os bad = [] := by
  obtain ⟨h1, h2, h3⟩ := enc_ok hg hN
  have hS := h h1
  rw [h2] at hS
  obtain ⟨rfl, rfl⟩ := hS.uniq (enc_sc hg)
  unfold imgG
  rw [h3, if_pos h1, h2, enc_all hg hN, (enc_roots hg hN rs.length (Nat.le_refl _)).1]
  rfl
end
end Go.Proofs.Ytdpmidgeipibbaa
end
section
set_option linter.unusedVariables false
set_option linter.unusedSimpArgs false
set_option maxHeartbeats 4000000
namespace Go.Proofs.Ytdpmidgeipibbaa
open Go.Sh Go.RowKit Go.ChangeShapes Go.WideShapes Go.ChangeAt

abbrev rsChk10_0 := (And.intro @xBox_r (And.intro @loadK_some (And.intro @loadsK_s (And.intro @loadsK_n (And.intro @loadsR_s (And.intro @loadsR_n (And.intro @storesK_s (And.intro @storesK_n (And.intro @xPick_t (And.intro @xPick_f (And.intro @xGuard_tt (And.intro @xGuard_ff (And.intro @xGuard_tf (And.intro @xGuard_ft (And.intro @xGuard_u 
  (And.intro @xNil_r (And.intro @xIf_t (And.intro @xBin_add' (And.intro @xBin_sub' (And.intro @xBin_mul' (And.intro @xBin_quo' (And.intro @xBin_rem' (And.intro @xIf_f (And.intro @xIf_tt (And.intro @xEx0 (And.intro @xEx1 (And.intro @xEx2 (And.intro @xEx3 (And.intro @xBin_eqs (And.intro @xBin_nes (And.intro @xUn_not (And.intro @xu8_com (And.intro @xu8_eql 
  (And.intro @xu8_neq (And.intro @xu16_com (And.intro @xu16_eql (And.intro @xu16_neq (And.intro @xu32_com (And.intro @xu32_eql (And.intro @xu32_neq (And.intro @xu64_com (And.intro @xu64_eql (And.intro @xu64_neq (And.intro @xi64_eql (And.intro @xi64_neq (And.intro @xi64_neg (And.intro @xMakeFunc_r (And.intro @xSq_r (And.intro @xPur_s (And.intro @xRd_s 
  (And.intro @xRe_s (And.intro @xDet_s (And.intro @xDet_ld (And.intro @xDet_ld2 (And.intro @xDet_ld3 (And.intro @xDet_ld4 (And.intro @xGuard_tt (And.intro @ld_25 @ln_37))))))))))))))))))))))))))))))))))))))))))))))))))))))))))
abbrev rsChk10_1 := (And.intro @setCells_c (And.intro @setCells_n (And.intro @World.setCell_alloc_at (And.intro @World.setCell_alloc_past (And.intro @World.cell?_alloc_at (And.intro @World.cell?_alloc_past (And.intro @World.frozen?_alloc_at (And.intro @World.frozen?_alloc_past 
  (And.intro @World.size_alloc (And.intro @dlt_t (And.intro @dlt_f (And.intro @dle_t (And.intro @dle_f (And.intro @deq_t (And.intro @deq_f (And.intro @dne_t (And.intro @dne_f (And.intro @not_true_eq_false (And.intro @Bool.false_and (And.intro @Bool.true_and (And.intro @Bool.and_true (And.intro @Bool.and_false (And.intro @wrap_in (And.intro @Int.toNat_natCast 
  (And.intro @Nat.mul_one (And.intro @cells_int (And.intro @cells_bool (And.intro @cells_string (And.intro @cells_slice (And.intro @cells_pointer (And.intro @cells_agg (And.intro @one_int (And.intro @one_bool (And.intro @one_string (And.intro @one_slice (And.intro @one_pointer (And.intro @beq_tt (And.intro @beq_ff (And.intro @beq_tf 
  (And.intro @beq_ft (And.intro @cell_sets_b (And.intro @frozen_sets (And.intro @size_sets (And.intro @World.size_drew (And.intro @Nat.zero_add (And.intro @Nat.add_zero (And.intro @cell_drew (And.intro @frozen_drew (And.intro @cell_set_eq (And.intro @cell_set_o (And.intro @cell_set_b (And.intro @World.frozen?_setCell 
  (And.intro @decide_true (And.intro @decide_false (And.intro @not_false_eq_true (And.intro @Bool.not_true @Bool.not_false))))))))))))))))))))))))))))))))))))))))))))))))))))))))
theorem CheckRight_walk (na ra : Option Addr) (nc rc : Nat) (ns : List GN) (rs : List GR) (w : World) (h : GIs w na nc ra rc ns rs) : Gives Try.prog n_loamlaw26_CheckRight #[gV na nc ra rc ns rs] w (.bool true) := by
  refine loamlaw26_CheckRight_of ?_
  unfold loamlaw26_CheckRight
  simp (disch := (first | omega | decide | (simp only [World.size_alloc, World.size_setCell, World.size_drew, size_sets, List.mem_cons, List.not_mem_nil, or_false, not_false_eq_true] <;> omega) | fail)) only [↓rsChk10_0, rsChk10_1, Option.isNone_some, Option.isNone_none, tick_eq, tickV_eq, ne_eq, Int.reduceAdd, Int.reduceSub, Int.reduceMul, Int.reduceEq, Int.reduceLT, Int.reduceLE, Int.reduceToNat, Nat.reduceMul, Nat.reduceAdd, Nat.reduceSub, List.nil_append, List.cons_append, List.getElem?_toArray, List.getElem?_cons_zero, List.getElem?_cons_succ, List.setIfInBounds_toArray, List.set_cons_zero, List.set_cons_succ, Option.map_some, List.not_mem_nil, ←decide_not, eq_self]
  have B : Blk (w.alloc (.cells #[.slice na ns.length nc, .slice ra rs.length rc] 25)) w.heap.size 25 [.slice na ns.length nc, .slice ra rs.length rc] := Blk.at rfl
  have X : Ext [] w (w.alloc (.cells #[.slice na ns.length nc, .slice ra rs.length rc] 25)) := Ext.alloc _ _ _
  have hy := h.ext0 X
  generalize w.heap.size = hb at *
  generalize w.alloc (.cells #[.slice na ns.length nc, .slice ra rs.length rc] 25) = y0 at *
  refine loamlaw26_known_call (Gives.to (known26_spec y0) fun w1 F1 => ?_)
  have k1 := fun i => (B.ext F1 (by simp)).cell (i := i)
  simp (disch := (first | omega | decide | (simp only [World.size_alloc, World.size_setCell, World.size_drew, size_sets, List.mem_cons, List.not_mem_nil, or_false, not_false_eq_true] <;> omega) | fail)) only [↓rsChk10_0, rsChk10_1, Option.isNone_some, Option.isNone_none, tick_eq, tickV_eq, ne_eq, Int.reduceAdd, Int.reduceSub, Int.reduceMul, Int.reduceEq, Int.reduceLT, Int.reduceLE, Int.reduceToNat, Nat.reduceMul, Nat.reduceAdd, Nat.reduceSub, List.nil_append, List.cons_append, List.getElem?_toArray, List.getElem?_cons_zero, List.getElem?_cons_succ, List.setIfInBounds_toArray, List.set_cons_zero, List.set_cons_succ, Option.map_some, List.not_mem_nil, ←decide_not, k1]
  refine loamlaw17_Few_call (Yld.mono (Few_spec (hy.ext0 F1)) ?_)
  rintro u w2 ⟨⟨b, rfl, hfew⟩, F2⟩
  have F12 := F1.trans F2
  cases b with
  | false =>
    simp (disch := (first | omega | decide | (simp only [World.size_alloc, World.size_setCell, World.size_drew, size_sets, List.mem_cons, List.not_mem_nil, or_false, not_false_eq_true] <;> omega) | fail)) only [↓rsChk10_0, rsChk10_1, Option.isNone_some, Option.isNone_none, tick_eq, tickV_eq, ne_eq, Int.reduceAdd, Int.reduceSub, Int.reduceMul, Int.reduceEq, Int.reduceLT, Int.reduceLE, Int.reduceToNat, Nat.reduceMul, Nat.reduceAdd, Nat.reduceSub, List.nil_append, List.cons_append, List.getElem?_toArray, List.getElem?_cons_zero, List.getElem?_cons_succ, List.setIfInBounds_toArray, List.set_cons_zero, List.set_cons_succ, Option.map_some, List.not_mem_nil, ←decide_not, k1]
    exact ⟨by trivial, X.trans F12⟩
  | true =>
  have hf := hfew rfl
  have hfn := hf.n
  have hfr := hf.r
  have k2 := fun i => (B.ext F12 (by simp)).cell (i := i)
  simp (disch := (first | omega | decide | (simp only [World.size_alloc, World.size_setCell, World.size_drew, size_sets, List.mem_cons, List.not_mem_nil, or_false, not_false_eq_true] <;> omega) | fail)) only [↓rsChk10_0, rsChk10_1, Option.isNone_some, Option.isNone_none, tick_eq, tickV_eq, ne_eq, Int.reduceAdd, Int.reduceSub, Int.reduceMul, Int.reduceEq, Int.reduceLT, Int.reduceLE, Int.reduceToNat, Nat.reduceMul, Nat.reduceAdd, Nat.reduceSub, List.nil_append, List.cons_append, List.getElem?_toArray, List.getElem?_cons_zero, List.getElem?_cons_succ, List.setIfInBounds_toArray, List.set_cons_zero, List.set_cons_succ, Option.map_some, List.not_mem_nil, ←decide_not, k1, k2]
  refine loamlaw17_Of_call (Yld.mono (Of_spec17 (hy.ext0 F12) (by omega) (by omega)) ?_)
  rintro u w3 ⟨F3, na', nc', ra', rc', rfl, hG⟩
  simp (disch := (first | omega | decide | (simp only [World.size_alloc, World.size_setCell, World.size_drew, size_sets, List.mem_cons, List.not_mem_nil, or_false, not_false_eq_true] <;> omega) | fail)) only [↓rsChk10_0, rsChk10_1, Option.isNone_some, Option.isNone_none, tick_eq, tickV_eq, ne_eq, Int.reduceAdd, Int.reduceSub, Int.reduceMul, Int.reduceEq, Int.reduceLT, Int.reduceLE, Int.reduceToNat, Nat.reduceMul, Nat.reduceAdd, Nat.reduceSub, List.nil_append, List.cons_append, List.getElem?_toArray, List.getElem?_cons_zero, List.getElem?_cons_succ, List.setIfInBounds_toArray, List.set_cons_zero, List.set_cons_succ, Option.map_some, List.not_mem_nil, ←decide_not, k1, k2]
  refine loamref17_Encode_call (Yld.mono (Encode_spec hG hf) ?_)
  rintro u w4 hu
  rcases hu with ⟨e, he, rfl, F4⟩ | ⟨hg, h8, aE, cE, rfl, hcE, hnE, RE, F4⟩
  · simp (disch := (first | omega | decide | (simp only [World.size_alloc, World.size_setCell, World.size_drew, size_sets, List.mem_cons, List.not_mem_nil, or_false, not_false_eq_true] <;> omega) | fail)) only [↓rsChk10_0, rsChk10_1, Option.isNone_some, Option.isNone_none, tick_eq, tickV_eq, ne_eq, Int.reduceAdd, Int.reduceSub, Int.reduceMul, Int.reduceEq, Int.reduceLT, Int.reduceLE, Int.reduceToNat, Nat.reduceMul, Nat.reduceAdd, Nat.reduceSub, List.nil_append, List.cons_append, List.getElem?_toArray, List.getElem?_cons_zero, List.getElem?_cons_succ, List.setIfInBounds_toArray, List.set_cons_zero, List.set_cons_succ, Option.map_some, List.not_mem_nil, ←decide_not, k1, k2]
    exact ⟨by trivial, X.trans (F12.trans (F3.trans F4))⟩
  have X4 : Ext [] w w4 := X.trans (F12.trans (F3.trans F4))
  have hlen := enc_len hg
  have hI := fun os bad => enc_img hg h8 (os := os) (bad := bad)
  generalize encW ns rs = E at *
  simp (disch := (first | omega | decide | (simp only [World.size_alloc, World.size_setCell, World.size_drew, size_sets, List.mem_cons, List.not_mem_nil, or_false, not_false_eq_true] <;> omega) | fail)) only [↓rsChk10_0, rsChk10_1, Option.isNone_some, Option.isNone_none, tick_eq, tickV_eq, ne_eq, Int.reduceAdd, Int.reduceSub, Int.reduceMul, Int.reduceEq, Int.reduceLT, Int.reduceLE, Int.reduceToNat, Nat.reduceMul, Nat.reduceAdd, Nat.reduceSub, List.nil_append, List.cons_append, List.getElem?_toArray, List.getElem?_cons_zero, List.getElem?_cons_succ, List.setIfInBounds_toArray, List.set_cons_zero, List.set_cons_succ, Option.map_some, List.not_mem_nil, ←decide_not, k1, k2]
  refine check_Right_call (Yld.mono (ImRight_spec E aE cE w4 RE hcE (by omega)) ?_)
  rintro u w5 ⟨os, bad, hS, rfl, F5⟩
  rw [hI os bad hS]
  have e0 : decide (([] : List Fnd).length = 0) = true := rfl
  rw [e0]
  simp (disch := (first | omega | decide | (simp only [World.size_alloc, World.size_setCell, World.size_drew, size_sets, List.mem_cons, List.not_mem_nil, or_false, not_false_eq_true] <;> omega) | fail)) only [↓rsChk10_0, rsChk10_1, Option.isNone_some, Option.isNone_none, tick_eq, tickV_eq, ne_eq, Int.reduceAdd, Int.reduceSub, Int.reduceMul, Int.reduceEq, Int.reduceLT, Int.reduceLE, Int.reduceToNat, Nat.reduceMul, Nat.reduceAdd, Nat.reduceSub, List.nil_append, List.cons_append, List.getElem?_toArray, List.getElem?_cons_zero, List.getElem?_cons_succ, List.setIfInBounds_toArray, List.set_cons_zero, List.set_cons_succ, Option.map_some, List.not_mem_nil, ←decide_not, k1, k2]
  refine check_Image_call (Yld.mono (Image_spec E aE cE w5 (RE.ext0 F5) hcE (by omega)) ?_)
  rintro u w6 ⟨os2, bad2, hS2, F6, a2, c2, rfl, _, _, R2⟩
  rw [hI os2 bad2 hS2]
  have e1 : (([] : List Fnd).length : Int) = 0 := rfl
  simp (disch := (first | omega | decide | (simp only [World.size_alloc, World.size_setCell, World.size_drew, size_sets, List.mem_cons, List.not_mem_nil, or_false, not_false_eq_true] <;> omega) | fail)) only [↓rsChk10_0, rsChk10_1, Option.isNone_some, Option.isNone_none, tick_eq, tickV_eq, ne_eq, Int.reduceAdd, Int.reduceSub, Int.reduceMul, Int.reduceEq, Int.reduceLT, Int.reduceLE, Int.reduceToNat, Nat.reduceMul, Nat.reduceAdd, Nat.reduceSub, List.nil_append, List.cons_append, List.getElem?_toArray, List.getElem?_cons_zero, List.getElem?_cons_succ, List.setIfInBounds_toArray, List.set_cons_zero, List.set_cons_succ, Option.map_some, List.not_mem_nil, ←decide_not, k1, k2, e1]
  exact ⟨by trivial, X4.trans (F5.trans F6)⟩
theorem CheckRight_spec (a : GP) (w : World) (h : GIs w a.na a.nc a.ra a.rc a.ns a.rs) : Gives Try.prog n_loamlaw26_CheckRight #[gPV a] w (.bool true) := by
  obtain ⟨na, nc, ra, rc, ns, rs⟩ := a
  exact CheckRight_walk na ra nc rc ns rs w h
end Go.Proofs.Ytdpmidgeipibbaa
end
