/- Objects one behind the other: what places are (sq). -/
import Derived.Test.YtdpmidgeipibbaaHeadU
import Derived.Test.YtdpmidgeipibbaaMem
import Derived.Test.YtdpmidgeipibbaaRwB
import Derived.Test.YtdpmidgeipibbaaRwW
set_option linter.unusedVariables false
set_option linter.unusedSimpArgs false
set_option maxHeartbeats 4000000
namespace Go.Proofs.Ytdpmidgeipibbaa
open Go.Sh Go.RowKit

def szW (x : BitVec 64) : Nat := 1 + (uP x).toNat + ((uB x).toNat + 7) / 8
def okW (x : BitVec 64) : Prop := isHead x ∧ uM x = false
instance (x : BitVec 64) : Decidable (okW x) := by unfold okW isHead rightP; infer_instance
theorem okW_size {x : BitVec 64} (h : okW x) : sizeV (vP x) (vB x) (vM x) (vT x) = szW x ∧ unErr x = 0 ∧ vM x = false ∧ 1 ≤ szW x ∧ szW x ≤ 193 := by
  obtain ⟨h1, h2⟩ := h
  have h3 := h1.1
  have h4 := h3
  rw [h2, right_f] at h4
  refine ⟨?_, if_pos h1, by simp [vM, h1, h2], by unfold szW; omega, by unfold szW; omega⟩
  simp only [sizeV, vP, vB, vM, vT, if_pos h1, h2, and_true]
  rw [h2] at h3
  rw [if_pos h3]
  unfold szW
  omega
theorem okW_not {x : BitVec 64} (h : ¬ okW x) (he : unErr x = 0) : vM x = true := by
  have h1 : isHead x := by
    by_cases h1 : isHead x
    · exact h1
    · simp [unErr, h1] at he
  have : uM x = true := by
    cases hm : uM x
    · exact absurd ⟨h1, hm⟩ h
    · rfl
  simp [vM, h1, this]
theorem okW_pack {p b : Int} (h : rightP p b false 0) : okW (packW p b false 0) ∧ szW (packW p b false 0) = 1 + p.toNat + (b.toNat + 7) / 8 := by
  obtain ⟨h1, h2, h3, h4⟩ := un_pack h
  exact ⟨⟨un_pack_is h, h3⟩, by unfold szW; rw [h1, h2]⟩
def wat (ws : List (BitVec 64)) (i : Nat) : BitVec 64 := ws.getD i c0
def walk (ws : List (BitVec 64)) (t : Nat) : Nat → Nat → Option (List Nat)
  | 0, _ => some []
  | f + 1, o => if o < t then (if okW (wat ws o) ∧ o + szW (wat ws o) ≤ t then (walk ws t f (o + szW (wat ws o))).map (o :: ·) else none) else some []
def objs (ws : List (BitVec 64)) (b t : Nat) : Option (List Nat) := walk ws t t b
inductive Objs (ws : List (BitVec 64)) (t : Nat) : Nat → List Nat → Prop
  | nil : Objs ws t t []
  | cons {o : Nat} {l : List Nat} : okW (wat ws o) → o + szW (wat ws o) ≤ t → Objs ws t (o + szW (wat ws o)) l → Objs ws t o (o :: l)
theorem szW_pos {x : BitVec 64} : 1 ≤ szW x := by unfold szW; omega
theorem Objs.le {ws : List (BitVec 64)} {t o : Nat} {l : List Nat} (h : Objs ws t o l) : o ≤ t := by
  induction h with
  | nil => exact Nat.le_refl _
  | cons _ h2 _ _ => omega
theorem Objs.walk {ws : List (BitVec 64)} {t o : Nat} {l : List Nat} (h : Objs ws t o l) : ∀ f, t ≤ o + f → Go.Proofs.Ytdpmidgeipibbaa.walk ws t f o = some l := by
  induction h with
  | nil =>
    intro f hf
    cases f with
    | zero => rfl
    | succ f => unfold Go.Proofs.Ytdpmidgeipibbaa.walk; rw [if_neg (Nat.lt_irrefl _)]
  | @cons o l h1 h2 h3 ih =>
    intro f hf
    have hp := szW_pos (x := wat ws o)
    have hle := h3.le
    cases f with
    | zero => omega
    | succ f => unfold Go.Proofs.Ytdpmidgeipibbaa.walk; rw [if_pos (by omega), if_pos ⟨h1, h2⟩, ih f (by omega)]; rfl
theorem walk_objs {ws : List (BitVec 64)} {t : Nat} : ∀ (f o : Nat) (l : List Nat), t ≤ o + f → o ≤ t → walk ws t f o = some l → Objs ws t o l := by
  intro f
  induction f with
  | zero => intro o l h1 h2 h; have : o = t := by omega
            subst this; simp only [walk, Option.some.injEq] at h; subst h; exact .nil
  | succ f ih =>
    intro o l h1 h2 h
    unfold walk at h
    split at h
    · split at h
      · rename_i hk
        simp only [Option.map_eq_some_iff] at h
        obtain ⟨r, hr, rfl⟩ := h
        have hp := szW_pos (x := wat ws o)
        exact .cons hk.1 hk.2 (ih _ _ (by omega) hk.2 hr)
      · cases h
    · have : o = t := by omega
      subst this; simp only [Option.some.injEq] at h; subst h; exact .nil
theorem objs_some {ws : List (BitVec 64)} {b t : Nat} {l : List Nat} (hb : b ≤ t) : objs ws b t = some l ↔ Objs ws t b l := ⟨walk_objs _ _ _ (by omega) hb, fun h => h.walk _ (by omega)⟩
theorem Objs.more {ws ws' : List (BitVec 64)} {t n o : Nat} {l : List Nat} (h : Objs ws t o l) (hs : ∀ i, i < t → wat ws' i = wat ws i) (hk : okW (wat ws' t)) (hn : n = szW (wat ws' t)) : Objs ws' (t + n) o (l ++ [t]) := by
  induction h with
  | nil => subst hn; exact .cons hk (Nat.le_refl _) .nil
  | @cons o l h1 h2 h3 ih =>
    have hp := szW_pos (x := wat ws o)
    have hle := h3.le
    have e := hs o (by omega)
    rw [← e] at h1 h2 ih
    exact .cons h1 (by omega) ih
/-- nought from a place on -/
def zr (ws : List (BitVec 64)) (o n : Nat) : List (BitVec 64) := ws.mapIdx fun i x => if o ≤ i ∧ i < o + n then c0 else x
@[simp] theorem zr_length {ws : List (BitVec 64)} {o n : Nat} : (zr ws o n).length = ws.length := by simp [zr]
def alW (ws : List (BitVec 64)) (t : Nat) (x : BitVec 64) (n : Nat) : List (BitVec 64) := zr (ws.set t x) (t + 1) (n - 1)
@[simp] theorem alW_length {ws : List (BitVec 64)} {t n : Nat} {x : BitVec 64} : (alW ws t x n).length = ws.length := by simp [alW]
theorem wat_zr {ws : List (BitVec 64)} {o n i : Nat} : wat (zr ws o n) i = if o ≤ i ∧ i < o + n then c0 else wat ws i := by
  unfold wat zr
  simp only [List.getD_eq_getElem?_getD, List.getElem?_mapIdx]
  cases ws[i]? with
  | none => simp
  | some x => simp
theorem wat_set {ws : List (BitVec 64)} {t i : Nat} {x : BitVec 64} (ht : t < ws.length) : wat (ws.set t x) i = if i = t then x else wat ws i := by
  unfold wat
  simp only [List.getD_eq_getElem?_getD, List.getElem?_set]
  by_cases h : t = i
  · subst h; simp [ht]
  · rw [if_neg h, if_neg (fun e => h e.symm)]
theorem wat_alW {ws : List (BitVec 64)} {t n i : Nat} {x : BitVec 64} (ht : t < ws.length) : wat (alW ws t x n) i = if i = t then x else if t + 1 ≤ i ∧ i < t + 1 + (n - 1) then c0 else wat ws i := by
  unfold alW
  rw [wat_zr, wat_set ht]
  by_cases h : i = t
  · subst h; rw [if_neg (by omega)]; simp
  · simp [h]
theorem Objs.alloc {ws : List (BitVec 64)} {b t n : Nat} {l : List Nat} {p bb : Int} (h : Objs ws t b l) (ht : t < ws.length) (hr : rightP p bb false 0) (hn : n = szW (packW p bb false 0)) : Objs (alW ws t (packW p bb false 0) n) (t + n) b (l ++ [t]) := by
  have e : wat (alW ws t (packW p bb false 0) n) t = packW p bb false 0 := by rw [wat_alW ht, if_pos rfl]
  refine h.more (fun i hi => ?_) (by rw [e]; exact (okW_pack hr).1) (by rw [e]; exact hn)
  rw [wat_alW ht, if_neg (by omega), if_neg (by omega)]
/-! rows of numbers and of words -/
abbrev nums (l : List Nat) : List Value := l.map fun (i : Nat) => i64 (i : Int)
abbrev OwnI (w : World) (v : Value) (l : List Nat) : Prop := Own w 3 1 v l.length (nums l)
theorem appIl {w : World} {K : K1} {v : Value} {l : List Nat} {o g : Nat} {cs : List Value} (hO : OwnI w v l) (hcs : cs = [i64 (o : Int)]) (hl : l.length ≤ 100000)
    (hK : ∀ v' w', OwnI w' v' (l ++ [o]) → Stp (blk v) (blk v') w w' → K v' w') (hg : g = w.heap.size := by first | rfl | (simp only [World.size_alloc, World.size_drew, World.size_setCell] <;> omega)) : xBuiltin Try.prog .append #[66, 66] 66 [false, false] [v, .slice (some ⟨g, 0, none⟩) 1 1] (w.alloc (.cells cs.toArray 3)) K := by
  subst hcs hg
  refine xAppL (bytes := 8) (z := .int .i64 0) (by kernel_rfl) (by kernel_rfl) (by rfl) (by decide) hO (by simp) (by simp [Value.oneCell']) (by omega) (by omega) fun v' w' h1 h2 => hK v' w' ?_ h2
  show Own w' 3 1 v' (l ++ [o]).length (nums (l ++ [o]))
  rw [List.length_append, nums, List.map_append]
  exact h1
end Go.Proofs.Ytdpmidgeipibbaa
