/- Rules: numbers without a sign as bit vectors; places in rows and arrays. -/
import Derived.Test.YthhcmoknppljpaaDoorEng8
set_option linter.unusedVariables false
set_option linter.unusedSimpArgs false
namespace Go.Sh
open Go.RowKit
noncomputable section
variable {P : Program} {w : World} {K : K1} {t : TypeId} {cx cy : Bool}
theorem xUn_ok {op : UnOp} {x v : Value} (h : (Op.unary op x).run P w = .ok v w) : xUn P op x w K = K v w := propext ⟨fun hx => by have := hx.out; rw [h] at this; exact this, fun hk => ⟨by rw [h]; exact hk⟩⟩
theorem xConv_ok9 {s d : TypeId} {x v : Value} (h : (convert s d x).run P w = .ok v w) : xConv P s d x w K = K v w := propext ⟨fun hx => by have := hx.out; rw [h] at this; exact this, fun hk => ⟨by rw [h]; exact hk⟩⟩

/-! u8 -/
abbrev u8 (x : BitVec 8) : Value := .int .u8 (x.toNat : Int)
abbrev c8 (n : Nat) : Value := u8 (BitVec.ofNat 8 n)
theorem wrap_u8 (i : Int) : IntKind.u8.wrap i = ((BitVec.ofInt 8 i).toNat : Int) := by
  rw [BitVec.toNat_ofInt]
  simp only [IntKind.wrap, IntKind.signed, IntKind.bits]
  have := Int.emod_nonneg i (b := ((2 ^ 8 : Nat) : Int)) (by decide)
  simp [Int.toNat_of_nonneg this]
  omega
theorem wrap_u8_nat (x : BitVec 8) : IntKind.u8.wrap (x.toNat : Int) = (x.toNat : Int) := by
  rw [wrap_u8]; simp
theorem u8_of {a : Int} (h0 : 0 ≤ a) (h1 : a ≤ 255) : Value.int .u8 a = u8 (BitVec.ofInt 8 a) := by
  congr 1; rw [BitVec.toNat_ofInt]; omega
section
variable {x y : BitVec 8}
theorem xu8_add : xBin P .add t cx (u8 x) cy (u8 y) w K = K (u8 (x + y)) w := by
  rw [xBin_add, wrap_u8]; congr 3
theorem xu8_sub : xBin P .sub t cx (u8 x) cy (u8 y) w K = K (u8 (x - y)) w := by
  rw [xBin_sub, wrap_u8]; congr 3; rw [BitVec.toNat_ofInt, BitVec.toNat_sub]; omega
theorem xu8_rem (h : y ≠ BitVec.ofNat 8 0) : xBin P .rem t cx (u8 x) cy (u8 y) w K = K (u8 (x % y)) w := by
  rw [xBin_rem (by intro e; exact h (BitVec.eq_of_toNat_eq (by simpa using e)))]; congr 1
theorem xu8_and : xBin P .and t cx (u8 x) cy (u8 y) w K = K (u8 (x &&& y)) w := xBin_ok (by
  have e : Op.intBits .and .u8 (x.toNat : Int) (y.toNat : Int) = pure (.int .u8 (IntKind.u8.wrap ((BitVec.ofInt 8 (x.toNat : Int) &&& BitVec.ofInt 8 (y.toNat : Int)).toNat : Int))) := rfl
  rw [BitVec.ofInt_natCast, BitVec.ofInt_natCast, BitVec.ofNat_toNat, BitVec.ofNat_toNat, BitVec.setWidth_eq, BitVec.setWidth_eq, wrap_u8_nat] at e
  simp only [eqGuard, binOp, e]
  rfl)
theorem xu8_com : xUn P .xor (u8 x) w K = K (u8 (~~~x)) w := xUn_ok (by
  have e : Op.unary .xor (.int .u8 (x.toNat : Int)) = pure (.int .u8 (IntKind.u8.wrap ((BitVec.ofInt 8 255 ^^^ BitVec.ofInt 8 (x.toNat : Int)).toNat : Int))) := rfl
  rw [show BitVec.ofInt 8 255 = BitVec.allOnes 8 by decide, BitVec.ofInt_natCast, BitVec.ofNat_toNat, BitVec.setWidth_eq, BitVec.allOnes_xor, wrap_u8_nat] at e
  rw [e]
  rfl)
theorem xu8_shr {k : IntKind} {i : Int} (h : 0 ≤ i) : xBin P .shr t cx (u8 x) cy (.int k i) w K = K (u8 (x >>> i.toNat)) w := by
  refine xBin_ok ?_
  have h' : ¬ i < 0 := by omega
  simp only [eqGuard, binOp, Op.shift, if_neg h']
  have e : (x.toNat : Int).fdiv (2 ^ min i.toNat (IntKind.bits .u8)) = ((x >>> i.toNat).toNat : Int) := by
    rw [BitVec.toNat_ushiftRight, Nat.shiftRight_eq_div_pow, show (2 ^ min i.toNat (IntKind.bits .u8) : Int) = ((2 ^ min i.toNat 8 : Nat) : Int) by push_cast; rfl, Int.fdiv_eq_ediv_of_nonneg _ (Int.natCast_nonneg _), ← Int.natCast_ediv]
    congr 1
    by_cases hm : i.toNat ≤ 8
    · rw [Nat.min_eq_left hm]
    · rw [Nat.min_eq_right (by omega)]
      have h1 : x.toNat < 2 ^ 8 := x.isLt
      have h2 : 2 ^ 8 ≤ 2 ^ i.toNat := Nat.pow_le_pow_right (by decide) (by omega)
      rw [Nat.div_eq_of_lt h1, Nat.div_eq_of_lt (by omega)]
  simp [e]
theorem xu8_eql : xBin P .eql t cx (u8 x) cy (u8 y) w K = K (.bool (decide (x = y))) w := by
  rw [xBin_eql]; congr 2; simp only [Int.natCast_inj, BitVec.toNat_inj]
theorem xu8_neq : xBin P .neq t cx (u8 x) cy (u8 y) w K = K (.bool (decide (x ≠ y))) w := by
  rw [xBin_neq]; congr 2; simp only [ne_eq, Int.natCast_inj, BitVec.toNat_inj]
theorem xu8_lss : xBin P .lss t cx (u8 x) cy (u8 y) w K = K (.bool (decide (x.toNat < y.toNat))) w := by
  rw [xBin_lss]; congr 2; simp
theorem xu8_leq : xBin P .leq t cx (u8 x) cy (u8 y) w K = K (.bool (decide (x.toNat ≤ y.toNat))) w := by
  rw [xBin_leq]; congr 2; simp
theorem xu8_gtr : xBin P .gtr t cx (u8 x) cy (u8 y) w K = K (.bool (decide (y.toNat < x.toNat))) w := by
  rw [xBin_gtr]; congr 2; simp
theorem xu8_geq : xBin P .geq t cx (u8 x) cy (u8 y) w K = K (.bool (decide (y.toNat ≤ x.toNat))) w := by
  rw [xBin_geq]; congr 2; simp
end

/-! u16 -/
abbrev u16 (x : BitVec 16) : Value := .int .u16 (x.toNat : Int)
theorem wrap_u16 (i : Int) : IntKind.u16.wrap i = ((BitVec.ofInt 16 i).toNat : Int) := by
  rw [BitVec.toNat_ofInt]
  simp only [IntKind.wrap, IntKind.signed, IntKind.bits]
  have := Int.emod_nonneg i (b := ((2 ^ 16 : Nat) : Int)) (by decide)
  simp [Int.toNat_of_nonneg this]
  omega
theorem wrap_u16_nat (x : BitVec 16) : IntKind.u16.wrap (x.toNat : Int) = (x.toNat : Int) := by
  rw [wrap_u16]; simp
section
variable {x y : BitVec 16}
theorem xu16_add : xBin P .add t cx (u16 x) cy (u16 y) w K = K (u16 (x + y)) w := by
  rw [xBin_add, wrap_u16]; congr 3
theorem xu16_sub : xBin P .sub t cx (u16 x) cy (u16 y) w K = K (u16 (x - y)) w := by
  rw [xBin_sub, wrap_u16]; congr 3; rw [BitVec.toNat_ofInt, BitVec.toNat_sub]; omega
theorem xu16_rem (h : y ≠ BitVec.ofNat 16 0) : xBin P .rem t cx (u16 x) cy (u16 y) w K = K (u16 (x % y)) w := by
  rw [xBin_rem (by intro e; exact h (BitVec.eq_of_toNat_eq (by simpa using e)))]; congr 1
theorem xu16_and : xBin P .and t cx (u16 x) cy (u16 y) w K = K (u16 (x &&& y)) w := xBin_ok (by
  have e : Op.intBits .and .u16 (x.toNat : Int) (y.toNat : Int) = pure (.int .u16 (IntKind.u16.wrap ((BitVec.ofInt 16 (x.toNat : Int) &&& BitVec.ofInt 16 (y.toNat : Int)).toNat : Int))) := rfl
  rw [BitVec.ofInt_natCast, BitVec.ofInt_natCast, BitVec.ofNat_toNat, BitVec.ofNat_toNat, BitVec.setWidth_eq, BitVec.setWidth_eq, wrap_u16_nat] at e
  simp only [eqGuard, binOp, e]
  rfl)
theorem xu16_com : xUn P .xor (u16 x) w K = K (u16 (~~~x)) w := xUn_ok (by
  have e : Op.unary .xor (.int .u16 (x.toNat : Int)) = pure (.int .u16 (IntKind.u16.wrap ((BitVec.ofInt 16 65535 ^^^ BitVec.ofInt 16 (x.toNat : Int)).toNat : Int))) := rfl
  rw [show BitVec.ofInt 16 65535 = BitVec.allOnes 16 by decide, BitVec.ofInt_natCast, BitVec.ofNat_toNat, BitVec.setWidth_eq, BitVec.allOnes_xor, wrap_u16_nat] at e
  rw [e]
  rfl)
theorem xu16_shr {k : IntKind} {i : Int} (h : 0 ≤ i) : xBin P .shr t cx (u16 x) cy (.int k i) w K = K (u16 (x >>> i.toNat)) w := by
  refine xBin_ok ?_
  have h' : ¬ i < 0 := by omega
  simp only [eqGuard, binOp, Op.shift, if_neg h']
  have e : (x.toNat : Int).fdiv (2 ^ min i.toNat (IntKind.bits .u16)) = ((x >>> i.toNat).toNat : Int) := by
    rw [BitVec.toNat_ushiftRight, Nat.shiftRight_eq_div_pow, show (2 ^ min i.toNat (IntKind.bits .u16) : Int) = ((2 ^ min i.toNat 16 : Nat) : Int) by push_cast; rfl, Int.fdiv_eq_ediv_of_nonneg _ (Int.natCast_nonneg _), ← Int.natCast_ediv]
    congr 1
    by_cases hm : i.toNat ≤ 16
    · rw [Nat.min_eq_left hm]
    · rw [Nat.min_eq_right (by omega)]
      have h1 : x.toNat < 2 ^ 16 := x.isLt
      have h2 : 2 ^ 16 ≤ 2 ^ i.toNat := Nat.pow_le_pow_right (by decide) (by omega)
      rw [Nat.div_eq_of_lt h1, Nat.div_eq_of_lt (by omega)]
  simp [e]
theorem xu16_eql : xBin P .eql t cx (u16 x) cy (u16 y) w K = K (.bool (decide (x = y))) w := by
  rw [xBin_eql]; congr 2; simp only [Int.natCast_inj, BitVec.toNat_inj]
theorem xu16_neq : xBin P .neq t cx (u16 x) cy (u16 y) w K = K (.bool (decide (x ≠ y))) w := by
  rw [xBin_neq]; congr 2; simp only [ne_eq, Int.natCast_inj, BitVec.toNat_inj]
theorem xu16_lss : xBin P .lss t cx (u16 x) cy (u16 y) w K = K (.bool (decide (x.toNat < y.toNat))) w := by
  rw [xBin_lss]; congr 2; simp
theorem xu16_leq : xBin P .leq t cx (u16 x) cy (u16 y) w K = K (.bool (decide (x.toNat ≤ y.toNat))) w := by
  rw [xBin_leq]; congr 2; simp
theorem xu16_gtr : xBin P .gtr t cx (u16 x) cy (u16 y) w K = K (.bool (decide (y.toNat < x.toNat))) w := by
  rw [xBin_gtr]; congr 2; simp
theorem xu16_geq : xBin P .geq t cx (u16 x) cy (u16 y) w K = K (.bool (decide (y.toNat ≤ x.toNat))) w := by
  rw [xBin_geq]; congr 2; simp
end

/-! u32 -/
abbrev u32 (x : BitVec 32) : Value := .int .u32 (x.toNat : Int)
theorem wrap_u32 (i : Int) : IntKind.u32.wrap i = ((BitVec.ofInt 32 i).toNat : Int) := by
  rw [BitVec.toNat_ofInt]
  simp only [IntKind.wrap, IntKind.signed, IntKind.bits]
  have := Int.emod_nonneg i (b := ((2 ^ 32 : Nat) : Int)) (by decide)
  simp [Int.toNat_of_nonneg this]
  omega
theorem wrap_u32_nat (x : BitVec 32) : IntKind.u32.wrap (x.toNat : Int) = (x.toNat : Int) := by
  rw [wrap_u32]; simp
section
variable {x y : BitVec 32}
theorem xu32_add : xBin P .add t cx (u32 x) cy (u32 y) w K = K (u32 (x + y)) w := by
  rw [xBin_add, wrap_u32]; congr 3
theorem xu32_sub : xBin P .sub t cx (u32 x) cy (u32 y) w K = K (u32 (x - y)) w := by
  rw [xBin_sub, wrap_u32]; congr 3; rw [BitVec.toNat_ofInt, BitVec.toNat_sub]; omega
theorem xu32_rem (h : y ≠ BitVec.ofNat 32 0) : xBin P .rem t cx (u32 x) cy (u32 y) w K = K (u32 (x % y)) w := by
  rw [xBin_rem (by intro e; exact h (BitVec.eq_of_toNat_eq (by simpa using e)))]; congr 1
theorem xu32_and : xBin P .and t cx (u32 x) cy (u32 y) w K = K (u32 (x &&& y)) w := xBin_ok (by
  have e : Op.intBits .and .u32 (x.toNat : Int) (y.toNat : Int) = pure (.int .u32 (IntKind.u32.wrap ((BitVec.ofInt 32 (x.toNat : Int) &&& BitVec.ofInt 32 (y.toNat : Int)).toNat : Int))) := rfl
  rw [BitVec.ofInt_natCast, BitVec.ofInt_natCast, BitVec.ofNat_toNat, BitVec.ofNat_toNat, BitVec.setWidth_eq, BitVec.setWidth_eq, wrap_u32_nat] at e
  simp only [eqGuard, binOp, e]
  rfl)
theorem xu32_com : xUn P .xor (u32 x) w K = K (u32 (~~~x)) w := xUn_ok (by
  have e : Op.unary .xor (.int .u32 (x.toNat : Int)) = pure (.int .u32 (IntKind.u32.wrap ((BitVec.ofInt 32 4294967295 ^^^ BitVec.ofInt 32 (x.toNat : Int)).toNat : Int))) := rfl
  rw [show BitVec.ofInt 32 4294967295 = BitVec.allOnes 32 by decide, BitVec.ofInt_natCast, BitVec.ofNat_toNat, BitVec.setWidth_eq, BitVec.allOnes_xor, wrap_u32_nat] at e
  rw [e]
  rfl)
theorem xu32_shr {k : IntKind} {i : Int} (h : 0 ≤ i) : xBin P .shr t cx (u32 x) cy (.int k i) w K = K (u32 (x >>> i.toNat)) w := by
  refine xBin_ok ?_
  have h' : ¬ i < 0 := by omega
  simp only [eqGuard, binOp, Op.shift, if_neg h']
  have e : (x.toNat : Int).fdiv (2 ^ min i.toNat (IntKind.bits .u32)) = ((x >>> i.toNat).toNat : Int) := by
    rw [BitVec.toNat_ushiftRight, Nat.shiftRight_eq_div_pow, show (2 ^ min i.toNat (IntKind.bits .u32) : Int) = ((2 ^ min i.toNat 32 : Nat) : Int) by push_cast; rfl, Int.fdiv_eq_ediv_of_nonneg _ (Int.natCast_nonneg _), ← Int.natCast_ediv]
    congr 1
    by_cases hm : i.toNat ≤ 32
    · rw [Nat.min_eq_left hm]
    · rw [Nat.min_eq_right (by omega)]
      have h1 : x.toNat < 2 ^ 32 := x.isLt
      have h2 : 2 ^ 32 ≤ 2 ^ i.toNat := Nat.pow_le_pow_right (by decide) (by omega)
      rw [Nat.div_eq_of_lt h1, Nat.div_eq_of_lt (by omega)]
  simp [e]
theorem xu32_eql : xBin P .eql t cx (u32 x) cy (u32 y) w K = K (.bool (decide (x = y))) w := by
  rw [xBin_eql]; congr 2; simp only [Int.natCast_inj, BitVec.toNat_inj]
theorem xu32_neq : xBin P .neq t cx (u32 x) cy (u32 y) w K = K (.bool (decide (x ≠ y))) w := by
  rw [xBin_neq]; congr 2; simp only [ne_eq, Int.natCast_inj, BitVec.toNat_inj]
theorem xu32_lss : xBin P .lss t cx (u32 x) cy (u32 y) w K = K (.bool (decide (x.toNat < y.toNat))) w := by
  rw [xBin_lss]; congr 2; simp
theorem xu32_leq : xBin P .leq t cx (u32 x) cy (u32 y) w K = K (.bool (decide (x.toNat ≤ y.toNat))) w := by
  rw [xBin_leq]; congr 2; simp
theorem xu32_gtr : xBin P .gtr t cx (u32 x) cy (u32 y) w K = K (.bool (decide (y.toNat < x.toNat))) w := by
  rw [xBin_gtr]; congr 2; simp
theorem xu32_geq : xBin P .geq t cx (u32 x) cy (u32 y) w K = K (.bool (decide (y.toNat ≤ x.toNat))) w := by
  rw [xBin_geq]; congr 2; simp
end

/-! u64 -/
abbrev u64 (x : BitVec 64) : Value := .int .u64 (x.toNat : Int)
abbrev c64 (n : Nat) : Value := u64 (BitVec.ofNat 64 n)
theorem wrap_u64 (i : Int) : IntKind.u64.wrap i = ((BitVec.ofInt 64 i).toNat : Int) := by
  rw [BitVec.toNat_ofInt]
  simp only [IntKind.wrap, IntKind.signed, IntKind.bits]
  have := Int.emod_nonneg i (b := ((2 ^ 64 : Nat) : Int)) (by decide)
  simp [Int.toNat_of_nonneg this]
  omega
theorem wrap_u64_nat (x : BitVec 64) : IntKind.u64.wrap (x.toNat : Int) = (x.toNat : Int) := by
  rw [wrap_u64]; simp
section
variable {x y : BitVec 64}
theorem xu64_add : xBin P .add t cx (u64 x) cy (u64 y) w K = K (u64 (x + y)) w := by
  rw [xBin_add, wrap_u64]; congr 3
theorem xu64_sub : xBin P .sub t cx (u64 x) cy (u64 y) w K = K (u64 (x - y)) w := by
  rw [xBin_sub, wrap_u64]; congr 3; rw [BitVec.toNat_ofInt, BitVec.toNat_sub]; omega
theorem xu64_rem (h : y ≠ BitVec.ofNat 64 0) : xBin P .rem t cx (u64 x) cy (u64 y) w K = K (u64 (x % y)) w := by
  rw [xBin_rem (by intro e; exact h (BitVec.eq_of_toNat_eq (by simpa using e)))]; congr 1
theorem xu64_and : xBin P .and t cx (u64 x) cy (u64 y) w K = K (u64 (x &&& y)) w := xBin_ok (by
  have e : Op.intBits .and .u64 (x.toNat : Int) (y.toNat : Int) = pure (.int .u64 (IntKind.u64.wrap ((BitVec.ofInt 64 (x.toNat : Int) &&& BitVec.ofInt 64 (y.toNat : Int)).toNat : Int))) := rfl
  rw [BitVec.ofInt_natCast, BitVec.ofInt_natCast, BitVec.ofNat_toNat, BitVec.ofNat_toNat, BitVec.setWidth_eq, BitVec.setWidth_eq, wrap_u64_nat] at e
  simp only [eqGuard, binOp, e]
  rfl)
theorem xu64_com : xUn P .xor (u64 x) w K = K (u64 (~~~x)) w := xUn_ok (by
  have e : Op.unary .xor (.int .u64 (x.toNat : Int)) = pure (.int .u64 (IntKind.u64.wrap ((BitVec.ofInt 64 18446744073709551615 ^^^ BitVec.ofInt 64 (x.toNat : Int)).toNat : Int))) := rfl
  rw [show BitVec.ofInt 64 18446744073709551615 = BitVec.allOnes 64 by decide, BitVec.ofInt_natCast, BitVec.ofNat_toNat, BitVec.setWidth_eq, BitVec.allOnes_xor, wrap_u64_nat] at e
  rw [e]
  rfl)
theorem xu64_shr {k : IntKind} {i : Int} (h : 0 ≤ i) : xBin P .shr t cx (u64 x) cy (.int k i) w K = K (u64 (x >>> i.toNat)) w := by
  refine xBin_ok ?_
  have h' : ¬ i < 0 := by omega
  simp only [eqGuard, binOp, Op.shift, if_neg h']
  have e : (x.toNat : Int).fdiv (2 ^ min i.toNat (IntKind.bits .u64)) = ((x >>> i.toNat).toNat : Int) := by
    rw [BitVec.toNat_ushiftRight, Nat.shiftRight_eq_div_pow, show (2 ^ min i.toNat (IntKind.bits .u64) : Int) = ((2 ^ min i.toNat 64 : Nat) : Int) by push_cast; rfl, Int.fdiv_eq_ediv_of_nonneg _ (Int.natCast_nonneg _), ← Int.natCast_ediv]
    congr 1
    by_cases hm : i.toNat ≤ 64
    · rw [Nat.min_eq_left hm]
    · rw [Nat.min_eq_right (by omega)]
      have h1 : x.toNat < 2 ^ 64 := x.isLt
      have h2 : 2 ^ 64 ≤ 2 ^ i.toNat := Nat.pow_le_pow_right (by decide) (by omega)
      rw [Nat.div_eq_of_lt h1, Nat.div_eq_of_lt (by omega)]
  simp [e]
theorem xu64_eql : xBin P .eql t cx (u64 x) cy (u64 y) w K = K (.bool (decide (x = y))) w := by
  rw [xBin_eql]; congr 2; simp only [Int.natCast_inj, BitVec.toNat_inj]
theorem xu64_neq : xBin P .neq t cx (u64 x) cy (u64 y) w K = K (.bool (decide (x ≠ y))) w := by
  rw [xBin_neq]; congr 2; simp only [ne_eq, Int.natCast_inj, BitVec.toNat_inj]
theorem xu64_lss : xBin P .lss t cx (u64 x) cy (u64 y) w K = K (.bool (decide (x.toNat < y.toNat))) w := by
  rw [xBin_lss]; congr 2; simp
theorem xu64_leq : xBin P .leq t cx (u64 x) cy (u64 y) w K = K (.bool (decide (x.toNat ≤ y.toNat))) w := by
  rw [xBin_leq]; congr 2; simp
theorem xu64_gtr : xBin P .gtr t cx (u64 x) cy (u64 y) w K = K (.bool (decide (y.toNat < x.toNat))) w := by
  rw [xBin_gtr]; congr 2; simp
theorem xu64_geq : xBin P .geq t cx (u64 x) cy (u64 y) w K = K (.bool (decide (y.toNat ≤ x.toNat))) w := by
  rw [xBin_geq]; congr 2; simp
end

/-! int -/
section
variable {a b : Int}
theorem xi64_eql : xBin P .eql t cx (.int .i64 a) cy (.int .i64 b) w K = K (.bool (decide (a = b))) w := xBin_eql
theorem xi64_neq : xBin P .neq t cx (.int .i64 a) cy (.int .i64 b) w K = K (.bool (decide (a ≠ b))) w := xBin_neq
theorem xi64_lss : xBin P .lss t cx (.int .i64 a) cy (.int .i64 b) w K = K (.bool (decide (a < b))) w := xBin_lss
theorem xi64_leq : xBin P .leq t cx (.int .i64 a) cy (.int .i64 b) w K = K (.bool (decide (a ≤ b))) w := xBin_leq
theorem xi64_gtr : xBin P .gtr t cx (.int .i64 a) cy (.int .i64 b) w K = K (.bool (decide (b < a))) w := xBin_gtr
theorem xi64_geq : xBin P .geq t cx (.int .i64 a) cy (.int .i64 b) w K = K (.bool (decide (b ≤ a))) w := xBin_geq
theorem xi64_shr {k : IntKind} {i : Int} (h : 0 ≤ i) : xBin P .shr t cx (.int .i64 a) cy (.int k i) w K = K (.int .i64 (a.fdiv (2 ^ min i.toNat 64))) w :=
  xBin_ok (by have h' : ¬ i < 0 := by omega
              simp [eqGuard, binOp, Op.shift, if_neg h', IntKind.bits])
theorem wrap_i64_toInt (x : BitVec 64) : IntKind.i64.wrap (x.toNat : Int) = x.toInt := by
  rw [IntKind.wrap_i64, BitVec.toInt_eq_toNat_cond]; have := x.isLt; split <;> omega
theorem xi64_and : xBin P .and t cx (.int .i64 a) cy (.int .i64 b) w K = K (.int .i64 (BitVec.ofInt 64 a &&& BitVec.ofInt 64 b).toInt) w := xBin_ok (by
  have e : Op.intBits .and .i64 a b = pure (.int .i64 (IntKind.i64.wrap ((BitVec.ofInt 64 a &&& BitVec.ofInt 64 b).toNat : Int))) := rfl
  rw [wrap_i64_toInt] at e
  simp only [eqGuard, binOp, e]
  rfl)
theorem xi64_neg (h1 : -9223372036854775808 ≤ -a) (h2 : -a ≤ 9223372036854775807) : xUn P .neg (.int .i64 a) w K = K (.int .i64 (-a)) w := xUn_ok (by
  simp [Op.unary, Op.intArith, wrap_in h1 h2])
theorem wrap_i64_u8 (x : BitVec 8) : IntKind.i64.wrap (x.toNat : Int) = (x.toNat : Int) := wrap_in (by omega) (by have := x.isLt; omega)
end

/-! places -/
theorem addr_add {b o j : Nat} : (⟨b, o, none⟩ : Addr).add j = ⟨b, o + j, none⟩ := by
  unfold Addr.add
  split
  · rename_i h; subst h; rfl
  · rfl
theorem xIndexAddr_sl {e len c n b o : Nat} {k : IntKind} {i : Int} (h : P.underlying t = some (.slice e)) (hs : (P.info? e).map (·.size) = some n) (h0 : 0 ≤ i) (h1 : i < len) :
    xIndexAddr P t (.slice (some ⟨b, o, none⟩) len c) (.int k i) w K = K (.pointer (some ⟨b, o + i.toNat * n, none⟩)) w := by
  cases hi : P.info? e with
  | none => rw [hi] at hs; cases hs
  | some inf =>
    have hsz : inf.size = n := by simpa [hi] using hs
    have : (Instr.indexAt t (.slice (some ⟨b, o, none⟩) len c) (.int k i)).run P w = .ok (.pointer (some ⟨b, o + i.toNat * n, none⟩)) w := by
      simp [Instr.indexAt, asIntOf, underlying, h, sizeOf, typeInfo, hi, hsz, h0, h1, addr_add]
    exact propext ⟨fun hx => by have := hx.out; rw [‹(Instr.indexAt _ _ _).run P w = _›] at this; exact this, fun hk => ⟨by rw [this]; exact hk⟩⟩
end
end Go.Sh
