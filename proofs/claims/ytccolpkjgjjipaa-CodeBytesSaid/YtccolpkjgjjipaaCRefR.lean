/- The document's reader reads as the program's, plainly. -/
import Derived.Test.YtccolpkjgjjipaaCRefB
namespace Go.Proofs.Ytccolpkjgjjipaa.K
set_option linter.unusedVariables false
set_option linter.unusedSimpArgs false
open Go.RowKit Go.Proofs.YtccolpkjgjjipaaW.PrintWords
/-- Bytes, as many as statements look at. -/
def Byt (s : List Int) : Prop := ∀ x ∈ s, 0 ≤ x ∧ x < 256
theorem or64 {a b : Nat} (ha : a < 2 ^ 64) (hb : b < 2 ^ 64) : Go.bits .or .u64 (a : Int) (b : Int) = ((a ||| b : Nat) : Int) := by
  have h := Nat.or_lt_two_pow ha hb
  have e5 : IntKind.u64.bits = 64 := rfl
  unfold Go.bits
  simp only []
  rw [u64_mod, BitVec.toNat_or, e5, BitVec.ofInt_natCast, BitVec.ofInt_natCast, BitVec.toNat_ofNat, BitVec.toNat_ofNat, Nat.mod_eq_of_lt ha, Nat.mod_eq_of_lt hb]
  omega
theorem and1_64 {a : Nat} (ha : a < 2 ^ 64) : Go.bits .and .u64 (a : Int) 1 = ((a % 2 : Nat) : Int) := by
  have e5 : IntKind.u64.bits = 64 := rfl
  unfold Go.bits
  simp only []
  rw [u64_mod, BitVec.toNat_and, e5, BitVec.ofInt_natCast, show (1 : Int) = ((1 : Nat) : Int) from rfl, BitVec.ofInt_natCast, BitVec.toNat_ofNat, BitVec.toNat_ofNat, Nat.mod_eq_of_lt ha, Nat.mod_eq_of_lt (by omega), Nat.and_one_is_mod]
  omega
theorem and127 {u : Int} (h0 : 0 ≤ u) (h1 : u < 256) : Go.bits .and .u8 u 127 = u % 128 := by
  obtain ⟨n, rfl⟩ := Int.eq_ofNat_of_zero_le h0
  have hn : n < 256 := by omega
  have : ∀ m : Fin 256, Go.bits .and .u8 ((m.val : Nat) : Int) 127 = ((m.val : Nat) : Int) % 128 := by decide +kernel
  exact this ⟨n, hn⟩
theorem or_add (i x c : Nat) (hx : x < 2 ^ i) : x ||| (2 ^ i * c) = x + 2 ^ i * c := by
  rw [Nat.or_comm, ← Nat.two_pow_add_eq_or_of_lt hx, Nat.add_comm]
theorem rdStep_eq (x b : Int) (j : Nat) (hj : j ≤ 9) (h0 : 0 ≤ x) (hx : x < 2 ^ (7 * j)) (hb0 : 0 ≤ b) (hb : b < 256) :
    rdStep x b j = x + (b % 128 * 2 ^ (7 * j)) % 18446744073709551616 ∧ x + (b % 128 * 2 ^ (7 * j)) % 18446744073709551616 < 18446744073709551616 ∧ (j ≤ 8 → x + (b % 128 * 2 ^ (7 * j)) % 18446744073709551616 < 2 ^ (7 * (j + 1))) := by
  obtain ⟨n, rfl⟩ := Int.eq_ofNat_of_zero_le h0
  have hk : ∀ c : Nat, (b % 128 * 2 ^ (7 * j)) % 18446744073709551616 = ((2 ^ (7 * j) * c : Nat) : Int) → 2 ^ (7 * j) * c < 2 ^ 64 → n < 2 ^ 64 → rdStep n b j = n + (b % 128 * 2 ^ (7 * j)) % 18446744073709551616 := by
    intro c hc h1 h2
    unfold rdStep
    rw [and127 hb0 hb, u64_mod, u64_mod, show b % 128 % 18446744073709551616 = b % 128 by omega, hc, or64 h2 h1, or_add _ _ _ (by exact_mod_cast hx)]
    rw [Int.natCast_add]
  obtain ⟨c, hc⟩ := Int.eq_ofNat_of_zero_le (show 0 ≤ b % 128 by omega)
  rcases (by omega : j = 0 ∨ j = 1 ∨ j = 2 ∨ j = 3 ∨ j = 4 ∨ j = 5 ∨ j = 6 ∨ j = 7 ∨ j = 8 ∨ j = 9) with rfl | rfl | rfl | rfl | rfl | rfl | rfl | rfl | rfl | rfl
  all_goals simp only [Nat.mul_zero, Nat.reduceMul, Nat.reduceAdd, Int.reducePow, Nat.reducePow] at hx hk ⊢
  case inr.inr.inr.inr.inr.inr.inr.inr.inr =>
    refine ⟨hk (c % 2) (by rw [hc]; omega) (by omega) (by omega), by omega, fun h => absurd h (by omega)⟩
  all_goals exact ⟨hk c (by rw [hc]; omega) (by omega) (by omega), by omega, fun _ => by omega⟩
theorem rdFin_eq {U : Int} (h0 : 0 ≤ U) (h1 : U < 18446744073709551616) : rdFin U = if U % 2 = 0 then U / 2 else -(U / 2) - 1 := by
  obtain ⟨n, rfl⟩ := Int.eq_ofNat_of_zero_le h0
  unfold rdFin
  rw [and1_64 (by omega)]
  have e1 : wrap64 ((n : Int) / 2) = (n : Int) / 2 := wrap_i64 (by omega) (by omega)
  rw [e1]
  have e5 : IntKind.i64.bits = 64 := rfl
  have e6 : ∀ m : Int, -9223372036854775808 ≤ m → m ≤ 9223372036854775807 → IntKind.i64.wrap (m % 18446744073709551616) = m := by
    intro m h2 h3
    simp only [IntKind.wrap, IntKind.bits, IntKind.signed, Bool.true_and]
    split <;> simp_all <;> omega
  by_cases h : (n : Int) % 2 = 0
  · rw [if_pos h, show ((n % 2 : Nat) : Int) = 0 by omega]
    have e2 : wrap64 (-wrap64 0) = 0 := by unfold wrap64; omega
    rw [e2]
    unfold Go.bits
    simp only []
    rw [e5, show (0 : Int) = ((0 : Nat) : Int) from rfl, BitVec.ofInt_natCast, show BitVec.ofNat 64 0 = 0#64 from rfl, BitVec.xor_zero, BitVec.toNat_ofInt]
    have := e6 ((n : Int) / 2) (by omega) (by omega)
    rw [show ((((n : Int) / 2 % (2 ^ 64 : Nat)).toNat : Nat) : Int) = (n : Int) / 2 % 18446744073709551616 by omega]
    exact this
  · rw [if_neg h, show ((n % 2 : Nat) : Int) = 1 by omega]
    have e2 : wrap64 (-wrap64 1) = -1 := by unfold wrap64; omega
    rw [e2]
    unfold Go.bits
    simp only []
    rw [e5, show BitVec.ofInt 64 (-1) = BitVec.allOnes 64 from by decide, BitVec.xor_allOnes, BitVec.toNat_not, BitVec.toNat_ofInt]
    have := e6 (-((n : Int) / 2) - 1) (by omega) (by omega)
    rw [show (((2 ^ 64 - 1 - ((n : Int) / 2 % (2 ^ 64 : Nat)).toNat : Nat)) : Int) = (-((n : Int) / 2) - 1) % 18446744073709551616 by omega]
    exact this
theorem rdFin_in64 {U : Int} (h0 : 0 ≤ U) (h1 : U < 18446744073709551616) : In64 (rdFin U) := by
  rw [rdFin_eq h0 h1]
  unfold In64
  split <;> omega
#print axioms rdStep_eq
#print axioms rdFin_in64
end Go.Proofs.Ytccolpkjgjjipaa.K
