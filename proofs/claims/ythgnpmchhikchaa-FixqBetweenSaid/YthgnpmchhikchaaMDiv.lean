/- Plain arithmetic: math/bits.Div64 divides two words by one; fixq.Div is the quotient, held. -/
import Derived.Test.YthgnpmchhikchaaMFix
namespace Go.Proofs.Ythgnpmchhikchaa.Q
open Go.RowKit Go.Proofs.YthgnpmchhikchaaW.PrintWords Go.Proofs.YthgnpmchhikchaaW.PrintLast Go.Proofs.YthgnpmchhikchaaW.PrintMore
set_option linter.unusedVariables false
set_option linter.unusedSimpArgs false

/-! ### How many bits a number needs -/
def IsLen (x L : Nat) : Prop := x < 2 ^ L ∧ (x = 0 ∨ 2 ^ (L - 1) ≤ x ∧ 0 < L)
theorem isLen_shift {x c L : Nat} (h : IsLen (x / 2 ^ c) L) (hx : 0 < x / 2 ^ c) : IsLen x (L + c) := by
  obtain ⟨h1, h2⟩ := h
  have hp := Nat.two_pow_pos c
  refine ⟨?_, .inr ⟨?_, by rcases h2 with h2 | h2 <;> omega⟩⟩
  · rw [Nat.pow_add]; exact (Nat.div_lt_iff_lt_mul hp).1 h1
  · rcases h2 with h2 | ⟨h2, h3⟩
    · omega
    · have : 2 ^ (L + c - 1) = 2 ^ (L - 1) * 2 ^ c := by rw [← Nat.pow_add]; congr 1; omega
      rw [this]
      exact (Nat.le_div_iff_mul_le hp).1 h2
/-- The table of bits.Len8. -/
def lenTab : ByteArray := ⟨#[0, 1, 2, 2, 3, 3, 3, 3, 4, 4, 4, 4, 4, 4, 4, 4, 5, 5, 5, 5, 5, 5, 5, 5, 5, 5, 5, 5, 5, 5, 5, 5, 6, 6, 6, 6, 6, 6, 6, 6, 6, 6, 6, 6, 6, 6, 6, 6, 6, 6, 6, 6, 6, 6, 6, 6, 6, 6, 6, 6, 6, 6, 6, 6, 7, 7, 7, 7, 7, 7, 7, 7, 7, 7, 7, 7, 7, 7, 7, 7, 7, 7, 7, 7, 7, 7, 7, 7, 7, 7, 7, 7, 7, 7, 7, 7, 7, 7, 7, 7, 7, 7, 7, 7, 7, 7, 7, 7, 7, 7, 7, 7, 7, 7, 7, 7, 7, 7, 7, 7, 7, 7, 7, 7, 7, 7, 7, 7, 8, 8, 8, 8, 8, 8, 8, 8, 8, 8, 8, 8, 8, 8, 8, 8, 8, 8, 8, 8, 8, 8, 8, 8, 8, 8, 8, 8, 8, 8, 8, 8, 8, 8, 8, 8, 8, 8, 8, 8, 8, 8, 8, 8, 8, 8, 8, 8, 8, 8, 8, 8, 8, 8, 8, 8, 8, 8, 8, 8, 8, 8, 8, 8, 8, 8, 8, 8, 8, 8, 8, 8, 8, 8, 8, 8, 8, 8, 8, 8, 8, 8, 8, 8, 8, 8, 8, 8, 8, 8, 8, 8, 8, 8, 8, 8, 8, 8, 8, 8, 8, 8, 8, 8, 8, 8, 8, 8, 8, 8, 8, 8, 8, 8, 8, 8, 8, 8, 8, 8, 8, 8, 8, 8, 8, 8, 8, 8]⟩
theorem len_step (k : Nat) (x0 x2 : Int) : bits_Len64.j0 (k + 1) x0 x2 = if x0 ≥ 65536 then (if (x0 / 65536) ≥ 256 then (if 0 ≤ (((x0 / 65536) / 256) % 256) then (if (((x0 / 65536) / 256) % 256) < 256 then (some (wrap64 ((wrap64 ((wrap64 (x2 + 16)) + 8)) + (wrap64 (bt lenTab (((x0 / 65536) / 256) % 256)))))) else (none)) else (none)) else (if 0 ≤ ((x0 / 65536) % 256) then (if ((x0 / 65536) % 256) < 256 then (some (wrap64 ((wrap64 (x2 + 16)) + (wrap64 (bt lenTab ((x0 / 65536) % 256)))))) else (none)) else (none))) else (if x0 ≥ 256 then (if 0 ≤ ((x0 / 256) % 256) then (if ((x0 / 256) % 256) < 256 then (some (wrap64 ((wrap64 (x2 + 8)) + (wrap64 (bt lenTab ((x0 / 256) % 256)))))) else (none)) else (none)) else (if 0 ≤ ((x0) % 256) then (if ((x0) % 256) < 256 then (some (wrap64 (x2 + (wrap64 (bt lenTab ((x0) % 256)))))) else (none)) else (none))) := rfl
theorem lenTab_ok : ∀ i : Fin 256, (i.val = 0 ∧ bt lenTab (i.val : Int) = 0) ∨ (2 ^ ((bt lenTab (i.val : Int)).toNat - 1) ≤ i.val ∧ i.val < 2 ^ (bt lenTab (i.val : Int)).toNat ∧ 0 < (bt lenTab (i.val : Int)).toNat ∧ bt lenTab (i.val : Int) ≤ 8) := by decide +kernel
theorem lenTab_at (i : Nat) (h : i < 256) : ∃ L : Nat, bt lenTab (i : Int) = (L : Int) ∧ L ≤ 8 ∧ IsLen i L := by
  have h0 := bt_range lenTab (i : Int)
  have h1 := lenTab_ok ⟨i, h⟩
  simp only at h1
  refine ⟨(bt lenTab (i : Int)).toNat, by omega, ?_, ?_⟩
  · rcases h1 with h1 | h1 <;> omega
  · rcases h1 with ⟨h1, h2⟩ | ⟨h1, h2, h3, h4⟩
    · rw [h2]; exact ⟨by subst h1; decide, .inl h1⟩
    · exact ⟨h2, .inr ⟨h1, h3⟩⟩
theorem len_low (x n : Nat) (hx : x < 4294967296) (hn : n ≤ 32) : ∃ L : Nat, Ev (fun k => bits_Len64.j0 k (x : Int) (n : Int)) ((n + L : Nat) : Int) ∧ IsLen x L ∧ L ≤ 32 := by
  by_cases h1 : x ≥ 65536
  · by_cases h2 : x / 65536 ≥ 256
    · obtain ⟨L, hL, hl, h⟩ := lenTab_at (x / 65536 / 256) (by omega)
      have := isLen_shift (x := x) (c := 24) (L := L) (by rw [show x / 2 ^ 24 = x / 65536 / 256 by omega]; exact h) (by omega)
      refine ⟨L + 24, Ev.step (f := fun _ => some ((n + (L + 24) : Nat) : Int)) (fun k => ?_) (Ev.now _), this, by omega⟩
      rw [len_step]
      rw [if_pos (by omega), if_pos (by omega), if_pos (by omega), if_pos (by omega), show ((x : Int) / 65536 / 256) % 256 = ((x / 65536 / 256 : Nat) : Int) by omega]
      rw [hL]
      rw [wrap_in (x := (n : Int) + 16) (by omega) (by omega), wrap_in (x := (n : Int) + 16 + 8) (by omega) (by omega), wrap_in (x := (L : Int)) (by omega) (by omega), wrap_in (by omega) (by omega)]
      exact congrArg some (by omega)
    · obtain ⟨L, hL, hl, h⟩ := lenTab_at (x / 65536) (by omega)
      have := isLen_shift (x := x) (c := 16) (L := L) (by rw [show x / 2 ^ 16 = x / 65536 by omega]; exact h) (by omega)
      refine ⟨L + 16, Ev.step (f := fun _ => some ((n + (L + 16) : Nat) : Int)) (fun k => ?_) (Ev.now _), this, by omega⟩
      rw [len_step]
      rw [if_pos (by omega), if_neg (by omega), if_pos (by omega), if_pos (by omega), show ((x : Int) / 65536) % 256 = ((x / 65536 : Nat) : Int) by omega]
      rw [hL]
      rw [wrap_in (x := (n : Int) + 16) (by omega) (by omega), wrap_in (x := (L : Int)) (by omega) (by omega), wrap_in (by omega) (by omega)]
      exact congrArg some (by omega)
  · by_cases h2 : x ≥ 256
    · obtain ⟨L, hL, hl, h⟩ := lenTab_at (x / 256) (by omega)
      have := isLen_shift (x := x) (c := 8) (L := L) (by rw [show x / 2 ^ 8 = x / 256 by omega]; exact h) (by omega)
      refine ⟨L + 8, Ev.step (f := fun _ => some ((n + (L + 8) : Nat) : Int)) (fun k => ?_) (Ev.now _), this, by omega⟩
      rw [len_step]
      rw [if_neg (by omega), if_pos (by omega), if_pos (by omega), if_pos (by omega), show ((x : Int) / 256) % 256 = ((x / 256 : Nat) : Int) by omega]
      rw [hL]
      rw [wrap_in (x := (n : Int) + 8) (by omega) (by omega), wrap_in (x := (L : Int)) (by omega) (by omega), wrap_in (by omega) (by omega)]
      exact congrArg some (by omega)
    · obtain ⟨L, hL, hl, h⟩ := lenTab_at x (by omega)
      refine ⟨L, Ev.step (f := fun _ => some ((n + L : Nat) : Int)) (fun k => ?_) (Ev.now _), h, by omega⟩
      rw [len_step]
      rw [if_neg (by omega), if_neg (by omega), if_pos (by omega), if_pos (by omega), show (x : Int) % 256 = (x : Int) by omega]
      rw [hL]
      rw [wrap_in (x := (L : Int)) (by omega) (by omega), wrap_in (by omega) (by omega)]
      congr 1
theorem len_ev (x : Nat) (hx : x < 18446744073709551616) : ∃ L : Nat, Ev (fun k => bits_Len64.f k (x : Int)) (L : Int) ∧ IsLen x L ∧ L ≤ 64 := by
  unfold bits_Len64.f
  by_cases h : x ≥ 4294967296
  · obtain ⟨L, hL, h1, h2⟩ := len_low (x / 4294967296) 32 (by omega) (by omega)
    have := isLen_shift (x := x) (c := 32) (L := L) (by rw [show x / 2 ^ 32 = x / 4294967296 by omega]; exact h1) (by omega)
    refine ⟨L + 32, Ev.congr (fun k => ?_) (by rw [Nat.add_comm 32 L] at hL; exact hL), this, by omega⟩
    rw [if_pos (by omega)]
    congr 1
  · obtain ⟨L, hL, h1, h2⟩ := len_low x 0 (by omega) (by omega)
    refine ⟨L, Ev.congr (fun k => ?_) (by rw [Nat.zero_add] at hL; exact hL), h1, by omega⟩
    rw [if_neg (by omega)]
    congr 1
theorem lz_ev (x : Nat) (h0 : 0 < x) (hx : x < 18446744073709551616) : ∃ s : Nat, Ev (fun k => bits_LeadingZeros64.f k (x : Int)) (s : Int) ∧ s ≤ 63 ∧ x * 2 ^ s < 18446744073709551616 ∧ 9223372036854775808 ≤ x * 2 ^ s := by
  obtain ⟨L, hL, ⟨h1, h2⟩, h3⟩ := len_ev x hx
  obtain ⟨h2, h4⟩ : 2 ^ (L - 1) ≤ x ∧ 0 < L := by
    rcases h2 with h2 | h2
    · omega
    · exact h2
  refine ⟨64 - L, ?_, by omega, ?_, ?_⟩
  · unfold bits_LeadingZeros64.f
    refine Ev.bind hL ?_
    rw [wrap_in (by omega) (by omega), show (64 : Int) - (L : Int) = ((64 - L : Nat) : Int) by omega]
    exact Ev.now _
  · have : x * 2 ^ (64 - L) < 2 ^ L * 2 ^ (64 - L) := Nat.mul_lt_mul_of_pos_right h1 (Nat.two_pow_pos _)
    rw [← Nat.pow_add, show L + (64 - L) = 64 by omega] at this
    simpa using this
  · have : 2 ^ (L - 1) * 2 ^ (64 - L) ≤ x * 2 ^ (64 - L) := Nat.mul_le_mul_right _ h2
    rw [← Nat.pow_add, show L - 1 + (64 - L) = 63 by omega] at this
    simpa using this
end Go.Proofs.Ythgnpmchhikchaa.Q
