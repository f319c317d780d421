/- Plain arithmetic: fixq.Lerp and the reference's Lerp are the same held sums of parts. -/
import Derived.Test.YthgnpmchhikchaaMSum
import Derived.Test.YthgnpmchhikchaaMDiv3
import Derived.Test.YthgnpmchhikchaaQ11
namespace Go.Proofs.Ythgnpmchhikchaa.Q
open Go.RowKit Go.Proofs.YthgnpmchhikchaaW.PrintWords Go.Proofs.YthgnpmchhikchaaW.PrintLast Go.Proofs.YthgnpmchhikchaaW.PrintMore
set_option linter.unusedVariables false

/-- How many halvings, and which part. -/
def lerpK (k : Int) : Nat := if k < 0 then 0 else if k > 32 then 32 else k.toNat
def lerpM (m : Int) (K : Nat) : Nat := if m < 0 then 0 else if m > ((2 ^ K : Nat) : Int) then 2 ^ K else m.toNat
theorem lerpK_le (k : Int) : lerpK k ≤ 32 := by unfold lerpK; split; omega; split <;> omega
theorem lerpM_le (m : Int) (K : Nat) : lerpM m K ≤ 2 ^ K := by
  unfold lerpM
  generalize 2 ^ K = P
  split; omega; split <;> omega
theorem pow32 {K : Nat} (h : K ≤ 32) : 2 ^ K ≤ 4294967296 := by
  have : (2 : Nat) ^ K ≤ 2 ^ 32 := Nat.pow_le_pow_right (by decide) h
  simpa using this
/-- The part of the difference, as a number. -/
def lerpP (d : Int) (M K : Nat) : Int × Int := sat (sg (decide (d < 0)) (d.natAbs * M / 2 ^ K))
def lerpD (a b : Int) : Int × Int := sat (b - a)
def lerpV (a b m k : Int) : Int × Int := sat (a + (lerpP (lerpD a b).1 (lerpM m (lerpK k)) (lerpK k)).1)
def lerpF (a b m k : Int) : Int := if (lerpD a b).2 = 0 ∧ (lerpP (lerpD a b).1 (lerpM m (lerpK k)) (lerpK k)).2 = 0 ∧ (lerpV a b m k).2 = 0 then 0 else 1
theorem sat_flag01 (x : Int) : (sat x).2 = 0 ∨ (sat x).2 = 1 := by unfold sat; split; exact .inr rfl; split; exact .inr rfl; exact .inl rfl

theorem flags_ev (f g h : Int) (hf : f = 0 ∨ f = 1) (hg : g = 0 ∨ g = 1) (hh : h = 0 ∨ h = 1) : Ev (fun k => fixq_flags.f k [f, g, h]) (if f = 0 ∧ g = 0 ∧ h = 0 then 0 else 1) := by
  rcases hf with rfl | rfl <;> rcases hg with rfl | rfl <;> rcases hh with rfl | rfl <;> exact Ev.of (fun k => fixq_flags.mono _ k) (k := 5) (by decide +kernel)
theorem mx_mn (k : Int) : mx 0 (mn k 32) = (lerpK k : Int) := by
  unfold mx mn lerpK
  split <;> split <;> split <;> (try split) <;> omega
theorem mx_mn2 (m : Int) (K : Nat) (hK : K ≤ 32) : mx 0 (mn m (wrap64 (2 ^ K))) = (lerpM m K : Int) := by
  have hp := pow32 hK
  have e : ((2 : Int) ^ K) = ((2 ^ K : Nat) : Int) := by simp
  rw [e]
  unfold mx mn lerpM
  generalize 2 ^ K = P at *
  rw [wrap_in (by omega) (by omega)]
  split <;> split <;> split <;> (try split) <;> omega
theorem shift_words (P K : Nat) (hK : K ≤ 32) (hP : P / 18446744073709551616 < 18446744073709551616) :
    (((P / 18446744073709551616 : Nat) : Int) / 2 ^ K = ((P / 2 ^ K / 18446744073709551616 : Nat) : Int)) ∧
    bits .or .u64 (IntKind.u64.wrap (((P / 18446744073709551616 : Nat) : Int) * 2 ^ (64 - K))) (((P % 18446744073709551616 : Nat) : Int) / 2 ^ K) = ((P / 2 ^ K % 18446744073709551616 : Nat) : Int) := by
  have e : ∀ n : Nat, ((2 : Int) ^ n) = ((2 ^ n : Nat) : Int) := fun n => by simp
  have hpK := Nat.two_pow_pos K
  have h64 : (18446744073709551616 : Nat) = 2 ^ (64 - K) * 2 ^ K := by rw [← Nat.pow_add, show 64 - K + K = 64 by omega]
  obtain ⟨H, eH⟩ : ∃ H, H = P / 18446744073709551616 := ⟨_, rfl⟩
  obtain ⟨L, eL⟩ : ∃ L, L = P % 18446744073709551616 := ⟨_, rfl⟩
  have hHL : P = H * 18446744073709551616 + L := by omega
  have hL : L < 18446744073709551616 := by omega
  have d1 : P / 2 ^ K = H * 2 ^ (64 - K) + L / 2 ^ K := by
    have : H * 18446744073709551616 + L = L + 2 ^ K * (H * 2 ^ (64 - K)) := by
      have : H * 18446744073709551616 = 2 ^ K * (H * 2 ^ (64 - K)) := by
        rw [h64, ← Nat.mul_assoc, Nat.mul_comm]
      rw [this, Nat.add_comm]
    rw [hHL, this, Nat.add_mul_div_left _ _ hpK]; omega
  have hlow : L / 2 ^ K < 2 ^ (64 - K) := by
    refine (Nat.div_lt_iff_lt_mul hpK).2 ?_
    rw [← h64]; exact hL
  rw [← eH, ← eL]
  constructor
  · rw [e K]
    have : P / 2 ^ K / 18446744073709551616 = H / 2 ^ K := by
      rw [Nat.div_div_eq_div_mul, Nat.mul_comm, ← Nat.div_div_eq_div_mul, ← eH]
    rw [this]; simp
  · rw [d1, e (64 - K), e K]
    have c1 : (L : Int) / ((2 ^ K : Nat) : Int) = ((L / 2 ^ K : Nat) : Int) := by simp
    have c2 : IntKind.u64.wrap ((H : Int) * ((2 ^ (64 - K) : Nat) : Int)) = ((H * 2 ^ (64 - K) % 18446744073709551616 : Nat) : Int) := by rw [u64w]; simp
    rw [c1, c2]
    have hmod : H * 2 ^ (64 - K) % 18446744073709551616 % 2 ^ (64 - K) = 0 := by
      rw [h64, Nat.mod_mul_right_mod, Nat.mul_mod_left]
    have hmlt : H * 2 ^ (64 - K) % 18446744073709551616 < 18446744073709551616 := Nat.mod_lt _ (by decide)
    have hsum : (H * 2 ^ (64 - K) + L / 2 ^ K) % 18446744073709551616 = H * 2 ^ (64 - K) % 18446744073709551616 + L / 2 ^ K := by
      have h1 : H * 2 ^ (64 - K) % 18446744073709551616 = H % 2 ^ K * 2 ^ (64 - K) := by
        rw [h64, Nat.mul_comm (2 ^ (64 - K)) (2 ^ K), Nat.mul_mod_mul_right]
      have h2 : H % 2 ^ K * 2 ^ (64 - K) + 2 ^ (64 - K) ≤ 18446744073709551616 := by
        have : (H % 2 ^ K + 1) * 2 ^ (64 - K) ≤ 2 ^ K * 2 ^ (64 - K) := Nat.mul_le_mul_right _ (Nat.mod_lt _ hpK)
        rw [Nat.succ_mul, Nat.mul_comm (2 ^ K), ← h64] at this
        exact this
      have h3 : L / 2 ^ K ≤ L := Nat.div_le_self _ _
      rw [Nat.add_mod, Nat.mod_eq_of_lt (show L / 2 ^ K < 18446744073709551616 by omega), Nat.mod_eq_of_lt (by omega)]
    rw [hsum]
    by_cases hK0 : K = 0
    · subst hK0
      have hz : H * 2 ^ (64 - 0) % 18446744073709551616 = 0 := by simp
      rw [hz]
      have := or_at 0 0 0 (by omega) (by decide) (by simp) (by simp)
      have hb := (bits_nat .u64 64 (by decide) wraps_u64 0 (L / 2 ^ 0) (by decide) (by simpa using hL)).2
      simpa using hb
    · exact or_at _ _ (64 - K) (by omega) hmlt hmod hlow
theorem lerp_ev (a b m k : Int) (ha : In64 a) (hb : In64 b) : Ev (fun n => fixq_Lerp.f n a b m k) ((lerpV a b m k).1, lerpF a b m k) := by
  unfold fixq_Lerp.f
  rw [sub_eq b a hb ha]
  simp only [Option.bind_some]
  have hd := sat_bd (b - a)
  have hK := lerpK_le k
  have hM := lerpM_le m (lerpK k)
  have hp := pow32 hK
  rw [size_eq _ hd, mx_mn k]
  simp only [Option.bind_some, Int.toNat_natCast]
  rw [show ((64 : Int) - (lerpK k : Int)).toNat = 64 - lerpK k by omega, mx_mn2 m _ hK, u64_in (x := (lerpM m (lerpK k) : Int)) (by omega) (by omega)]
  unfold lerpF lerpV lerpP lerpD
  generalize lerpM m (lerpK k) = M at *
  generalize lerpK k = K at *
  obtain ⟨h1, h2⟩ := hd
  generalize hdd : sat (b - a) = D at *
  have hf1 : D.2 = 0 ∨ D.2 = 1 := by rw [← hdd]; exact sat_flag01 _
  rw [mul64_eq _ _ (by omega) (by omega)]
  simp only [Option.bind_some]
  have hle : D.1.natAbs * M ≤ 9223372036854775808 * 4294967296 := Nat.mul_le_mul (by omega) (by omega)
  generalize D.1.natAbs * M = P at *
  obtain ⟨s1, s2⟩ := shift_words P K hK (by omega)
  have hq : P / 2 ^ K ≤ P := Nat.div_le_self _ _
  rw [s1, s2]
  generalize P / 2 ^ K = X at *
  have hh := held_nat (X / 18446744073709551616) (X % 18446744073709551616) (decide (D.1 < 0)) (by omega) (by omega)
  rw [show X / 18446744073709551616 * 18446744073709551616 + X % 18446744073709551616 = X by omega] at hh
  refine Ev.bind hh ?_
  refine Ev.congr (fun n => by rw [add_eq a _ ha (sat_bd _)]) ?_
  simp only [Option.bind_some]
  exact Ev.bind (flags_ev _ _ _ hf1 (sat_flag01 _) (sat_flag01 _)) (Ev.now _)
end Go.Proofs.Ythgnpmchhikchaa.Q
