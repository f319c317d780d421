/- Plain arithmetic: fixq's sums and products. -/
import Derived.Test.YtgalkkolbobmbaaGreatV5
import Derived.Lib.Mul64
namespace Go.Proofs.YtgalkkolbobmbaaGreat.V
open Go.RowKit Go.Proofs.YtgalkkolbobmbaaGreatW.PrintWords Go.Proofs.YtgalkkolbobmbaaGreatW.PrintLast Go.Proofs.YtgalkkolbobmbaaGreatW.PrintMore
set_option linter.unusedVariables false

theorem wrap_in {x : Int} (h0 : -9223372036854775808 ≤ x) (h1 : x ≤ 9223372036854775807) : wrap64 x = x := by
  unfold wrap64; omega
theorem u64_in {x : Int} (h0 : 0 ≤ x) (h1 : x < 18446744073709551616) : IntKind.u64.wrap x = x := by
  unfold IntKind.wrap; simp [IntKind.bits, IntKind.signed]; omega
def In64 (a : Int) : Prop := -9223372036854775808 ≤ a ∧ a ≤ 9223372036854775807
/-- A sign and a size, as a number. -/
def sg (b : Bool) (n : Nat) : Int := if b then -(n : Int) else (n : Int)
/-- A number, held. -/
def sat (x : Int) : Int × Int := if x < -9223372036854775808 then (-9223372036854775808, 1) else if x > 9223372036854775807 then (9223372036854775807, 1) else (x, 0)
theorem sat_in (x : Int) (h : In64 x) : sat x = (x, 0) := by
  obtain ⟨h0, h1⟩ := h
  unfold sat; rw [if_neg (by omega), if_neg (by omega)]
theorem sat_bd (x : Int) : In64 (sat x).1 := by unfold sat In64; split <;> (try split) <;> constructor <;> simp <;> omega
theorem u64w (x : Int) : IntKind.u64.wrap x = x % 18446744073709551616 := by simp [IntKind.wrap, IntKind.bits, IntKind.signed]
theorem edge_eq (b : Bool) : fixq_edge.f b = some (if b then -9223372036854775808 else 9223372036854775807) := by cases b <;> rfl
theorem size_eq (a : Int) (h : In64 a) : fixq_size.f a = some (a.natAbs : Int) := by
  obtain ⟨h0, h1⟩ := h
  unfold fixq_size.f
  simp only [u64w]
  split <;> (congr 1; omega)
theorem add_eq (a b : Int) (ha : In64 a) (hb : In64 b) : fixq_Add.f a b = some (sat (a + b)) := by
  obtain ⟨h0, h1⟩ := ha
  obtain ⟨h2, h3⟩ := hb
  unfold fixq_Add.f sat
  simp only [edge_eq, Option.bind_some]
  by_cases hlo : a + b < -9223372036854775808
  · have w : wrap64 (a + b) = a + b + 18446744073709551616 := by unfold wrap64; omega
    rw [w, decide_eq_true (show a + b + 18446744073709551616 > a by omega), decide_eq_false (show ¬ b > 0 by omega), decide_eq_true (show b < 0 by omega), if_pos rfl, if_pos hlo]; rfl
  · by_cases hhi : a + b > 9223372036854775807
    · have w : wrap64 (a + b) = a + b - 18446744073709551616 := by unfold wrap64; omega
      rw [w, decide_eq_false (show ¬ a + b - 18446744073709551616 > a by omega), decide_eq_true (show b > 0 by omega), decide_eq_false (show ¬ b < 0 by omega), if_pos (by decide), if_neg hlo, if_pos hhi]; rfl
    · have w : wrap64 (a + b) = a + b := wrap_in (by omega) (by omega)
      rw [w, if_neg hlo, if_neg hhi]
      by_cases hp : b > 0
      · rw [decide_eq_true (show a + b > a by omega), decide_eq_true hp, if_neg (by decide)]
      · rw [decide_eq_false (show ¬ a + b > a by omega), decide_eq_false hp, if_neg (by decide)]
theorem held_ev (hi lo : Int) (b : Bool) (h0 : 0 ≤ hi) (h1 : hi < 18446744073709551616) (l0 : 0 ≤ lo) (l1 : lo < 18446744073709551616) :
    Ev (fun k => fixq_held.f k hi lo b) (sat (sg b (hi * 18446744073709551616 + lo).toNat)) := by
  have hn : ((hi * 18446744073709551616 + lo).toNat : Int) = hi * 18446744073709551616 + lo := by omega
  refine Ev.step (f := fun _ => some (sat (sg b (hi * 18446744073709551616 + lo).toNat))) (fun k => ?_) (Ev.now _)
  unfold fixq_held.f
  simp only [fixq_held.j0]
  cases b with
  | true =>
    rw [if_pos rfl]
    have hs : sg true (hi * 18446744073709551616 + lo).toNat = -(hi * 18446744073709551616 + lo) := by unfold sg; rw [hn]; rfl
    rw [hs]
    by_cases hz : hi = 0
    · subst hz
      rw [if_pos rfl]
      by_cases hl : lo ≤ 9223372036854775808
      · rw [decide_eq_true hl, if_pos rfl, u64w, sat_in _ ⟨by omega, by omega⟩]
        congr 2
        unfold wrap64; omega
      · rw [decide_eq_false hl, if_neg (by decide), if_pos rfl]
        unfold sat; rw [if_pos (by omega)]
    · rw [if_neg hz, if_neg (by decide), if_pos rfl]
      unfold sat; rw [if_pos (by omega)]
  | false =>
    rw [if_neg (by decide), if_neg (by decide), if_neg (by decide)]
    have hs : sg false (hi * 18446744073709551616 + lo).toNat = hi * 18446744073709551616 + lo := by unfold sg; rw [hn]; rfl
    rw [hs]
    by_cases hz : hi = 0
    · subst hz
      rw [if_pos rfl]
      by_cases hl : lo ≤ 9223372036854775807
      · rw [if_pos hl, wrap_in (by omega) hl, sat_in _ ⟨by omega, by omega⟩]; simp
      · rw [if_neg hl]
        unfold sat; rw [if_neg (by omega), if_pos (by omega)]
    · rw [if_neg hz]
      unfold sat; rw [if_neg (by omega), if_pos (by omega)]
theorem wraps_u64 (n : Int) (h₀ : 0 ≤ n) (h₁ : n < 2 ^ 64) : IntKind.u64.wrap n = n := by rw [u64w]; omega
theorem and_mask32 (x : Int) (h₀ : 0 ≤ x) (h₁ : x < 18446744073709551616) : bits .and .u64 x 4294967295 = x % 4294967296 :=
  bits_mask .u64 64 (by decide) wraps_u64 32 (by decide) x h₀ (by omega)
theorem or_join32 (x y : Int) (hx₀ : 0 ≤ x) (hx : x % 4294967296 = 0) (hx₁ : x < 18446744073709551616) (hy₀ : 0 ≤ y) (hy : y < 4294967296) : bits .or .u64 x y = x + y :=
  bits_join .u64 64 (by decide) wraps_u64 32 x y hx₀ (by omega) (by omega) hy₀ (by omega) (by omega)
theorem mul64_eq (m n : Nat) (hm : m < 18446744073709551616) (hn : n < 18446744073709551616) :
    bits_Mul64.f (m : Int) (n : Int) = some (((m * n / 18446744073709551616 : Nat) : Int), ((m * n % 18446744073709551616 : Nat) : Int)) := by
  obtain ⟨g1, g2, g3, g4⟩ := Lib.mul64_hi m n hm hn
  unfold bits_Mul64.f
  have a1 : bits .and .u64 (m : Int) 4294967295 = ((m % 4294967296 : Nat) : Int) := by rw [and_mask32 _ (by omega) (by omega)]; omega
  have a2 : bits .and .u64 (n : Int) 4294967295 = ((n % 4294967296 : Nat) : Int) := by rw [and_mask32 _ (by omega) (by omega)]; omega
  have d1 : (m : Int) / 4294967296 = ((m / 4294967296 : Nat) : Int) := by omega
  have d2 : (n : Int) / 4294967296 = ((n / 4294967296 : Nat) : Int) := by omega
  rw [a1, a2, d1, d2]
  have hb := Lib.half_mul_le (a := m / 4294967296) (b := n / 4294967296) (by omega) (by omega)
  have hc := Lib.half_mul_le (a := m / 4294967296) (b := n % 4294967296) (by omega) (by omega)
  have hd := Lib.half_mul_le (a := m % 4294967296) (b := n / 4294967296) (by omega) (by omega)
  have he := Lib.half_mul_le (a := m % 4294967296) (b := n % 4294967296) (by omega) (by omega)
  simp only [← Int.natCast_mul]
  generalize m / 4294967296 * (n / 4294967296) = A at *
  generalize m / 4294967296 * (n % 4294967296) = B at *
  generalize m % 4294967296 * (n / 4294967296) = C at *
  generalize m % 4294967296 * (n % 4294967296) = D at *
  have w1 : IntKind.u64.wrap (A : Int) = A := u64_in (by omega) (by omega)
  have w2 : IntKind.u64.wrap (B : Int) = B := u64_in (by omega) (by omega)
  have w3 : IntKind.u64.wrap (C : Int) = C := u64_in (by omega) (by omega)
  have w4 : IntKind.u64.wrap (D : Int) = D := u64_in (by omega) (by omega)
  rw [w1, w2, w3, w4]
  have w5 : IntKind.u64.wrap ((B : Int) + (D : Int) / 4294967296) = ((B + D / 4294967296 : Nat) : Int) := by rw [u64_in (by omega) (by omega)]; omega
  rw [w5, and_mask32 _ (by omega) (by omega)]
  have w6 : IntKind.u64.wrap (((B + D / 4294967296 : Nat) : Int) % 4294967296 + (C : Int)) = (((B + D / 4294967296) % 4294967296 + C : Nat) : Int) := by rw [u64_in (by omega) (by omega)]; omega
  rw [w6]
  have w7 : IntKind.u64.wrap ((A : Int) + ((B + D / 4294967296 : Nat) : Int) / 4294967296) = ((A + (B + D / 4294967296) / 4294967296 : Nat) : Int) := by rw [u64_in (by omega) (by omega)]; omega
  rw [w7]
  have w8 : IntKind.u64.wrap (((A + (B + D / 4294967296) / 4294967296 : Nat) : Int) + (((B + D / 4294967296) % 4294967296 + C : Nat) : Int) / 4294967296) = ((m * n / 18446744073709551616 : Nat) : Int) := by
    rw [← g4, u64_in (by omega) (by omega)]; omega
  rw [w8, u64w]
  congr 2
theorem mul_eq (a b : Int) (ha : In64 a) (hb : In64 b) : Ev (fun k => fixq_Mul.f k a b) (sat (sg ((decide (a < 0)) != (decide (b < 0))) (a.natAbs * b.natAbs / 4294967296))) := by
  unfold fixq_Mul.f
  rw [size_eq a ha, size_eq b hb]
  obtain ⟨h0, h1⟩ := ha
  obtain ⟨h2, h3⟩ := hb
  simp only [Option.bind_some]
  rw [mul64_eq _ _ (by omega) (by omega)]
  simp only [Option.bind_some]
  have hle : a.natAbs * b.natAbs ≤ 9223372036854775808 * 9223372036854775808 := Nat.mul_le_mul (by omega) (by omega)
  generalize a.natAbs * b.natAbs = P at *
  have ho : bits .or .u64 (IntKind.u64.wrap (((P / 18446744073709551616 : Nat) : Int) * 4294967296)) (((P % 18446744073709551616 : Nat) : Int) / 4294967296) = ((P / 4294967296 % 18446744073709551616 : Nat) : Int) := by
    rw [u64w, or_join32 _ _ (by omega) (by omega) (by omega) (by omega) (by omega)]; omega
  rw [ho]
  have := held_ev (((P / 18446744073709551616 : Nat) : Int) / 4294967296) ((P / 4294967296 % 18446744073709551616 : Nat) : Int) ((decide (a < 0)) != (decide (b < 0))) (by omega) (by omega) (by omega) (by omega)
  have e : ((((P / 18446744073709551616 : Nat) : Int) / 4294967296) * 18446744073709551616 + ((P / 4294967296 % 18446744073709551616 : Nat) : Int)).toNat = P / 4294967296 := by omega
  rw [e] at this
  refine Ev.congr (fun k => ?_) this
  cases fixq_held.f k (((P / 18446744073709551616 : Nat) : Int) / 4294967296) ((P / 4294967296 % 18446744073709551616 : Nat) : Int) ((decide (a < 0)) != (decide (b < 0))) <;> rfl
theorem in64_of {a : Int} (h : (Lit.int .i64 a).wf = true) : In64 a := by
  simp [Lit.wf, IntKind.min, IntKind.max, IntKind.bits, IntKind.signed] at h
  unfold In64; omega
end Go.Proofs.YtgalkkolbobmbaaGreat.V
