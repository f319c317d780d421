/- Plain arithmetic: fixq.Lerp. -/
import Derived.Test.YtgalkkolbobmbaaGreatQ2
import Derived.Lib.Mul64

namespace Go.Proofs.YtgalkkolbobmbaaGreat.Q
open Go.RowKit Go.Proofs.YtgalkkolbobmbaaGreatW.PrintWords Go.Proofs.YtgalkkolbobmbaaGreatW.PrintLast Go.Proofs.YtgalkkolbobmbaaGreatW.PrintMore
set_option linter.unusedVariables false

theorem wrap_in {x : Int} (h0 : -9223372036854775808 ≤ x) (h1 : x ≤ 9223372036854775807) : wrap64 x = x := by
 unfold wrap64; omega
theorem u64_in {x : Int} (h0 : 0 ≤ x) (h1 : x < 18446744073709551616) : IntKind.u64.wrap x = x := by
 unfold IntKind.wrap; simp [IntKind.bits, IntKind.signed]; omega
def In64 (a : Int) : Prop := -9223372036854775808 ≤ a ∧ a ≤ 9223372036854775807
/-- A sign and a size, as_ a number. -/
def sg (b : Bool) (n : Nat) : Int := if b then -(n : Int) else (n : Int)
/-- A number, held. -/
def sat (x : Int) : Int × Int := if x < -9223372036854775808 then (-9223372036854775808, 1) else if x > 9223372036854775807 then (9223372036854775807, 1) else (x, 0)
theorem sat_in (x : Int) (h : In64 x) : sat x = (x, 0) := by
 obtain ⟨h0, h1⟩ := h
 unfold sat; rw [if_neg (by omega), if_neg (by omega)]
theorem sat_bd (x : Int) : In64 (sat x).1 := by unfold sat In64; split <;> (try split) <;> constructor <;> simp <;> omega
theorem u64w (x : Int) : IntKind.u64.wrap x = x % 18446744073709551616 := by simp [IntKind.wrap, IntKind.bits, IntKind.signed]
theorem edge_eq (b : Bool) : fixq_edge.f b = some (if b then -9223372036854775808 else 9223372036854775807) := by cases b <;> rfl
theorem size_eq (a : Int) (h : In64 a) : fixq_size.f a = some (a.natAbs : Int) := by
 obtain ⟨h0, h1⟩ := h
 unfold fixq_size.f
 simp only [u64w]
 split <;> (congr 1; omega)
theorem add_eq (a b : Int) (ha : In64 a) (hb : In64 b) : fixq_Add.f a b = some (sat (a + b)) := by
 obtain ⟨h0, h1⟩ := ha
 obtain ⟨h2, h3⟩ := hb
 unfold fixq_Add.f sat
 simp only [edge_eq, Option.bind_some]
 by_cases hlo : a + b < -9223372036854775808
 · have w : wrap64 (a + b) = a + b + 18446744073709551616 := by unfold wrap64; omega
   rw [w, decide_eq_true (show a + b + 18446744073709551616 > a by omega), decide_eq_false (show ¬ b > 0 by omega), decide_eq_true (show b < 0 by omega), if_pos rfl, if_pos hlo]; rfl
 · by_cases hhi : a + b > 9223372036854775807
   · have w : wrap64 (a + b) = a + b - 18446744073709551616 := by unfold wrap64; omega
     rw [w, decide_eq_false (show ¬ a + b - 18446744073709551616 > a by omega), decide_eq_true (show b > 0 by omega), decide_eq_false (show ¬ b < 0 by omega), if_pos (by decide), if_neg hlo, if_pos hhi]; rfl
   · have w : wrap64 (a + b) = a + b := wrap_in (by omega) (by omega)
     rw [w, if_neg hlo, if_neg hhi]
     by_cases hp : b > 0
     · rw [decide_eq_true (show a + b > a by omega), decide_eq_true hp, if_neg (by decide)]
     · rw [decide_eq_false (show ¬ a + b > a by omega), decide_eq_false hp, if_neg (by decide)]
theorem sub_eq (a b : Int) (ha : In64 a) (hb : In64 b) : fixq_Sub.f a b = some (sat (a - b)) := by
 obtain ⟨h0, h1⟩ := ha
 obtain ⟨h2, h3⟩ := hb
 unfold fixq_Sub.f sat
 simp only [edge_eq, Option.bind_some]
 by_cases hlo : a - b < -9223372036854775808
 · have w : wrap64 (a - b) = a - b + 18446744073709551616 := by unfold wrap64; omega
   rw [w, decide_eq_false (show ¬ a - b + 18446744073709551616 < a by omega), decide_eq_true (show b > 0 by omega), if_pos rfl, if_pos hlo]; rfl
 · by_cases hhi : a - b > 9223372036854775807
   · have w : wrap64 (a - b) = a - b - 18446744073709551616 := by unfold wrap64; omega
     rw [w, decide_eq_true (show a - b - 18446744073709551616 < a by omega), decide_eq_false (show ¬ b > 0 by omega), if_pos (by decide), if_neg hlo, if_pos hhi]; rfl
   · have w : wrap64 (a - b) = a - b := wrap_in (by omega) (by omega)
     rw [w, if_neg hlo, if_neg hhi]
     by_cases hp : b > 0
     · rw [decide_eq_true (show a - b < a by omega), decide_eq_true hp, if_neg (by decide)]
     · rw [decide_eq_false (show ¬ a - b < a by omega), decide_eq_false hp, if_neg (by decide)]
theorem held_ev (hi lo : Int) (b : Bool) (h0 : 0 ≤ hi) (h1 : hi < 18446744073709551616) (l0 : 0 ≤ lo) (l1 : lo < 18446744073709551616) :
 Ev (fun k => fixq_held.f k hi lo b) (sat (sg b (hi * 18446744073709551616 + lo).toNat)) := by
 have hn : ((hi * 18446744073709551616 + lo).toNat : Int) = hi * 18446744073709551616 + lo := by omega
 refine Ev.step (f := fun _ => some (sat (sg b (hi * 18446744073709551616 + lo).toNat))) (fun k => ?_) (Ev.now _)
 unfold fixq_held.f
 simp only [fixq_held.j0]
 cases b with
 | true =>
  rw [if_pos rfl]
  have hs : sg true (hi * 18446744073709551616 + lo).toNat = -(hi * 18446744073709551616 + lo) := by unfold sg; rw [hn]; rfl
  rw [hs]
  by_cases hz : hi = 0
  · subst hz
    rw [if_pos rfl]
    by_cases hl : lo ≤ 9223372036854775808
    · rw [decide_eq_true hl, if_pos rfl, u64w, sat_in _ ⟨by omega, by omega⟩]
      congr 2
      unfold wrap64; omega
    · rw [decide_eq_false hl, if_neg (by decide), if_pos rfl]
      unfold sat; rw [if_pos (by omega)]
  · rw [if_neg hz, if_neg (by decide), if_pos rfl]
    unfold sat; rw [if_pos (by omega)]
 | false =>
  rw [if_neg (by decide), if_neg (by decide), if_neg (by decide)]
  have hs : sg false (hi * 18446744073709551616 + lo).toNat = hi * 18446744073709551616 + lo := by unfold sg; rw [hn]; rfl
  rw [hs]
  by_cases hz : hi = 0
  · subst hz
    rw [if_pos rfl]
    by_cases hl : lo ≤ 9223372036854775807
    · rw [if_pos hl, wrap_in (by omega) hl, sat_in _ ⟨by omega, by omega⟩]; simp
    · rw [if_neg hl]
      unfold sat; rw [if_neg (by omega), if_pos (by omega)]
  · rw [if_neg hz]
    unfold sat; rw [if_neg (by omega), if_pos (by omega)]
theorem wraps_u64 (n : Int) (h₀ : 0 ≤ n) (h₁ : n < 2 ^ 64) : IntKind.u64.wrap n = n := by rw [u64w]; omega
theorem and_mask32 (x : Int) (h₀ : 0 ≤ x) (h₁ : x < 18446744073709551616) : bits .and .u64 x 4294967295 = x % 4294967296 :=
 bits_mask .u64 64 (by decide) wraps_u64 32 (by decide) x h₀ (by omega)
theorem or_join32 (x y : Int) (hx₀ : 0 ≤ x) (hx : x % 4294967296 = 0) (hx₁ : x < 18446744073709551616) (hy₀ : 0 ≤ y) (hy : y < 4294967296) : bits .or .u64 x y = x + y :=
 bits_join .u64 64 (by decide) wraps_u64 32 x y hx₀ (by omega) (by omega) hy₀ (by omega) (by omega)
theorem mul64_eq (m n : Nat) (hm : m < 18446744073709551616) (hn : n < 18446744073709551616) :
 bits_Mul64.f (m : Int) (n : Int) = some (((m * n / 18446744073709551616 : Nat) : Int), ((m * n % 18446744073709551616 : Nat) : Int)) := by
 obtain ⟨g1, g2, g3, g4⟩ := Lib.mul64_hi m n hm hn
 unfold bits_Mul64.f
 have a1 : bits .and .u64 (m : Int) 4294967295 = ((m % 4294967296 : Nat) : Int) := by rw [and_mask32 _ (by omega) (by omega)]; omega
 have a2 : bits .and .u64 (n : Int) 4294967295 = ((n % 4294967296 : Nat) : Int) := by rw [and_mask32 _ (by omega) (by omega)]; omega
 have d1 : (m : Int) / 4294967296 = ((m / 4294967296 : Nat) : Int) := by omega
 have d2 : (n : Int) / 4294967296 = ((n / 4294967296 : Nat) : Int) := by omega
 rw [a1, a2, d1, d2]
 have hb := Lib.half_mul_le (a := m / 4294967296) (b := n / 4294967296) (by omega) (by omega)
 have hc := Lib.half_mul_le (a := m / 4294967296) (b := n % 4294967296) (by omega) (by omega)
 have hd := Lib.half_mul_le (a := m % 4294967296) (b := n / 4294967296) (by omega) (by omega)
 have he := Lib.half_mul_le (a := m % 4294967296) (b := n % 4294967296) (by omega) (by omega)
 simp only [← Int.natCast_mul]
 generalize m / 4294967296 * (n / 4294967296) = A at *
 generalize m / 4294967296 * (n % 4294967296) = B at *
 generalize m % 4294967296 * (n / 4294967296) = C at *
 generalize m % 4294967296 * (n % 4294967296) = D at *
 have w1 : IntKind.u64.wrap (A : Int) = A := u64_in (by omega) (by omega)
 have w2 : IntKind.u64.wrap (B : Int) = B := u64_in (by omega) (by omega)
 have w3 : IntKind.u64.wrap (C : Int) = C := u64_in (by omega) (by omega)
 have w4 : IntKind.u64.wrap (D : Int) = D := u64_in (by omega) (by omega)
 rw [w1, w2, w3, w4]
 have w5 : IntKind.u64.wrap ((B : Int) + (D : Int) / 4294967296) = ((B + D / 4294967296 : Nat) : Int) := by rw [u64_in (by omega) (by omega)]; omega
 rw [w5, and_mask32 _ (by omega) (by omega)]
 have w6 : IntKind.u64.wrap (((B + D / 4294967296 : Nat) : Int) % 4294967296 + (C : Int)) = (((B + D / 4294967296) % 4294967296 + C : Nat) : Int) := by rw [u64_in (by omega) (by omega)]; omega
 rw [w6]
 have w7 : IntKind.u64.wrap ((A : Int) + ((B + D / 4294967296 : Nat) : Int) / 4294967296) = ((A + (B + D / 4294967296) / 4294967296 : Nat) : Int) := by rw [u64_in (by omega) (by omega)]; omega
 rw [w7]
 have w8 : IntKind.u64.wrap (((A + (B + D / 4294967296) / 4294967296 : Nat) : Int) + (((B + D / 4294967296) % 4294967296 + C : Nat) : Int) / 4294967296) = ((m * n / 18446744073709551616 : Nat) : Int) := by
  rw [← g4, u64_in (by omega) (by omega)]; omega
 rw [w8, u64w]
 congr 2
theorem in64_of {a : Int} (h : (Lit.int .i64 a).wf = true) : In64 a := by
 simp [Lit.wf, IntKind.min, IntKind.max, IntKind.bits, IntKind.signed] at h
 unfold In64; omega
theorem shl_nat (x s : Nat) (hs : s ≤ 63) : shl .u64 (x : Int) (s : Int) = ((x * 2 ^ s % 18446744073709551616 : Nat) : Int) := by
 unfold shl
 rw [u64w, Int.toNat_natCast, Nat.min_eq_left (by simp [IntKind.bits]; omega)]
 simp
theorem shr_nat (x s : Nat) (hs : s ≤ 64) : shr .u64 (x : Int) (s : Int) = ((x / 2 ^ s : Nat) : Int) := by
 unfold shr
 rw [Int.toNat_natCast, Nat.min_eq_left (by simp [IntKind.bits]; omega)]
 simp
theorem or_at (x y s : Nat) (hs : s ≤ 63) (hx : x < 18446744073709551616) (hd : x % 2 ^ s = 0) (hy : y < 2 ^ s) : bits .or .u64 (x : Int) (y : Int) = ((x + y : Nat) : Int) := by
 have hp : (2 : Nat) ^ s ≤ 2 ^ 63 := Nat.pow_le_pow_right (by decide) hs
 have := bits_join .u64 64 (by decide) wraps_u64 s (x : Int) (y : Int) (by omega) (by exact_mod_cast hd) (by omega) (by omega) (by exact_mod_cast hy) (by omega)
 rw [this]; omega
theorem held_nat (A C : Nat) (b : Bool) (hA : A < 18446744073709551616) (hC : C < 18446744073709551616) : Ev (fun k => fixq_held.f k (A : Int) (C : Int) b) (sat (sg b (A * 18446744073709551616 + C))) := by
 have h := held_ev (A : Int) (C : Int) b (by omega) (by omega) (by omega) (by omega)
 have e : ((A : Int) * 18446744073709551616 + (C : Int)) = ((A * 18446744073709551616 + C : Nat) : Int) := by simp
 rw [e, Int.toNat_natCast] at h
 exact h
/-- How many halvings, and which part. -/
def lerpK (k : Int) : Nat := if k < 0 then 0 else if k > 32 then 32 else k.toNat
def lerpM (m : Int) (K : Nat) : Nat := if m < 0 then 0 else if m > ((2 ^ K : Nat) : Int) then 2 ^ K else m.toNat
theorem lerpK_le (k : Int) : lerpK k ≤ 32 := by unfold lerpK; split; omega; split <;> omega
theorem lerpM_le (m : Int) (K : Nat) : lerpM m K ≤ 2 ^ K := by
 unfold lerpM
 generalize 2 ^ K = P
 split; omega; split <;> omega
theorem pow32 {K : Nat} (h : K ≤ 32) : 2 ^ K ≤ 4294967296 := by
 have : (2 : Nat) ^ K ≤ 2 ^ 32 := Nat.pow_le_pow_right (by decide) h
 simpa using this
/-- The part of the difference, as_ a number. -/
def lerpP (d : Int) (M K : Nat) : Int × Int := sat (sg (decide (d < 0)) (d.natAbs * M / 2 ^ K))
def lerpD (a b : Int) : Int × Int := sat (b - a)
def lerpV (a b m k : Int) : Int × Int := sat (a + (lerpP (lerpD a b).1 (lerpM m (lerpK k)) (lerpK k)).1)
def lerpF (a b m k : Int) : Int := if (lerpD a b).2 = 0 ∧ (lerpP (lerpD a b).1 (lerpM m (lerpK k)) (lerpK k)).2 = 0 ∧ (lerpV a b m k).2 = 0 then 0 else 1
theorem sat_flag01 (x : Int) : (sat x).2 = 0 ∨ (sat x).2 = 1 := by unfold sat; split; exact .inr rfl; split; exact .inr rfl; exact .inl rfl
theorem flags_ev (f g h : Int) (hf : f = 0 ∨ f = 1) (hg : g = 0 ∨ g = 1) (hh : h = 0 ∨ h = 1) : Ev (fun k => fixq_flags.f k [f, g, h]) (if f = 0 ∧ g = 0 ∧ h = 0 then 0 else 1) := by
 rcases hf with rfl | rfl <;> rcases hg with rfl | rfl <;> rcases hh with rfl | rfl <;> exact Ev.of (fun k => fixq_flags.mono _ k) (k := 5) (by decide +kernel)
theorem mx_mn (k : Int) : mx 0 (mn k 32) = (lerpK k : Int) := by
 unfold mx mn lerpK
 split <;> split <;> split <;> (try split) <;> omega
theorem mx_mn2 (m : Int) (K : Nat) (hK : K ≤ 32) : mx 0 (mn m (wrap64 (2 ^ K))) = (lerpM m K : Int) := by
 have hp := pow32 hK
 have e : ((2 : Int) ^ K) = ((2 ^ K : Nat) : Int) := by simp
 rw [e]
 unfold mx mn lerpM
 generalize 2 ^ K = P at *
 rw [wrap_in (by omega) (by omega)]
 split <;> split <;> split <;> (try split) <;> omega
theorem shift_words (P K : Nat) (hK : K ≤ 32) (hP : P / 18446744073709551616 < 18446744073709551616) :
 (((P / 18446744073709551616 : Nat) : Int) / 2 ^ K = ((P / 2 ^ K / 18446744073709551616 : Nat) : Int)) ∧
 bits .or .u64 (IntKind.u64.wrap (((P / 18446744073709551616 : Nat) : Int) * 2 ^ (64 - K))) (((P % 18446744073709551616 : Nat) : Int) / 2 ^ K) = ((P / 2 ^ K % 18446744073709551616 : Nat) : Int) := by
 have e : ∀ n : Nat, ((2 : Int) ^ n) = ((2 ^ n : Nat) : Int) := fun n => by simp
 have hpK := Nat.two_pow_pos K
 have h64 : (18446744073709551616 : Nat) = 2 ^ (64 - K) * 2 ^ K := by rw [← Nat.pow_add, show 64 - K + K = 64 by omega]
 obtain ⟨H, eH⟩ : ∃ H, H = P / 18446744073709551616 := ⟨_, rfl⟩
 obtain ⟨L, eL⟩ : ∃ L, L = P % 18446744073709551616 := ⟨_, rfl⟩
 have hHL : P = H * 18446744073709551616 + L := by omega
 have hL : L < 18446744073709551616 := by omega
 have d1 : P / 2 ^ K = H * 2 ^ (64 - K) + L / 2 ^ K := by
  have : H * 18446744073709551616 + L = L + 2 ^ K * (H * 2 ^ (64 - K)) := by
   have : H * 18446744073709551616 = 2 ^ K * (H * 2 ^ (64 - K)) := by
    rw [h64, ← Nat.mul_assoc, Nat.mul_comm]
   rw [this, Nat.add_comm]
  rw [hHL, this, Nat.add_mul_div_left _ _ hpK]; omega
 have hlow : L / 2 ^ K < 2 ^ (64 - K) := by
  refine (Nat.div_lt_iff_lt_mul hpK).2 ?_
  rw [← h64]; exact hL
 rw [← eH, ← eL]
 constructor
 · rw [e K]
   have : P / 2 ^ K / 18446744073709551616 = H / 2 ^ K := by
    rw [Nat.div_div_eq_div_mul, Nat.mul_comm, ← Nat.div_div_eq_div_mul, ← eH]
   rw [this]; simp
 · rw [d1, e (64 - K), e K]
   have c1 : (L : Int) / ((2 ^ K : Nat) : Int) = ((L / 2 ^ K : Nat) : Int) := by simp
   have c2 : IntKind.u64.wrap ((H : Int) * ((2 ^ (64 - K) : Nat) : Int)) = ((H * 2 ^ (64 - K) % 18446744073709551616 : Nat) : Int) := by rw [u64w]; simp
   rw [c1, c2]
   have hmod : H * 2 ^ (64 - K) % 18446744073709551616 % 2 ^ (64 - K) = 0 := by
    rw [h64, Nat.mod_mul_right_mod, Nat.mul_mod_left]
   have hmlt : H * 2 ^ (64 - K) % 18446744073709551616 < 18446744073709551616 := Nat.mod_lt _ (by decide)
   have hsum : (H * 2 ^ (64 - K) + L / 2 ^ K) % 18446744073709551616 = H * 2 ^ (64 - K) % 18446744073709551616 + L / 2 ^ K := by
    have h1 : H * 2 ^ (64 - K) % 18446744073709551616 = H % 2 ^ K * 2 ^ (64 - K) := by
     rw [h64, Nat.mul_comm (2 ^ (64 - K)) (2 ^ K), Nat.mul_mod_mul_right]
    have h2 : H % 2 ^ K * 2 ^ (64 - K) + 2 ^ (64 - K) ≤ 18446744073709551616 := by
     have : (H % 2 ^ K + 1) * 2 ^ (64 - K) ≤ 2 ^ K * 2 ^ (64 - K) := Nat.mul_le_mul_right _ (Nat.mod_lt _ hpK)
     rw [Nat.succ_mul, Nat.mul_comm (2 ^ K), ← h64] at this
     exact this
    have h3 : L / 2 ^ K ≤ L := Nat.div_le_self _ _
    rw [Nat.add_mod, Nat.mod_eq_of_lt (show L / 2 ^ K < 18446744073709551616 by omega), Nat.mod_eq_of_lt (by omega)]
   rw [hsum]
   by_cases hK0 : K = 0
   · subst hK0
     have hz : H * 2 ^ (64 - 0) % 18446744073709551616 = 0 := by simp
     rw [hz]
     have := or_at 0 0 0 (by omega) (by decide) (by simp) (by simp)
     have hb := (bits_nat .u64 64 (by decide) wraps_u64 0 (L / 2 ^ 0) (by decide) (by simpa using hL)).2
     simpa using hb
   · exact or_at _ _ (64 - K) (by omega) hmlt hmod hlow
theorem lerp_ev (a b m k : Int) (ha : In64 a) (hb : In64 b) : Ev (fun n => fixq_Lerp.f n a b m k) ((lerpV a b m k).1, lerpF a b m k) := by
 unfold fixq_Lerp.f
 rw [sub_eq b a hb ha]
 simp only [Option.bind_some]
 have hd := sat_bd (b - a)
 have hK := lerpK_le k
 have hM := lerpM_le m (lerpK k)
 have hp := pow32 hK
 rw [size_eq _ hd, mx_mn k]
 simp only [Option.bind_some, Int.toNat_natCast]
 rw [show ((64 : Int) - (lerpK k : Int)).toNat = 64 - lerpK k by omega, mx_mn2 m _ hK, u64_in (x := (lerpM m (lerpK k) : Int)) (by omega) (by omega)]
 unfold lerpF lerpV lerpP lerpD
 generalize lerpM m (lerpK k) = M at *
 generalize lerpK k = K at *
 obtain ⟨h1, h2⟩ := hd
 generalize hdd : sat (b - a) = D at *
 have hf1 : D.2 = 0 ∨ D.2 = 1 := by rw [← hdd]; exact sat_flag01 _
 rw [mul64_eq _ _ (by omega) (by omega)]
 simp only [Option.bind_some]
 have hle : D.1.natAbs * M ≤ 9223372036854775808 * 4294967296 := Nat.mul_le_mul (by omega) (by omega)
 generalize D.1.natAbs * M = P at *
 obtain ⟨s1, s2⟩ := shift_words P K hK (by omega)
 have hq : P / 2 ^ K ≤ P := Nat.div_le_self _ _
 rw [s1, s2]
 generalize P / 2 ^ K = X at *
 have hh := held_nat (X / 18446744073709551616) (X % 18446744073709551616) (decide (D.1 < 0)) (by omega) (by omega)
 rw [show X / 18446744073709551616 * 18446744073709551616 + X % 18446744073709551616 = X by omega] at hh
 refine Ev.bind hh ?_
 refine Ev.congr (fun n => by rw [add_eq a _ ha (sat_bd _)]) ?_
 simp only [Option.bind_some]
 exact Ev.bind (flags_ev _ _ _ hf1 (sat_flag01 _) (sat_flag01 _)) (Ev.now _)
end Go.Proofs.YtgalkkolbobmbaaGreat.Q
