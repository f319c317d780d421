/- Plain arithmetic: math/bits.Div64 and fixq.Div. -/
import Derived.Test.YthgnpmchhikchaaMDiv2
namespace Go.Proofs.Ythgnpmchhikchaa.Q
open Go.RowKit Go.Proofs.YthgnpmchhikchaaW.PrintWords Go.Proofs.YthgnpmchhikchaaW.PrintLast Go.Proofs.YthgnpmchhikchaaW.PrintMore
set_option linter.unusedVariables false

theorem shl_nat (x s : Nat) (hs : s ≤ 63) : shl .u64 (x : Int) (s : Int) = ((x * 2 ^ s % 18446744073709551616 : Nat) : Int) := by
  unfold shl
  rw [u64w, Int.toNat_natCast, Nat.min_eq_left (by simp [IntKind.bits]; omega)]
  simp
theorem shr_nat (x s : Nat) (hs : s ≤ 64) : shr .u64 (x : Int) (s : Int) = ((x / 2 ^ s : Nat) : Int) := by
  unfold shr
  rw [Int.toNat_natCast, Nat.min_eq_left (by simp [IntKind.bits]; omega)]
  simp
theorem or_at (x y s : Nat) (hs : s ≤ 63) (hx : x < 18446744073709551616) (hd : x % 2 ^ s = 0) (hy : y < 2 ^ s) : bits .or .u64 (x : Int) (y : Int) = ((x + y : Nat) : Int) := by
  have hp : (2 : Nat) ^ s ≤ 2 ^ 63 := Nat.pow_le_pow_right (by decide) hs
  have := bits_join .u64 64 (by decide) wraps_u64 s (x : Int) (y : Int) (by omega) (by exact_mod_cast hd) (by omega) (by omega) (by exact_mod_cast hy) (by omega)
  rw [this]; omega
theorem tdiv_nat (x y : Nat) : Int.tdiv (x : Int) (y : Int) = ((x / y : Nat) : Int) := by
  rw [Int.tdiv_eq_ediv_of_nonneg (by omega)]; simp
theorem tmod_nat (x y : Nat) : Int.tmod (x : Int) (y : Int) = ((x % y : Nat) : Int) := by
  rw [Int.tmod_eq_emod_of_nonneg (by omega)]; simp
/-- A word by a half: quotient and rest, as the code has them. -/
theorem part_q (m v1 : Nat) (hm : m < 18446744073709551616) (hv : 0 < v1) : IntKind.u64.wrap (Int.tdiv (m : Int) (v1 : Int)) = ((m / v1 : Nat) : Int) := by
  have : m / v1 ≤ m := Nat.div_le_self _ _
  rw [tdiv_nat]
  generalize m / v1 = q at *
  rw [u64_in (by omega) (by omega)]
theorem part_r (m v1 : Nat) (hm : m < 18446744073709551616) (hv : 0 < v1) : IntKind.u64.wrap ((m : Int) - (IntKind.u64.wrap (((m / v1 : Nat) : Int) * (v1 : Int)))) = ((m % v1 : Nat) : Int) := by
  have h := Nat.div_add_mod m v1
  rw [Nat.mul_comm] at h
  rw [← Int.natCast_mul]
  generalize m / v1 * v1 = X at *
  generalize m % v1 = r at *
  rw [u64_in (x := (X : Int)) (by omega) (by omega), u64_in (by omega) (by omega)]; omega
theorem join_digits (H t L : Nat) : H * 18446744073709551616 + (t * 18446744073709551616 + L) = ((H + t) * 4294967296 + L / 4294967296) * 4294967296 + L % 4294967296 := by omega
theorem div_ge (hi lo y : Nat) (hy : hi < y) (hy2 : y < 18446744073709551616) (hlo : lo < 18446744073709551616) (h0 : hi ≠ 0) :
    ∃ rem, Ev (fun k => bits_Div64.f k (hi : Int) (lo : Int) (y : Int)) ((((hi * 18446744073709551616 + lo) / y : Nat) : Int), rem) := by
  obtain ⟨s, hlz, hs, hV, hV'⟩ := lz_ev y (by omega) hy2
  have hS := Nat.two_pow_pos s
  have hhi : hi * 2 ^ s < y * 2 ^ s := Nat.mul_lt_mul_of_pos_right hy hS
  have hhi1 : (hi + 1) * 2 ^ s ≤ y * 2 ^ s := Nat.mul_le_mul_right _ hy
  rw [Nat.succ_mul] at hhi1
  -- the divisor, moved up
  obtain ⟨V, eV⟩ : ∃ V, V = y * 2 ^ s := ⟨_, rfl⟩
  obtain ⟨H, eH⟩ : ∃ H, H = hi * 2 ^ s := ⟨_, rfl⟩
  have split : lo * 2 ^ s = lo / 2 ^ (64 - s) * 18446744073709551616 + lo * 2 ^ s % 18446744073709551616 := by
    have e1 : lo * 2 ^ s / 18446744073709551616 = lo / 2 ^ (64 - s) := by
      have : (18446744073709551616 : Nat) = 2 ^ (64 - s) * 2 ^ s := by rw [← Nat.pow_add, show 64 - s + s = 64 by omega]
      rw [this, Nat.mul_div_mul_right _ _ hS]
    have := Nat.div_add_mod (lo * 2 ^ s) 18446744073709551616
    rw [e1] at this
    omega
  have ltop : lo / 2 ^ (64 - s) < 2 ^ s := by
    refine (Nat.div_lt_iff_lt_mul (Nat.two_pow_pos _)).2 ?_
    rw [← Nat.pow_add, show s + (64 - s) = 64 by omega]; exact hlo
  obtain ⟨t, et⟩ : ∃ t, t = lo / 2 ^ (64 - s) := ⟨_, rfl⟩
  obtain ⟨L, eL⟩ : ∃ L, L = lo * 2 ^ s % 18446744073709551616 := ⟨_, rfl⟩
  have hL : L < 18446744073709551616 := by rw [eL]; exact Nat.mod_lt _ (by decide)
  rw [← et, ← eL] at split
  rw [← et] at ltop
  rw [← eV] at hV hV' hhi hhi1
  rw [← eH] at hhi hhi1
  -- as the code spells them
  have w1 : IntKind.u64.wrap (s : Int) = (s : Int) := u64_in (by omega) (by omega)
  have w2 : IntKind.u64.wrap (64 - (s : Int)) = ((64 - s : Nat) : Int) := by rw [u64_in (by omega) (by omega)]; omega
  have c1 : shl .u64 (y : Int) (s : Int) = (V : Int) := by rw [shl_nat y s hs, ← eV, Nat.mod_eq_of_lt hV]
  have c2 : shl .u64 (hi : Int) (s : Int) = (H : Int) := by rw [shl_nat hi s hs, ← eH, Nat.mod_eq_of_lt (by omega)]
  have c3 : shr .u64 (lo : Int) ((64 - s : Nat) : Int) = (t : Int) := by rw [shr_nat lo _ (by omega), ← et]
  have c4 : shl .u64 (lo : Int) (s : Int) = (L : Int) := by rw [shl_nat lo s hs, ← eL]
  have c5 : bits .or .u64 (H : Int) (t : Int) = ((H + t : Nat) : Int) := or_at H t s hs (by omega) (by rw [eH]; exact Nat.mul_mod_left _ _) ltop
  have c6 : (V : Int) / 4294967296 = ((V / 4294967296 : Nat) : Int) := by omega
  have c7 : bits .and .u64 (V : Int) 4294967295 = ((V % 4294967296 : Nat) : Int) := by rw [and_mask32 _ (by omega) (by omega)]; omega
  have c8 : (L : Int) / 4294967296 = ((L / 4294967296 : Nat) : Int) := by omega
  have c9 : bits .and .u64 (L : Int) 4294967295 = ((L % 4294967296 : Nat) : Int) := by rw [and_mask32 _ (by omega) (by omega)]; omega
  obtain ⟨u, eu⟩ : ∃ u, u = H + t := ⟨_, rfl⟩
  obtain ⟨v1, ev1⟩ : ∃ v1, v1 = V / 4294967296 := ⟨_, rfl⟩
  obtain ⟨v0, ev0⟩ : ∃ v0, v0 = V % 4294967296 := ⟨_, rfl⟩
  obtain ⟨d, ed⟩ : ∃ d, d = L / 4294967296 := ⟨_, rfl⟩
  obtain ⟨e, ee⟩ : ∃ e, e = L % 4294967296 := ⟨_, rfl⟩
  rw [← eu] at c5
  rw [← ev1] at c6
  rw [← ev0] at c7
  rw [← ed] at c8
  rw [← ee] at c9
  have hVs : v1 * 4294967296 + v0 = V := by omega
  have hu : u < v1 * 4294967296 + v0 := by omega
  have hU : (hi * 18446744073709551616 + lo) * 2 ^ s = (u * 4294967296 + d) * 4294967296 + e := by
    have z1 := Nat.add_mul (hi * 18446744073709551616) lo (2 ^ s)
    have z2 := Nat.mul_right_comm hi 18446744073709551616 (2 ^ s)
    rw [← eH] at z2
    rw [z1, z2, split, eu, ed, ee]
    exact join_digits H t L
  have g1 := dig_start (v1 := v1) (v0 := v0) (u := u) (d := d) (by omega) (by omega) (by omega) (by omega) hu
  rw [hVs] at g1 hu
  -- the first digit, and what it leaves
  obtain ⟨q1, eq1⟩ : ∃ q1, q1 = (u * 4294967296 + d) / V := ⟨_, rfl⟩
  obtain ⟨m, em⟩ : ∃ m, m = (u * 4294967296 + d) % V := ⟨_, rfl⟩
  have hdm : V * q1 + m = u * 4294967296 + d := by rw [eq1, em]; exact Nat.div_add_mod _ _
  have hm : m < V := by rw [em]; exact Nat.mod_lt _ (by omega)
  have hq1 : q1 < 4294967296 := by rw [eq1]; exact dig_lt' u d V 4294967296 (by omega) hu
  rw [← eq1] at g1
  have g2 := dig_start (v1 := v1) (v0 := v0) (u := m) (d := e) (by omega) (by omega) (by omega) (by omega) (by omega)
  rw [hVs] at g2
  obtain ⟨q0, eq0⟩ : ∃ q0, q0 = (m * 4294967296 + e) / V := ⟨_, rfl⟩
  have hq0 : q0 < 4294967296 := by rw [eq0]; exact dig_lt' m e V 4294967296 (by omega) hm
  rw [← eq0] at g2
  have hQ : (hi * 18446744073709551616 + lo) / y = q1 * 4294967296 + q0 := by
    have a1 : (hi * 18446744073709551616 + lo) / y = (hi * 18446744073709551616 + lo) * 2 ^ s / (y * 2 ^ s) := (Nat.mul_div_mul_right _ _ hS).symm
    rw [a1, hU, ← eV, ← hdm]
    have a2 : (V * q1 + m) * 4294967296 + e = (m * 4294967296 + e) + V * (q1 * 4294967296) := by rw [Nat.add_mul, Nat.mul_assoc]; omega
    rw [a2, Nat.add_mul_div_left _ _ (by omega), ← eq0]; omega
  have hun : IntKind.u64.wrap ((IntKind.u64.wrap ((IntKind.u64.wrap ((u : Int) * 4294967296)) + (d : Int))) - (IntKind.u64.wrap ((q1 : Int) * (V : Int)))) = (m : Int) := by
    rw [← Int.natCast_mul, Nat.mul_comm q1 V]
    generalize V * q1 = X at *
    simp only [u64w]
    omega
  have l2 := loop2 V s v1 v0 m e q1 q0 (m / v1) (m / v1) (m % v1) (Nat.le_refl _) g2
  have hj2 : Ev (fun k => bits_Div64.j2 k (V : Int) (s : Int) (v1 : Int) (v0 : Int) (u : Int) (d : Int) (e : Int) (q1 : Int)) (divOut V s e q1 m q0) := by
    refine Ev.step (fun k => ?_) l2
    simp only [bits_Div64.j2]
    rw [if_neg (by omega), hun, part_q m v1 (by omega) (by omega), part_r m v1 (by omega) (by omega)]
  have l1 := loop1 V s v1 v0 u d e q1 _ hj2 (u / v1) (u / v1) (u % v1) (Nat.le_refl _) g1
  refine ⟨_, Ev.congr (fun k => rfl) (show Ev _ (_, (divOut V s e q1 m q0).2) from ?_)⟩
  unfold bits_Div64.f
  refine Ev.congr (fun k => by rw [if_neg (show ¬ (y : Int) = 0 by omega), if_neg (show ¬ (y : Int) ≤ (hi : Int) by omega), if_neg (show ¬ (hi : Int) = 0 by omega)]) (Ev.bind hlz ?_)
  rw [w1, w2, c1, c2, c3, c4, c5, c6, c7, c8, c9, part_q u v1 (by omega) (by omega), part_r u v1 (by omega) (by omega)]
  refine Ev.congr (fun k => by rw [if_pos (by omega), if_pos (by omega), if_neg (by omega)]) ?_
  have : ((((hi * 18446744073709551616 + lo) / y : Nat) : Int), (divOut V s e q1 m q0).2) = divOut V s e q1 m q0 := by
    have : (((hi * 18446744073709551616 + lo) / y : Nat) : Int) = (divOut V s e q1 m q0).1 := by
      rw [hQ]
      unfold divOut
      simp only
      rw [u64_in (x := (q1 : Int) * 4294967296) (by omega) (by omega), u64_in (by omega) (by omega)]
      omega
    rw [this]
  rw [this]
  exact l1
theorem div64_ev (hi lo y : Nat) (hy : hi < y) (hy2 : y < 18446744073709551616) (hlo : lo < 18446744073709551616) :
    ∃ rem, Ev (fun k => bits_Div64.f k (hi : Int) (lo : Int) (y : Int)) ((((hi * 18446744073709551616 + lo) / y : Nat) : Int), rem) := by
  by_cases h0 : hi = 0
  · subst h0
    refine ⟨Int.tmod (lo : Int) (y : Int), Ev.congr (f := fun _ => some ((((0 * 18446744073709551616 + lo) / y : Nat) : Int), Int.tmod (lo : Int) (y : Int))) (fun k => ?_) (Ev.now _)⟩
    unfold bits_Div64.f
    rw [if_neg (show ¬ (y : Int) = 0 by omega), if_neg (show ¬ (y : Int) ≤ ((0 : Nat) : Int) by omega), if_pos (by rfl), part_q lo y hlo (by omega)]
    simp
  · exact div_ge hi lo y hy hy2 hlo h0
theorem held_nat (A C : Nat) (b : Bool) (hA : A < 18446744073709551616) (hC : C < 18446744073709551616) : Ev (fun k => fixq_held.f k (A : Int) (C : Int) b) (sat (sg b (A * 18446744073709551616 + C))) := by
  have h := held_ev (A : Int) (C : Int) b (by omega) (by omega) (by omega) (by omega)
  have e : ((A : Int) * 18446744073709551616 + (C : Int)) = ((A * 18446744073709551616 + C : Nat) : Int) := by simp
  rw [e, Int.toNat_natCast] at h
  exact h
/-- The size of a quotient. -/
def quoN (a b : Int) : Nat := a.natAbs * 4294967296 / b.natAbs
theorem div_ev (a b : Int) (ha : In64 a) (hb : In64 b) (h0 : b ≠ 0) : Ev (fun k => fixq_Div.f k a b) (sat (sg ((decide (a < 0)) != (decide (b < 0))) (quoN a b))) := by
  unfold fixq_Div.f
  refine Ev.congr (fun k => by rw [if_neg h0, size_eq a ha, size_eq b hb]) ?_
  obtain ⟨h1, h2⟩ := ha
  obtain ⟨h3, h4⟩ := hb
  simp only [Option.bind_some]
  refine Ev.congr (fun k => by rw [if_neg (show ¬ (b.natAbs : Int) = 0 by omega)]) ?_
  obtain ⟨x, ex⟩ : ∃ x, x = a.natAbs := ⟨_, rfl⟩
  obtain ⟨y, ey⟩ : ∃ y, y = b.natAbs := ⟨_, rfl⟩
  unfold quoN
  rw [← ex, ← ey]
  have hy : 0 < y := by omega
  have c1 : (x : Int) / 4294967296 = ((x / 4294967296 : Nat) : Int) := by omega
  have c2 : IntKind.u64.wrap ((x : Int) * 4294967296) = ((x * 4294967296 % 18446744073709551616 : Nat) : Int) := by rw [u64w]; omega
  rw [c1, c2, tmod_nat, part_q _ y (by omega) hy]
  obtain ⟨rem, hdv⟩ := div64_ev (x / 4294967296 % y) (x * 4294967296 % 18446744073709551616) y (Nat.mod_lt _ hy) (by omega) (by omega)
  obtain ⟨Hh, eHh⟩ : ∃ h, h = x / 4294967296 := ⟨_, rfl⟩
  obtain ⟨Ll, eLl⟩ : ∃ l, l = x * 4294967296 % 18446744073709551616 := ⟨_, rfl⟩
  have hx : x * 4294967296 = Hh * 18446744073709551616 + Ll := by omega
  have hLl : Ll < 18446744073709551616 := by omega
  have hHh : Hh < 18446744073709551616 := by omega
  rw [← eHh, ← eLl] at hdv
  rw [← eHh, ← eLl, hx]
  have hmod := Nat.mod_lt Hh hy
  have hq : (Hh * 18446744073709551616 + Ll) / y = Hh / y * 18446744073709551616 + (Hh % y * 18446744073709551616 + Ll) / y := by
    have e1 : Hh * 18446744073709551616 + Ll = (Hh % y * 18446744073709551616 + Ll) + y * (Hh / y * 18446744073709551616) := by
      have := Nat.div_add_mod Hh y
      generalize Hh / y = Q at *
      generalize Hh % y = R at *
      rw [← this, Nat.add_mul, Nat.mul_assoc]; omega
    rw [e1, Nat.add_mul_div_left _ _ hy]; omega
  have hlow : (Hh % y * 18446744073709551616 + Ll) / y < 18446744073709551616 := dig_lt' (Hh % y) Ll y 18446744073709551616 hLl hmod
  have hhq : Hh / y ≤ Hh := Nat.div_le_self _ _
  rw [hq]
  clear hq
  generalize (Hh % y * 18446744073709551616 + Ll) / y = C at *
  generalize Hh / y = A at *
  refine Ev.bind hdv ?_
  exact Ev.bind (held_nat A C _ (by omega) (by omega)) (Ev.now _)
end Go.Proofs.Ythgnpmchhikchaa.Q
