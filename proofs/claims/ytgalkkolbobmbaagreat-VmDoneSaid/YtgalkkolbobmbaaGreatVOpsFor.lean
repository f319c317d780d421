/- Plain arithmetic: math/bits.Div64 and fixq.Div. -/
import Derived.Test.YtgalkkolbobmbaaGreatVMDiv2
import Derived.Test.YtgalkkolbobmbaaGreatVMade

namespace Go.Proofs.YtgalkkolbobmbaaGreat.V
open Go.RowKit Go.Proofs.YtgalkkolbobmbaaGreatW.PrintWords Go.Proofs.YtgalkkolbobmbaaGreatW.PrintLast Go.Proofs.YtgalkkolbobmbaaGreatW.PrintMore
set_option linter.unusedVariables false

theorem shl_nat (x s : Nat) (hs : s ≤ 63) : shl .u64 (x : Int) (s : Int) = ((x * 2 ^ s % 18446744073709551616 : Nat) : Int) := by
 unfold shl
 rw [u64w, Int.toNat_natCast, Nat.min_eq_left (by simp [IntKind.bits]; omega)]
 simp
theorem shr_nat (x s : Nat) (hs : s ≤ 64) : shr .u64 (x : Int) (s : Int) = ((x / 2 ^ s : Nat) : Int) := by
 unfold shr
 rw [Int.toNat_natCast, Nat.min_eq_left (by simp [IntKind.bits]; omega)]
 simp
theorem or_at (x y s : Nat) (hs : s ≤ 63) (hx : x < 18446744073709551616) (hd : x % 2 ^ s = 0) (hy : y < 2 ^ s) : bits .or .u64 (x : Int) (y : Int) = ((x + y : Nat) : Int) := by
 have hp : (2 : Nat) ^ s ≤ 2 ^ 63 := Nat.pow_le_pow_right (by decide) hs
 have := bits_join .u64 64 (by decide) wraps_u64 s (x : Int) (y : Int) (by omega) (by exact_mod_cast hd) (by omega) (by omega) (by exact_mod_cast hy) (by omega)
 rw [this]; omega
theorem tdiv_nat (x y : Nat) : Int.tdiv (x : Int) (y : Int) = ((x / y : Nat) : Int) := by
 rw [Int.tdiv_eq_ediv_of_nonneg (by omega)]; simp
theorem tmod_nat (x y : Nat) : Int.tmod (x : Int) (y : Int) = ((x % y : Nat) : Int) := by
 rw [Int.tmod_eq_emod_of_nonneg (by omega)]; simp
/-- A word by a half: quotient and rest, as_ the code has them. -/
theorem part_q (m v1 : Nat) (hm : m < 18446744073709551616) (hv : 0 < v1) : IntKind.u64.wrap (Int.tdiv (m : Int) (v1 : Int)) = ((m / v1 : Nat) : Int) := by
 have : m / v1 ≤ m := Nat.div_le_self _ _
 rw [tdiv_nat]
 generalize m / v1 = q at *
 rw [u64_in (by omega) (by omega)]
theorem part_r (m v1 : Nat) (hm : m < 18446744073709551616) (hv : 0 < v1) : IntKind.u64.wrap ((m : Int) - (IntKind.u64.wrap (((m / v1 : Nat) : Int) * (v1 : Int)))) = ((m % v1 : Nat) : Int) := by
 have h := Nat.div_add_mod m v1
 rw [Nat.mul_comm] at h
 rw [← Int.natCast_mul]
 generalize m / v1 * v1 = X at *
 generalize m % v1 = r at *
 rw [u64_in (x := (X : Int)) (by omega) (by omega), u64_in (by omega) (by omega)]; omega
theorem join_digits (H t L : Nat) : H * 18446744073709551616 + (t * 18446744073709551616 + L) = ((H + t) * 4294967296 + L / 4294967296) * 4294967296 + L % 4294967296 := by omega
theorem div_ge (hi lo y : Nat) (hy : hi < y) (hy2 : y < 18446744073709551616) (hlo : lo < 18446744073709551616) (h0 : hi ≠ 0) :
 ∃ rem, Ev (fun k => bits_Div64.f k (hi : Int) (lo : Int) (y : Int)) ((((hi * 18446744073709551616 + lo) / y : Nat) : Int), rem) := by
 obtain ⟨s, hlz, hs, hV, hV'⟩ := lz_ev y (by omega) hy2
 have hS := Nat.two_pow_pos s
 have hhi : hi * 2 ^ s < y * 2 ^ s := Nat.mul_lt_mul_of_pos_right hy hS
 have hhi1 : (hi + 1) * 2 ^ s ≤ y * 2 ^ s := Nat.mul_le_mul_right _ hy
 rw [Nat.succ_mul] at hhi1
 -- the divisor, moved up
 obtain ⟨V, eV⟩ : ∃ V, V = y * 2 ^ s := ⟨_, rfl⟩
 obtain ⟨H, eH⟩ : ∃ H, H = hi * 2 ^ s := ⟨_, rfl⟩
 have split : lo * 2 ^ s = lo / 2 ^ (64 - s) * 18446744073709551616 + lo * 2 ^ s % 18446744073709551616 := by
  have e1 : lo * 2 ^ s / 18446744073709551616 = lo / 2 ^ (64 - s) := by
   have : (18446744073709551616 : Nat) = 2 ^ (64 - s) * 2 ^ s := by rw [← Nat.pow_add, show 64 - s + s = 64 by omega]
   rw [this, Nat.mul_div_mul_right _ _ hS]
  have := Nat.div_add_mod (lo * 2 ^ s) 18446744073709551616
  rw [e1] at this
  omega
 have ltop : lo / 2 ^ (64 - s) < 2 ^ s := by
  refine (Nat.div_lt_iff_lt_mul (Nat.two_pow_pos _)).2 ?_
  rw [← Nat.pow_add, show s + (64 - s) = 64 by omega]; exact hlo
 obtain ⟨t, et⟩ : ∃ t, t = lo / 2 ^ (64 - s) := ⟨_, rfl⟩
 obtain ⟨L, eL⟩ : ∃ L, L = lo * 2 ^ s % 18446744073709551616 := ⟨_, rfl⟩
 have hL : L < 18446744073709551616 := by rw [eL]; exact Nat.mod_lt _ (by decide)
 rw [← et, ← eL] at split
 rw [← et] at ltop
 rw [← eV] at hV hV' hhi hhi1
 rw [← eH] at hhi hhi1
 -- as_ the code spells them
 have w1 : IntKind.u64.wrap (s : Int) = (s : Int) := u64_in (by omega) (by omega)
 have w2 : IntKind.u64.wrap (64 - (s : Int)) = ((64 - s : Nat) : Int) := by rw [u64_in (by omega) (by omega)]; omega
 have c1 : shl .u64 (y : Int) (s : Int) = (V : Int) := by rw [shl_nat y s hs, ← eV, Nat.mod_eq_of_lt hV]
 have c2 : shl .u64 (hi : Int) (s : Int) = (H : Int) := by rw [shl_nat hi s hs, ← eH, Nat.mod_eq_of_lt (by omega)]
 have c3 : shr .u64 (lo : Int) ((64 - s : Nat) : Int) = (t : Int) := by rw [shr_nat lo _ (by omega), ← et]
 have c4 : shl .u64 (lo : Int) (s : Int) = (L : Int) := by rw [shl_nat lo s hs, ← eL]
 have c5 : bits .or .u64 (H : Int) (t : Int) = ((H + t : Nat) : Int) := or_at H t s hs (by omega) (by rw [eH]; exact Nat.mul_mod_left _ _) ltop
 have c6 : (V : Int) / 4294967296 = ((V / 4294967296 : Nat) : Int) := by omega
 have c7 : bits .and .u64 (V : Int) 4294967295 = ((V % 4294967296 : Nat) : Int) := by rw [and_mask32 _ (by omega) (by omega)]; omega
 have c8 : (L : Int) / 4294967296 = ((L / 4294967296 : Nat) : Int) := by omega
 have c9 : bits .and .u64 (L : Int) 4294967295 = ((L % 4294967296 : Nat) : Int) := by rw [and_mask32 _ (by omega) (by omega)]; omega
 obtain ⟨u, eu⟩ : ∃ u, u = H + t := ⟨_, rfl⟩
 obtain ⟨v1, ev1⟩ : ∃ v1, v1 = V / 4294967296 := ⟨_, rfl⟩
 obtain ⟨v0, ev0⟩ : ∃ v0, v0 = V % 4294967296 := ⟨_, rfl⟩
 obtain ⟨d, ed⟩ : ∃ d, d = L / 4294967296 := ⟨_, rfl⟩
 obtain ⟨e, ee⟩ : ∃ e, e = L % 4294967296 := ⟨_, rfl⟩
 rw [← eu] at c5
 rw [← ev1] at c6
 rw [← ev0] at c7
 rw [← ed] at c8
 rw [← ee] at c9
 have hVs : v1 * 4294967296 + v0 = V := by omega
 have hu : u < v1 * 4294967296 + v0 := by omega
 have hU : (hi * 18446744073709551616 + lo) * 2 ^ s = (u * 4294967296 + d) * 4294967296 + e := by
  have z1 := Nat.add_mul (hi * 18446744073709551616) lo (2 ^ s)
  have z2 := Nat.mul_right_comm hi 18446744073709551616 (2 ^ s)
  rw [← eH] at z2
  rw [z1, z2, split, eu, ed, ee]
  exact join_digits H t L
 have g1 := dig_start (v1 := v1) (v0 := v0) (u := u) (d := d) (by omega) (by omega) (by omega) (by omega) hu
 rw [hVs] at g1 hu
 -- the first digit, and what it leaves
 obtain ⟨q1, eq1⟩ : ∃ q1, q1 = (u * 4294967296 + d) / V := ⟨_, rfl⟩
 obtain ⟨m, em⟩ : ∃ m, m = (u * 4294967296 + d) % V := ⟨_, rfl⟩
 have hdm : V * q1 + m = u * 4294967296 + d := by rw [eq1, em]; exact Nat.div_add_mod _ _
 have hm : m < V := by rw [em]; exact Nat.mod_lt _ (by omega)
 have hq1 : q1 < 4294967296 := by rw [eq1]; exact dig_lt' u d V 4294967296 (by omega) hu
 rw [← eq1] at g1
 have g2 := dig_start (v1 := v1) (v0 := v0) (u := m) (d := e) (by omega) (by omega) (by omega) (by omega) (by omega)
 rw [hVs] at g2
 obtain ⟨q0, eq0⟩ : ∃ q0, q0 = (m * 4294967296 + e) / V := ⟨_, rfl⟩
 have hq0 : q0 < 4294967296 := by rw [eq0]; exact dig_lt' m e V 4294967296 (by omega) hm
 rw [← eq0] at g2
 have hQ : (hi * 18446744073709551616 + lo) / y = q1 * 4294967296 + q0 := by
  have a1 : (hi * 18446744073709551616 + lo) / y = (hi * 18446744073709551616 + lo) * 2 ^ s / (y * 2 ^ s) := (Nat.mul_div_mul_right _ _ hS).symm
  rw [a1, hU, ← eV, ← hdm]
  have a2 : (V * q1 + m) * 4294967296 + e = (m * 4294967296 + e) + V * (q1 * 4294967296) := by rw [Nat.add_mul, Nat.mul_assoc]; omega
  rw [a2, Nat.add_mul_div_left _ _ (by omega), ← eq0]; omega
 have hun : IntKind.u64.wrap ((IntKind.u64.wrap ((IntKind.u64.wrap ((u : Int) * 4294967296)) + (d : Int))) - (IntKind.u64.wrap ((q1 : Int) * (V : Int)))) = (m : Int) := by
  rw [← Int.natCast_mul, Nat.mul_comm q1 V]
  generalize V * q1 = X at *
  simp only [u64w]
  omega
 have l2 := loop2 V s v1 v0 m e q1 q0 (m / v1) (m / v1) (m % v1) (Nat.le_refl _) g2
 have hj2 : Ev (fun k => bits_Div64.j2 k (V : Int) (s : Int) (v1 : Int) (v0 : Int) (u : Int) (d : Int) (e : Int) (q1 : Int)) (divOut V s e q1 m q0) := by
  refine Ev.step (fun k => ?_) l2
  simp only [bits_Div64.j2]
  rw [if_neg (by omega), hun, part_q m v1 (by omega) (by omega), part_r m v1 (by omega) (by omega)]
 have l1 := loop1 V s v1 v0 u d e q1 _ hj2 (u / v1) (u / v1) (u % v1) (Nat.le_refl _) g1
 refine ⟨_, Ev.congr (fun k => rfl) (show Ev _ (_, (divOut V s e q1 m q0).2) from ?_)⟩
 unfold bits_Div64.f
 refine Ev.congr (fun k => by rw [if_neg (show ¬ (y : Int) = 0 by omega), if_neg (show ¬ (y : Int) ≤ (hi : Int) by omega), if_neg (show ¬ (hi : Int) = 0 by omega)]) (Ev.bind hlz ?_)
 rw [w1, w2, c1, c2, c3, c4, c5, c6, c7, c8, c9, part_q u v1 (by omega) (by omega), part_r u v1 (by omega) (by omega)]
 refine Ev.congr (fun k => by rw [if_pos (by omega), if_pos (by omega), if_neg (by omega)]) ?_
 have : ((((hi * 18446744073709551616 + lo) / y : Nat) : Int), (divOut V s e q1 m q0).2) = divOut V s e q1 m q0 := by
  have : (((hi * 18446744073709551616 + lo) / y : Nat) : Int) = (divOut V s e q1 m q0).1 := by
   rw [hQ]
   unfold divOut
   simp only
   rw [u64_in (x := (q1 : Int) * 4294967296) (by omega) (by omega), u64_in (by omega) (by omega)]
   omega
  rw [this]
 rw [this]
 exact l1
theorem div64_ev (hi lo y : Nat) (hy : hi < y) (hy2 : y < 18446744073709551616) (hlo : lo < 18446744073709551616) :
 ∃ rem, Ev (fun k => bits_Div64.f k (hi : Int) (lo : Int) (y : Int)) ((((hi * 18446744073709551616 + lo) / y : Nat) : Int), rem) := by
 by_cases h0 : hi = 0
 · subst h0
   refine ⟨Int.tmod (lo : Int) (y : Int), Ev.congr (f := fun _ => some ((((0 * 18446744073709551616 + lo) / y : Nat) : Int), Int.tmod (lo : Int) (y : Int))) (fun k => ?_) (Ev.now _)⟩
   unfold bits_Div64.f
   rw [if_neg (show ¬ (y : Int) = 0 by omega), if_neg (show ¬ (y : Int) ≤ ((0 : Nat) : Int) by omega), if_pos (by rfl), part_q lo y hlo (by omega)]
   simp
 · exact div_ge hi lo y hy hy2 hlo h0
theorem held_nat (A C : Nat) (b : Bool) (hA : A < 18446744073709551616) (hC : C < 18446744073709551616) : Ev (fun k => fixq_held.f k (A : Int) (C : Int) b) (sat (sg b (A * 18446744073709551616 + C))) := by
 have h := held_ev (A : Int) (C : Int) b (by omega) (by omega) (by omega) (by omega)
 have e : ((A : Int) * 18446744073709551616 + (C : Int)) = ((A * 18446744073709551616 + C : Nat) : Int) := by simp
 rw [e, Int.toNat_natCast] at h
 exact h
/-- The size of a quotient. -/
def quoN (a b : Int) : Nat := a.natAbs * 4294967296 / b.natAbs
theorem div_ev (a b : Int) (ha : In64 a) (hb : In64 b) (h0 : b ≠ 0) : Ev (fun k => fixq_Div.f k a b) (sat (sg ((decide (a < 0)) != (decide (b < 0))) (quoN a b))) := by
 unfold fixq_Div.f
 refine Ev.congr (fun k => by rw [if_neg h0, size_eq a ha, size_eq b hb]) ?_
 obtain ⟨h1, h2⟩ := ha
 obtain ⟨h3, h4⟩ := hb
 simp only [Option.bind_some]
 refine Ev.congr (fun k => by rw [if_neg (show ¬ (b.natAbs : Int) = 0 by omega)]) ?_
 obtain ⟨x, ex⟩ : ∃ x, x = a.natAbs := ⟨_, rfl⟩
 obtain ⟨y, ey⟩ : ∃ y, y = b.natAbs := ⟨_, rfl⟩
 unfold quoN
 rw [← ex, ← ey]
 have hy : 0 < y := by omega
 have c1 : (x : Int) / 4294967296 = ((x / 4294967296 : Nat) : Int) := by omega
 have c2 : IntKind.u64.wrap ((x : Int) * 4294967296) = ((x * 4294967296 % 18446744073709551616 : Nat) : Int) := by rw [u64w]; omega
 rw [c1, c2, tmod_nat, part_q _ y (by omega) hy]
 obtain ⟨rem, hdv⟩ := div64_ev (x / 4294967296 % y) (x * 4294967296 % 18446744073709551616) y (Nat.mod_lt _ hy) (by omega) (by omega)
 obtain ⟨Hh, eHh⟩ : ∃ h, h = x / 4294967296 := ⟨_, rfl⟩
 obtain ⟨Ll, eLl⟩ : ∃ l, l = x * 4294967296 % 18446744073709551616 := ⟨_, rfl⟩
 have hx : x * 4294967296 = Hh * 18446744073709551616 + Ll := by omega
 have hLl : Ll < 18446744073709551616 := by omega
 have hHh : Hh < 18446744073709551616 := by omega
 rw [← eHh, ← eLl] at hdv
 rw [← eHh, ← eLl, hx]
 have hmod := Nat.mod_lt Hh hy
 have hq : (Hh * 18446744073709551616 + Ll) / y = Hh / y * 18446744073709551616 + (Hh % y * 18446744073709551616 + Ll) / y := by
  have e1 : Hh * 18446744073709551616 + Ll = (Hh % y * 18446744073709551616 + Ll) + y * (Hh / y * 18446744073709551616) := by
   have := Nat.div_add_mod Hh y
   generalize Hh / y = Q at *
   generalize Hh % y = R at *
   rw [← this, Nat.add_mul, Nat.mul_assoc]; omega
  rw [e1, Nat.add_mul_div_left _ _ hy]; omega
 have hlow : (Hh % y * 18446744073709551616 + Ll) / y < 18446744073709551616 := dig_lt' (Hh % y) Ll y 18446744073709551616 hLl hmod
 have hhq : Hh / y ≤ Hh := Nat.div_le_self _ _
 rw [hq]
 clear hq
 generalize (Hh % y * 18446744073709551616 + Ll) / y = C at *
 generalize Hh / y = A at *
 refine Ev.bind hdv ?_
 exact Ev.bind (held_nat A C _ (by omega) (by omega)) (Ev.now _)

/-- The closure: is the square of r at most hi, lo? -/
def sqFits (hi lo r : Int) : Bool := match bits_Mul64.f r r with
 | some (h, l) => decide (h < hi) || (h == hi && decide (l ≤ lo))
 | none => false
/-- The bits below n, tried from the greatest on. -/
def sqLoop (hi lo : Int) : Nat → Int → Int
 | 0, r => r
 | n + 1, r => if sqFits hi lo (Go.bits .or .u64 r (IntKind.u64.wrap (2 ^ n))) = true then sqLoop hi lo n (Go.bits .or .u64 r (IntKind.u64.wrap (2 ^ n))) else sqLoop hi lo n r
def fixq_Sqrt.f (a0 : Int) : Option (Int × Int) :=
 if a0 < 0 then some (0, 2) else some (wrap64 (sqLoop (IntKind.u64.wrap a0 / 4294967296) (IntKind.u64.wrap (IntKind.u64.wrap a0 * 4294967296)) 48 0), 0)

theorem sqFits_eq {hi lo r p q : Int} (e : bits_Mul64.f r r = some (p, q)) : sqFits hi lo r = (decide (p < hi) || (p == hi && decide (q ≤ lo))) := by
 unfold sqFits
 rw [e]

set_option maxHeartbeats 1000000 in
theorem sqFits_any (hi lo r : Int) (g1 g2 : Nat) (w : World) (h1 : w.cell? ⟨g1, 0, none⟩ = some (.int .u64 hi)) (h2 : w.cell? ⟨g2, 0, none⟩ = some (.int .u64 lo)) :
 Calls Tryz.prog 181 #[.int .u64 r, .pointer (some ⟨g1, 0, none⟩), .pointer (some ⟨g2, 0, none⟩)] w fun e w' => e = .returned (.bool (sqFits hi lo r)) ∧ Drawn0 w w' := by
 obtain ⟨⟨p, q⟩, e⟩ : ∃ x, bits_Mul64.f r r = some x := ⟨_, rfl⟩
 have E := Aside0.mk e
 have E2 := Aside0.mk (sqFits_eq (hi := hi) (lo := lo) e)
 clear e
 by_cases c1 : p < hi
 · have c1b : decide (p < hi) = true := decide_eq_true c1
   have E3 := Aside0.mk (show sqFits hi lo r = true by rw [E2.out, c1b]; rfl)
   clear c1
   go_enter Tryz.func181, Tryz.ntmps181
   go_wp2_with fail
   refine (bits_Mul64.calls r r p q _ E.out).mono ?_
   rintro e w' ⟨rfl, ⟨nd, rfl⟩⟩
   go_wp2
   go_ret
   exact ⟨by rw [E3.out]; rfl, by repeat (first | exact Drawn0.refl _ | apply Drawn0.step)⟩
 · have c1b : decide (p < hi) = false := decide_eq_false c1
   by_cases c2 : p = hi
   · subst c2
     by_cases c3 : q ≤ lo
     · have c3b : decide (q ≤ lo) = true := decide_eq_true c3
       have E3 := Aside0.mk (show sqFits p lo r = true by rw [E2.out, c3b]; simp)
       go_enter Tryz.func181, Tryz.ntmps181
       go_wp2_with fail
       refine (bits_Mul64.calls r r p q _ E.out).mono ?_
       rintro e w' ⟨rfl, ⟨nd, rfl⟩⟩
       go_wp2
       go_ret
       exact ⟨by rw [E3.out]; rfl, by repeat (first | exact Drawn0.refl _ | apply Drawn0.step)⟩
     · have c3b : decide (q ≤ lo) = false := decide_eq_false c3
       have E3 := Aside0.mk (show sqFits p lo r = false by rw [E2.out, c3b, c1b]; simp)
       go_enter Tryz.func181, Tryz.ntmps181
       go_wp2_with fail
       refine (bits_Mul64.calls r r p q _ E.out).mono ?_
       rintro e w' ⟨rfl, ⟨nd, rfl⟩⟩
       go_wp2
       go_ret
       exact ⟨by rw [E3.out]; rfl, by repeat (first | exact Drawn0.refl _ | apply Drawn0.step)⟩
   · have c2b : (p == hi) = false := beq_eq_false_iff_ne.mpr c2
     have E3 := Aside0.mk (show sqFits hi lo r = false by rw [E2.out, c2b, c1b]; simp)
     go_enter Tryz.func181, Tryz.ntmps181
     go_wp2_with fail
     refine (bits_Mul64.calls r r p q _ E.out).mono ?_
     rintro e w' ⟨rfl, ⟨nd, rfl⟩⟩
     go_wp2
     go_ret
     exact ⟨by rw [E3.out]; rfl, by repeat (first | exact Drawn0.refl _ | apply Drawn0.step)⟩

set_option maxHeartbeats 1000000 in
theorem fixq_Sqrt.calls (a0 : Int) (r1 : Int) (r2 : Int) (w : World) (h : fixq_Sqrt.f a0 = some (r1, r2)) :
 Calls Tryz.prog 117 #[.int .i64 a0] w fun e w' => e = .returned (.tuple #[.int .i64 r1, .int .i64 r2]) ∧ Below w.heap.size w w' := by
 unfold fixq_Sqrt.f at h
 by_cases c1 : a0 < 0
 · rw [if_pos c1] at h
   have c1b : decide (a0 < 0) = true := decide_eq_true c1
   clear c1
   simp only [Option.some.injEq, Prod.mk.injEq] at h
   obtain ⟨rfl, rfl⟩ := h
   go_enter Tryz.func117, Tryz.ntmps117
   go_wp2
   go_ret2
   exact ⟨rfl, Below.refl _ _⟩
 · rw [if_neg c1] at h
   have c1b : decide (a0 < 0) = false := decide_eq_false c1
   clear c1
   simp only [Option.some.injEq, Prod.mk.injEq] at h
   obtain ⟨h1, rfl⟩ := h
   have hmf : ∀ (fn : Fn) (first cap : Array Value) (w : World), (Instr.makeFunc fn first cap).run Tryz.prog w = .ok (.func fn first cap) w := fun _ _ _ _ => rfl
   have H1 := Aside0.mk h1
   clear h1
   go_enter Tryz.func117, Tryz.ntmps117
   go_wp2
   have HR := H1.out
   clear H1
   obtain ⟨w2, hw2⟩ : ∃ w2, w2 = (w.alloc (Obj.cells #[Value.int IntKind.u64 (IntKind.u64.wrap a0 / 4294967296)] 210)).alloc (Obj.cells #[Value.int IntKind.u64 (IntKind.u64.wrap (IntKind.u64.wrap a0 * 4294967296))] 210) := ⟨_, rfl⟩
   obtain ⟨hi, hhi⟩ : ∃ x, x = IntKind.u64.wrap a0 / 4294967296 := ⟨_, rfl⟩
   obtain ⟨lo, hlo⟩ : ∃ x, x = IntKind.u64.wrap (IntKind.u64.wrap a0 * 4294967296) := ⟨_, rfl⟩
   rw [← hw2, ← hhi, ← hlo]
   rw [← hhi, ← hlo] at hw2 HR
   have HR := Aside0.mk HR
   have HB := Aside0.mk (show Below w.heap.size w w2 by rw [hw2]; exact ((Below.refl _ _).alloc (Nat.le_refl _) _).alloc (by simp) _)
   have C1 : w2.cell? ⟨w.heap.size, 0, none⟩ = some (.int .u64 hi) := by
    rw [hw2, World.cell?_alloc_past _ _ _ (by simp), World.cell?_alloc_at _ _ _ _ rfl]; rfl
   have C2 : w2.cell? ⟨w.heap.size + 1, 0, none⟩ = some (.int .u64 lo) := by
    rw [hw2, World.cell?_alloc_at _ _ _ _ (by simp)]; rfl
   have HC1 := Aside0.mk C1
   have HC2 := Aside0.mk C2
   clear hw2 hhi hlo C1 C2
   go_loopw [7, 8] (fun r i wr => ∃ (j x : Int), -1 ≤ j ∧ j ≤ 47 ∧ i = .int .i64 j ∧ r = .int .u64 x ∧ Aside0 (wrap64 (sqLoop hi lo (j + 1).toNat x) = r1) ∧ Aside0 (Drawn0 w2 wr)) (fun _ i _ => (intOf i + 1).toNat)
   case atStart => exact ⟨47, 0, by omega, by omega, rfl, rfl, HR, ⟨Drawn0.refl _⟩⟩
   case round =>
    obtain ⟨j, x, hj1, hj2, rfl, rfl, HS, HD⟩ := hrel
    by_cases c : 0 ≤ j
    · have hn : (j + 1).toNat = j.toNat + 1 := by omega
      have HS := HS.out
      rw [hn] at HS
      unfold sqLoop at HS
      clear hn
      obtain ⟨y, hy⟩ : ∃ y, y = bits BinOp.or IntKind.u64 x (IntKind.u64.wrap (2 ^ j.toNat)) := ⟨_, rfl⟩
      rw [← hy] at HS
      have HY := Aside0.mk hy
      clear hy
      cases hb : sqFits hi lo y with
      | true =>
       rw [if_pos hb] at HS
       have HS' := Aside0.mk HS
       have HB' := Aside0.mk hb
       clear HS hb
       obtain ⟨nd0, hnd⟩ := HD.out.out
       subst hnd
       go_wp2_with fail
       rw [← HY.out]
       refine (sqFits_any hi lo y _ _ (w2.drewN nd0) HC1.out HC2.out).mono ?_
       rw [HB'.out]
       rintro e w' ⟨rfl, ⟨nd, rfl⟩⟩
       go_wp2
       rw [← HY.out]
       go_roundw
       case rel => exact ⟨j - 1, y, by omega, by omega, by go_num, rfl, ⟨by rw [show j - 1 + 1 = j by omega]; exact HS'.out⟩, ⟨⟨nd0 + nd, rfl⟩⟩⟩
       case measure => simp [intOf]; omega
      | false =>
       rw [if_neg (by rw [hb]; decide)] at HS
       have HS' := Aside0.mk HS
       have HB' := Aside0.mk hb
       clear HS hb
       obtain ⟨nd0, hnd⟩ := HD.out.out
       subst hnd
       go_wp2_with fail
       rw [← HY.out]
       refine (sqFits_any hi lo y _ _ (w2.drewN nd0) HC1.out HC2.out).mono ?_
       rw [HB'.out]
       rintro e w' ⟨rfl, ⟨nd, rfl⟩⟩
       go_wp2
       go_roundw
       case rel => exact ⟨j - 1, x, by omega, by omega, by go_num, rfl, ⟨by rw [show j - 1 + 1 = j by omega]; exact HS'.out⟩, ⟨⟨nd0 + nd, rfl⟩⟩⟩
       case measure => simp [intOf]; omega
    · go_wp2
      go_ret2
      obtain ⟨nd0, hnd⟩ := HD.out.out
      subst hnd
      have HS := HS.out
      rw [show (j + 1).toNat = 0 by omega] at HS
      unfold sqLoop at HS
      exact ⟨by rw [← HS]; rfl, pw_below_drewN HB.out _⟩

theorem fits_iff (hi lo r : Nat) (hr : r < 18446744073709551616) (hl : lo < 18446744073709551616) : sqFits (hi : Int) (lo : Int) (r : Int) = decide (r * r ≤ hi * 18446744073709551616 + lo) := by
 rw [sqFits_eq (mul64_eq r r hr hr)]
 generalize r * r = P
 by_cases h1 : P / 18446744073709551616 < hi
 · rw [decide_eq_true (show (((P / 18446744073709551616 : Nat) : Int)) < (hi : Int) by omega), Bool.true_or, decide_eq_true (by omega)]
 · rw [decide_eq_false (show ¬ (((P / 18446744073709551616 : Nat) : Int)) < (hi : Int) by omega), Bool.false_or]
   by_cases h2 : P / 18446744073709551616 = hi
   · rw [show ((((P / 18446744073709551616 : Nat) : Int)) == (hi : Int)) = true by rw [beq_iff_eq]; omega, Bool.true_and]
     by_cases h3 : P % 18446744073709551616 ≤ lo
     · rw [decide_eq_true (by omega), decide_eq_true (by omega)]
     · rw [decide_eq_false (by omega), decide_eq_false (by omega)]
   · rw [show ((((P / 18446744073709551616 : Nat) : Int)) == (hi : Int)) = false by rw [beq_eq_false_iff_ne]; omega, Bool.false_and, decide_eq_false (by omega)]
theorem pow_le48 (n : Nat) (h : n ≤ 48) : 2 ^ n ≤ 281474976710656 := by
 have : (2 : Nat) ^ n ≤ 2 ^ 48 := Nat.pow_le_pow_right (by decide) h
 simpa using this
theorem sq_loop (hi lo : Nat) (hl : lo < 18446744073709551616) : ∀ (n x q : Nat), x = 2 ^ n * q → n ≤ 48 → x + 2 ^ n ≤ 281474976710656 → x * x ≤ hi * 18446744073709551616 + lo → hi * 18446744073709551616 + lo < (x + 2 ^ n) * (x + 2 ^ n) →
 ∃ R : Nat, sqLoop (hi : Int) (lo : Int) n (x : Int) = (R : Int) ∧ R * R ≤ hi * 18446744073709551616 + lo ∧ hi * 18446744073709551616 + lo < (R + 1) * (R + 1) ∧ R < 281474976710656
 | 0, x, q, hx, hn, hb, h1, h2 => ⟨x, rfl, h1, by simpa using h2, by simp at hb; omega⟩
 | n + 1, x, q, hx, hn, hb, h1, h2 => by
  have hp := pow_le48 n (by omega)
  have hps : 2 ^ (n + 1) = 2 * 2 ^ n := by rw [Nat.pow_succ, Nat.mul_comm]
  have hw : IntKind.u64.wrap (2 ^ n) = ((2 ^ n : Nat) : Int) := by
   have e : ((2 : Int) ^ n) = ((2 ^ n : Nat) : Int) := by simp
   rw [e, u64_in (by omega) (by omega)]
  have hor : bits .or .u64 (x : Int) (IntKind.u64.wrap (2 ^ n)) = ((x + 2 ^ n : Nat) : Int) := by
   rw [hw]
   have hj := bits_join .u64 64 (by decide) wraps_u64 (n + 1) (x : Int) ((2 ^ n : Nat) : Int) (by omega)
    (by
     have : x % 2 ^ (n + 1) = 0 := by rw [hx]; exact Nat.mul_mod_right _ _
     exact_mod_cast this) (by omega) (by omega)
    (by
     have : 2 ^ n < 2 ^ (n + 1) := by rw [hps]; have := Nat.two_pow_pos n; omega
     exact_mod_cast this) (by omega)
   rw [hj]; omega
  unfold sqLoop
  rw [hor, fits_iff hi lo _ (by omega) hl]
  by_cases hf : (x + 2 ^ n) * (x + 2 ^ n) ≤ hi * 18446744073709551616 + lo
  · rw [decide_eq_true hf, if_pos rfl]
    refine sq_loop hi lo hl n (x + 2 ^ n) (2 * q + 1) ?_ (by omega) (by omega) hf ?_
    · rw [hx, hps, Nat.mul_add, Nat.mul_one]
      rw [Nat.mul_comm 2 (2 ^ n), Nat.mul_assoc]
    · rw [show x + 2 ^ n + 2 ^ n = x + 2 ^ (n + 1) by omega]; exact h2
  · rw [decide_eq_false hf, if_neg (by decide)]
    refine sq_loop hi lo hl n x (2 * q) ?_ (by omega) (by omega) h1 (by omega)
    rw [hx, hps, Nat.mul_comm 2 (2 ^ n), Nat.mul_assoc]
def IsRoot (N R : Nat) : Prop := R * R ≤ N ∧ N < (R + 1) * (R + 1)
theorem sqrt_eq (a : Int) (h0 : 0 ≤ a) (ha : In64 a) : ∃ R : Nat, fixq_Sqrt.f a = some ((R : Int), 0) ∧ IsRoot (a.natAbs * 4294967296) R ∧ R < 281474976710656 := by
 obtain ⟨n, rfl⟩ := Int.eq_ofNat_of_zero_le h0
 have hn : n ≤ 9223372036854775807 := by have := ha.2; omega
 have e1 : IntKind.u64.wrap (n : Int) = (n : Int) := u64_in (by omega) (by omega)
 have e2 : (n : Int) / 4294967296 = ((n / 4294967296 : Nat) : Int) := by omega
 have e3 : IntKind.u64.wrap ((n : Int) * 4294967296) = ((n * 4294967296 % 18446744073709551616 : Nat) : Int) := by rw [u64w]; omega
 have e4 : n / 4294967296 * 18446744073709551616 + n * 4294967296 % 18446744073709551616 = n * 4294967296 := by omega
 obtain ⟨R, hR, h1, h2, h3⟩ := sq_loop (n / 4294967296) (n * 4294967296 % 18446744073709551616) (by omega) 48 0 0 rfl (by omega) (by decide) (by omega) (by rw [e4]; simp; omega)
 rw [e4] at h1 h2
 refine ⟨R, ?_, ⟨h1, h2⟩, h3⟩
 unfold fixq_Sqrt.f
 rw [if_neg (by omega), e1, e2, e3, show sqLoop ((n / 4294967296 : Nat) : Int) ((n * 4294967296 % 18446744073709551616 : Nat) : Int) 48 0 = (R : Int) from hR, wrap_in (by omega) (by omega)]
theorem sqrt_neg (a : Int) (h : a < 0) : fixq_Sqrt.f a = some (0, 2) := by unfold fixq_Sqrt.f; rw [if_pos h]

end Go.Proofs.YtgalkkolbobmbaaGreat.V


namespace Go.Proofs.YtgalkkolbobmbaaGreat.V
open Go.RowKit Go.Proofs.YtgalkkolbobmbaaGreatW.PrintWords Go.Proofs.YtgalkkolbobmbaaGreatW.PrintLast Go.Proofs.YtgalkkolbobmbaaGreatW.PrintMore
set_option linter.unusedVariables false
set_option linter.unusedSimpArgs false
def mulQ (a b : Int) : Int × Int := sat (sg ((decide (a < 0)) != (decide (b < 0))) (a.natAbs * b.natAbs / 4294967296))
def divQ (a b : Int) : Int × Int := if b = 0 then (if a = 0 then (0, 2) else (if a < 0 then -9223372036854775808 else 9223372036854775807, 2)) else sat (sg ((decide (a < 0)) != (decide (b < 0))) (quoN a b))
def sqrtQ (a : Int) : Int × Int := (fixq_Sqrt.f a).getD (0, 0)
/-- An operator, in the range of int64. -/
def opQ (op a b c : Int) : Option (Int × Int) :=
 if op = 6 then some (sat (-a)) else if op = 7 then some (truthV (decide (a ≠ 1)), 0) else if op = 8 then some (sqrtQ a) else if op = 9 then some (sat (a + b)) else if op = 10 then some (sat (a - b))
 else if op = 11 then some (mulQ a b) else if op = 12 then some (divQ a b) else if op = 13 then some (truthV (decide (a < b)), 0) else if op = 14 then some (truthV (decide (a ≤ b)), 0)
 else if op = 15 then some (truthV (decide (a = b)), 0) else if op = 16 then some (truthV (decide (a = 1) && decide (b = 1)), 0) else if op = 17 then some (truthV (decide (a = 1) || decide (b = 1)), 0)
 else if op = 18 then some (if a = 1 then b else c, 0) else none
instance decIn64 (a : Int) : Decidable (In64 a) := inferInstanceAs (Decidable (-9223372036854775808 ≤ a ∧ a ≤ 9223372036854775807))
def opV (op a b c : Int) : Option (Int × Int) := if In64 a ∧ In64 b ∧ In64 c then opQ op a b c else none
theorem in64_truth (b : Bool) : In64 (truthV b) := by cases b <;> exact ⟨by decide, by decide⟩
theorem sqrt_some (a : Int) (ha : In64 a) : fixq_Sqrt.f a = some (sqrtQ a) ∧ In64 (sqrtQ a).1 := by
 by_cases h : a < 0
 · unfold sqrtQ
   rw [sqrt_neg a h]
   exact ⟨rfl, by decide, by decide⟩
 · obtain ⟨R, hR, -, hl⟩ := sqrt_eq a (by omega) ha
   unfold sqrtQ
   rw [hR]
   exact ⟨rfl, by simp only [Option.getD_some]; omega, by simp only [Option.getD_some]; omega⟩
theorem div_some (a b : Int) (ha : In64 a) (hb : In64 b) : Ev (fun k => fixq_Div.f k a b) (divQ a b) := by
 by_cases h : b = 0
 · subst h
   unfold divQ
   rw [if_pos rfl]
   by_cases h2 : a = 0
   · subst h2
     exact Ev.congr (fun k => rfl) (Ev.now _)
   · rw [if_neg h2]
     refine Ev.congr (f := fun _ => some (if a < 0 then -9223372036854775808 else 9223372036854775807, 2)) (fun k => ?_) (Ev.now _)
     unfold fixq_Div.f
     rw [if_pos rfl, if_neg h2, edge_eq]
     by_cases h3 : a < 0 <;> simp [h3]
 · unfold divQ
   rw [if_neg h]
   exact div_ev a b ha hb h
theorem div_in (a b : Int) : In64 (divQ a b).1 := by
 unfold divQ
 split
 · split
   · exact ⟨by decide, by decide⟩
   · split <;> exact ⟨by decide, by decide⟩
 · exact sat_bd _
/-- An operator stays in the range; all from Neg to Pick are there. -/
theorem opV_ok {op a b c : Int} (h6 : 6 ≤ op) (h18 : op ≤ 18) (ha : In64 a) (hb : In64 b) (hc : In64 c) : ∃ q, opV op a b c = some q ∧ In64 q.1 := by
 unfold opV
 rw [if_pos ⟨ha, hb, hc⟩]
 obtain rfl | rfl | rfl | rfl | rfl | rfl | rfl | rfl | rfl | rfl | rfl | rfl | rfl : op = 6 ∨ op = 7 ∨ op = 8 ∨ op = 9 ∨ op = 10 ∨ op = 11 ∨ op = 12 ∨ op = 13 ∨ op = 14 ∨ op = 15 ∨ op = 16 ∨ op = 17 ∨ op = 18 := by omega
 · exact ⟨_, rfl, sat_bd _⟩
 · exact ⟨_, rfl, in64_truth _⟩
 · exact ⟨_, rfl, (sqrt_some a ha).2⟩
 · exact ⟨_, rfl, sat_bd _⟩
 · exact ⟨_, rfl, sat_bd _⟩
 · exact ⟨_, rfl, sat_bd _⟩
 · exact ⟨_, rfl, div_in _ _⟩
 · exact ⟨_, rfl, in64_truth _⟩
 · exact ⟨_, rfl, in64_truth _⟩
 · exact ⟨_, rfl, in64_truth _⟩
 · exact ⟨_, rfl, in64_truth _⟩
 · exact ⟨_, rfl, in64_truth _⟩
 · refine ⟨_, rfl, ?_⟩
   show In64 (if a = 1 then b else c)
   split <;> assumption
theorem drawn_b {w w' : World} (h : Drawn0 w w') : Below w.heap.size w w' := h.below
theorem not_any (a b : Int) (w : World) : Calls Tryz.prog 121 #[.int .i64 a, .int .i64 b] w fun e w' => e = .returned (.bool (decide (a ≠ 1))) ∧ Below w.heap.size w w' := by
 by_cases h : a = 1
 · have E := Aside0.mk h
   go_enter Tryz.func121, Tryz.ntmps121
   go_wp2
   go_ret
   exact ⟨by simp [E.out], by repeat (first | exact Below.refl _ _ | apply pw_below_drewN | apply below_drew1)⟩
 · have E := Aside0.mk h
   go_enter Tryz.func121, Tryz.ntmps121
   go_wp2
   go_ret
   exact ⟨by simp [E.out], by repeat (first | exact Below.refl _ _ | apply pw_below_drewN | apply below_drew1)⟩
theorem less_any (a b : Int) (w : World) : Calls Tryz.prog 122 #[.int .i64 a, .int .i64 b] w fun e w' => e = .returned (.bool (decide (a < b))) ∧ Below w.heap.size w w' := by
 by_cases h : a < b
 · have E := Aside0.mk h
   go_enter Tryz.func122, Tryz.ntmps122
   go_wp2
   go_ret
   exact ⟨by simp [E.out], by repeat (first | exact Below.refl _ _ | apply pw_below_drewN | apply below_drew1)⟩
 · have E := Aside0.mk h
   go_enter Tryz.func122, Tryz.ntmps122
   go_wp2
   go_ret
   exact ⟨by simp [E.out], by repeat (first | exact Below.refl _ _ | apply pw_below_drewN | apply below_drew1)⟩
theorem most_any (a b : Int) (w : World) : Calls Tryz.prog 123 #[.int .i64 a, .int .i64 b] w fun e w' => e = .returned (.bool (decide (a ≤ b))) ∧ Below w.heap.size w w' := by
 by_cases h : a ≤ b
 · have E := Aside0.mk h
   go_enter Tryz.func123, Tryz.ntmps123
   go_wp2
   go_ret
   exact ⟨by simp [E.out], by repeat (first | exact Below.refl _ _ | apply pw_below_drewN | apply below_drew1)⟩
 · have E := Aside0.mk h
   go_enter Tryz.func123, Tryz.ntmps123
   go_wp2
   go_ret
   exact ⟨by simp [E.out], by repeat (first | exact Below.refl _ _ | apply pw_below_drewN | apply below_drew1)⟩
theorem same_any (a b : Int) (w : World) : Calls Tryz.prog 124 #[.int .i64 a, .int .i64 b] w fun e w' => e = .returned (.bool (decide (a = b))) ∧ Below w.heap.size w w' := by
 by_cases h : a = b
 · have E := Aside0.mk h
   go_enter Tryz.func124, Tryz.ntmps124
   go_wp2
   go_ret
   exact ⟨by simp [E.out], by repeat (first | exact Below.refl _ _ | apply pw_below_drewN | apply below_drew1)⟩
 · have E := Aside0.mk h
   go_enter Tryz.func124, Tryz.ntmps124
   go_wp2
   go_ret
   exact ⟨by simp [E.out], by repeat (first | exact Below.refl _ _ | apply pw_below_drewN | apply below_drew1)⟩
theorem and_any (a b : Int) (w : World) : Calls Tryz.prog 125 #[.int .i64 a, .int .i64 b] w fun e w' => e = .returned (.bool (decide (a = 1) && decide (b = 1))) ∧ Below w.heap.size w w' := by
 go_enter Tryz.func125, Tryz.ntmps125
 go_wp2_with fail
 all_goals
  go_ret
  refine ⟨?_, by repeat (first | exact Below.refl _ _ | apply pw_below_drewN | apply below_drew1)⟩
  congr 2 <;>
  by_cases h1 : a = 1 <;> by_cases h2 : b = 1 <;> simp_all
theorem or_any (a b : Int) (w : World) : Calls Tryz.prog 126 #[.int .i64 a, .int .i64 b] w fun e w' => e = .returned (.bool (decide (a = 1) || decide (b = 1))) ∧ Below w.heap.size w w' := by
 go_enter Tryz.func126, Tryz.ntmps126
 go_wp2_with fail
 all_goals
  go_ret
  refine ⟨?_, by repeat (first | exact Below.refl _ _ | apply pw_below_drewN | apply below_drew1)⟩
  congr 2 <;>
  by_cases h1 : a = 1 <;> by_cases h2 : b = 1 <;> simp_all
theorem pick_any (a b c : Int) (w : World) : Calls Tryz.prog 127 #[.int .i64 a, .int .i64 b, .int .i64 c] w fun e w' => e = .returned (.tuple #[.int .i64 (if a = 1 then b else c), .int .i64 0]) ∧ Below w.heap.size w w' := by
 by_cases h : a = 1
 · rw [if_pos h]
   subst h
   go_enter Tryz.func127, Tryz.ntmps127
   go_wp2
   go_ret2
   exact ⟨rfl, by repeat (first | exact Below.refl _ _ | apply pw_below_drewN | apply below_drew1)⟩
 · rw [if_neg h]
   have hb : (a == 1) = false := beq_eq_false_iff_ne.mpr h
   have hd : decide (a = 1) = false := decide_eq_false h
   go_enter Tryz.func127, Tryz.ntmps127
   go_wp2
   go_ret2
   exact ⟨rfl, by repeat (first | exact Below.refl _ _ | apply pw_below_drewN | apply below_drew1)⟩
theorem w_neg (g : Nat) (a b c : Int) (q1 q2 : Int) (w : World) (hb : w.heap[g]? = some (.cells #[.func (.func 116) #[] #[]] 197 (0, 0))) (h : Calls Tryz.prog 116 #[.int .i64 a] w fun e w' => e = .returned (.tuple #[.int .i64 q1, .int .i64 q2]) ∧ Below w.heap.size w w') :
 Calls Tryz.prog 110 #[.int .i64 a, .int .i64 b, .int .i64 c, .pointer (some ⟨g, 0, none⟩)] w fun e w' => e = .returned (.tuple #[.int .i64 q1, .int .i64 q2]) ∧ Below w.heap.size w w' := by
 have hc := blk_cell hb 0
 have hl : (#[Value.func (.func 116) #[] #[]] : Array Value)[0]? = some (Value.func (.func 116) #[] #[]) := rfl
 rw [hl] at hc
 have H := Aside0.mk h
 go_enter Tryz.func110, Tryz.ntmps110
 go_wp2_with fail
 refine H.out.mono ?_
 rintro e w' ⟨rfl, hB⟩
 have HB := Aside0.mk hB
 go_wp2_with fail
 go_ret2
 exact ⟨rfl, by repeat (first | exact HB.out | apply pw_below_drewN | apply below_drew1)⟩
theorem w_sqrt (g : Nat) (a b c : Int) (q1 q2 : Int) (w : World) (hb : w.heap[g]? = some (.cells #[.func (.func 117) #[] #[]] 197 (0, 0))) (h : Calls Tryz.prog 117 #[.int .i64 a] w fun e w' => e = .returned (.tuple #[.int .i64 q1, .int .i64 q2]) ∧ Below w.heap.size w w') :
 Calls Tryz.prog 110 #[.int .i64 a, .int .i64 b, .int .i64 c, .pointer (some ⟨g, 0, none⟩)] w fun e w' => e = .returned (.tuple #[.int .i64 q1, .int .i64 q2]) ∧ Below w.heap.size w w' := by
 have hc := blk_cell hb 0
 have hl : (#[Value.func (.func 117) #[] #[]] : Array Value)[0]? = some (Value.func (.func 117) #[] #[]) := rfl
 rw [hl] at hc
 have H := Aside0.mk h
 go_enter Tryz.func110, Tryz.ntmps110
 go_wp2_with fail
 refine H.out.mono ?_
 rintro e w' ⟨rfl, hB⟩
 have HB := Aside0.mk hB
 go_wp2_with fail
 go_ret2
 exact ⟨rfl, by repeat (first | exact HB.out | apply pw_below_drewN | apply below_drew1)⟩
theorem w_add (g : Nat) (a b c : Int) (q1 q2 : Int) (w : World) (hb : w.heap[g]? = some (.cells #[.func (.func 78) #[] #[]] 130 (0, 0))) (h : Calls Tryz.prog 78 #[.int .i64 a, .int .i64 b] w fun e w' => e = .returned (.tuple #[.int .i64 q1, .int .i64 q2]) ∧ Below w.heap.size w w') :
 Calls Tryz.prog 112 #[.int .i64 a, .int .i64 b, .int .i64 c, .pointer (some ⟨g, 0, none⟩)] w fun e w' => e = .returned (.tuple #[.int .i64 q1, .int .i64 q2]) ∧ Below w.heap.size w w' := by
 have hc := blk_cell hb 0
 have hl : (#[Value.func (.func 78) #[] #[]] : Array Value)[0]? = some (Value.func (.func 78) #[] #[]) := rfl
 rw [hl] at hc
 have H := Aside0.mk h
 go_enter Tryz.func112, Tryz.ntmps112
 go_wp2_with fail
 refine H.out.mono ?_
 rintro e w' ⟨rfl, hB⟩
 have HB := Aside0.mk hB
 go_wp2_with fail
 go_ret2
 exact ⟨rfl, by repeat (first | exact HB.out | apply pw_below_drewN | apply below_drew1)⟩
theorem w_sub (g : Nat) (a b c : Int) (q1 q2 : Int) (w : World) (hb : w.heap[g]? = some (.cells #[.func (.func 118) #[] #[]] 130 (0, 0))) (h : Calls Tryz.prog 118 #[.int .i64 a, .int .i64 b] w fun e w' => e = .returned (.tuple #[.int .i64 q1, .int .i64 q2]) ∧ Below w.heap.size w w') :
 Calls Tryz.prog 112 #[.int .i64 a, .int .i64 b, .int .i64 c, .pointer (some ⟨g, 0, none⟩)] w fun e w' => e = .returned (.tuple #[.int .i64 q1, .int .i64 q2]) ∧ Below w.heap.size w w' := by
 have hc := blk_cell hb 0
 have hl : (#[Value.func (.func 118) #[] #[]] : Array Value)[0]? = some (Value.func (.func 118) #[] #[]) := rfl
 rw [hl] at hc
 have H := Aside0.mk h
 go_enter Tryz.func112, Tryz.ntmps112
 go_wp2_with fail
 refine H.out.mono ?_
 rintro e w' ⟨rfl, hB⟩
 have HB := Aside0.mk hB
 go_wp2_with fail
 go_ret2
 exact ⟨rfl, by repeat (first | exact HB.out | apply pw_below_drewN | apply below_drew1)⟩
theorem w_mul (g : Nat) (a b c : Int) (q1 q2 : Int) (w : World) (hb : w.heap[g]? = some (.cells #[.func (.func 119) #[] #[]] 130 (0, 0))) (h : Calls Tryz.prog 119 #[.int .i64 a, .int .i64 b] w fun e w' => e = .returned (.tuple #[.int .i64 q1, .int .i64 q2]) ∧ Below w.heap.size w w') :
 Calls Tryz.prog 112 #[.int .i64 a, .int .i64 b, .int .i64 c, .pointer (some ⟨g, 0, none⟩)] w fun e w' => e = .returned (.tuple #[.int .i64 q1, .int .i64 q2]) ∧ Below w.heap.size w w' := by
 have hc := blk_cell hb 0
 have hl : (#[Value.func (.func 119) #[] #[]] : Array Value)[0]? = some (Value.func (.func 119) #[] #[]) := rfl
 rw [hl] at hc
 have H := Aside0.mk h
 go_enter Tryz.func112, Tryz.ntmps112
 go_wp2_with fail
 refine H.out.mono ?_
 rintro e w' ⟨rfl, hB⟩
 have HB := Aside0.mk hB
 go_wp2_with fail
 go_ret2
 exact ⟨rfl, by repeat (first | exact HB.out | apply pw_below_drewN | apply below_drew1)⟩
theorem w_div (g : Nat) (a b c : Int) (q1 q2 : Int) (w : World) (hb : w.heap[g]? = some (.cells #[.func (.func 120) #[] #[]] 130 (0, 0))) (h : Calls Tryz.prog 120 #[.int .i64 a, .int .i64 b] w fun e w' => e = .returned (.tuple #[.int .i64 q1, .int .i64 q2]) ∧ Below w.heap.size w w') :
 Calls Tryz.prog 112 #[.int .i64 a, .int .i64 b, .int .i64 c, .pointer (some ⟨g, 0, none⟩)] w fun e w' => e = .returned (.tuple #[.int .i64 q1, .int .i64 q2]) ∧ Below w.heap.size w w' := by
 have hc := blk_cell hb 0
 have hl : (#[Value.func (.func 120) #[] #[]] : Array Value)[0]? = some (Value.func (.func 120) #[] #[]) := rfl
 rw [hl] at hc
 have H := Aside0.mk h
 go_enter Tryz.func112, Tryz.ntmps112
 go_wp2_with fail
 refine H.out.mono ?_
 rintro e w' ⟨rfl, hB⟩
 have HB := Aside0.mk hB
 go_wp2_with fail
 go_ret2
 exact ⟨rfl, by repeat (first | exact HB.out | apply pw_below_drewN | apply below_drew1)⟩
theorem w_not (g : Nat) (a b c : Int) (q : Bool) (w : World) (hb : w.heap[g]? = some (.cells #[.func (.func 121) #[] #[]] 200 (0, 0))) (h : Calls Tryz.prog 121 #[.int .i64 a, .int .i64 b] w fun e w' => e = .returned (.bool q) ∧ Below w.heap.size w w') :
 Calls Tryz.prog 114 #[.int .i64 a, .int .i64 b, .int .i64 c, .pointer (some ⟨g, 0, none⟩)] w fun e w' => e = .returned (.tuple #[.int .i64 (truthV q), .int .i64 0]) ∧ Below w.heap.size w w' := by
 have hc := blk_cell hb 0
 have hl : (#[Value.func (.func 121) #[] #[]] : Array Value)[0]? = some (Value.func (.func 121) #[] #[]) := rfl
 rw [hl] at hc
 have H := Aside0.mk h
 go_enter Tryz.func114, Tryz.ntmps114
 go_wp2_with fail
 refine H.out.mono ?_
 rintro e w' ⟨rfl, hB⟩
 have HB := Aside0.mk hB
 go_wp2_with fail
 refine (truth_any q _).mono ?_
 rintro e w2 ⟨rfl, rfl⟩
 go_wp2
 go_ret2
 exact ⟨rfl, by repeat (first | exact HB.out | apply pw_below_drewN | apply below_drew1)⟩
theorem w_less (g : Nat) (a b c : Int) (q : Bool) (w : World) (hb : w.heap[g]? = some (.cells #[.func (.func 122) #[] #[]] 200 (0, 0))) (h : Calls Tryz.prog 122 #[.int .i64 a, .int .i64 b] w fun e w' => e = .returned (.bool q) ∧ Below w.heap.size w w') :
 Calls Tryz.prog 114 #[.int .i64 a, .int .i64 b, .int .i64 c, .pointer (some ⟨g, 0, none⟩)] w fun e w' => e = .returned (.tuple #[.int .i64 (truthV q), .int .i64 0]) ∧ Below w.heap.size w w' := by
 have hc := blk_cell hb 0
 have hl : (#[Value.func (.func 122) #[] #[]] : Array Value)[0]? = some (Value.func (.func 122) #[] #[]) := rfl
 rw [hl] at hc
 have H := Aside0.mk h
 go_enter Tryz.func114, Tryz.ntmps114
 go_wp2_with fail
 refine H.out.mono ?_
 rintro e w' ⟨rfl, hB⟩
 have HB := Aside0.mk hB
 go_wp2_with fail
 refine (truth_any q _).mono ?_
 rintro e w2 ⟨rfl, rfl⟩
 go_wp2
 go_ret2
 exact ⟨rfl, by repeat (first | exact HB.out | apply pw_below_drewN | apply below_drew1)⟩
theorem w_most (g : Nat) (a b c : Int) (q : Bool) (w : World) (hb : w.heap[g]? = some (.cells #[.func (.func 123) #[] #[]] 200 (0, 0))) (h : Calls Tryz.prog 123 #[.int .i64 a, .int .i64 b] w fun e w' => e = .returned (.bool q) ∧ Below w.heap.size w w') :
 Calls Tryz.prog 114 #[.int .i64 a, .int .i64 b, .int .i64 c, .pointer (some ⟨g, 0, none⟩)] w fun e w' => e = .returned (.tuple #[.int .i64 (truthV q), .int .i64 0]) ∧ Below w.heap.size w w' := by
 have hc := blk_cell hb 0
 have hl : (#[Value.func (.func 123) #[] #[]] : Array Value)[0]? = some (Value.func (.func 123) #[] #[]) := rfl
 rw [hl] at hc
 have H := Aside0.mk h
 go_enter Tryz.func114, Tryz.ntmps114
 go_wp2_with fail
 refine H.out.mono ?_
 rintro e w' ⟨rfl, hB⟩
 have HB := Aside0.mk hB
 go_wp2_with fail
 refine (truth_any q _).mono ?_
 rintro e w2 ⟨rfl, rfl⟩
 go_wp2
 go_ret2
 exact ⟨rfl, by repeat (first | exact HB.out | apply pw_below_drewN | apply below_drew1)⟩
theorem w_same (g : Nat) (a b c : Int) (q : Bool) (w : World) (hb : w.heap[g]? = some (.cells #[.func (.func 124) #[] #[]] 200 (0, 0))) (h : Calls Tryz.prog 124 #[.int .i64 a, .int .i64 b] w fun e w' => e = .returned (.bool q) ∧ Below w.heap.size w w') :
 Calls Tryz.prog 114 #[.int .i64 a, .int .i64 b, .int .i64 c, .pointer (some ⟨g, 0, none⟩)] w fun e w' => e = .returned (.tuple #[.int .i64 (truthV q), .int .i64 0]) ∧ Below w.heap.size w w' := by
 have hc := blk_cell hb 0
 have hl : (#[Value.func (.func 124) #[] #[]] : Array Value)[0]? = some (Value.func (.func 124) #[] #[]) := rfl
 rw [hl] at hc
 have H := Aside0.mk h
 go_enter Tryz.func114, Tryz.ntmps114
 go_wp2_with fail
 refine H.out.mono ?_
 rintro e w' ⟨rfl, hB⟩
 have HB := Aside0.mk hB
 go_wp2_with fail
 refine (truth_any q _).mono ?_
 rintro e w2 ⟨rfl, rfl⟩
 go_wp2
 go_ret2
 exact ⟨rfl, by repeat (first | exact HB.out | apply pw_below_drewN | apply below_drew1)⟩
theorem w_and (g : Nat) (a b c : Int) (q : Bool) (w : World) (hb : w.heap[g]? = some (.cells #[.func (.func 125) #[] #[]] 200 (0, 0))) (h : Calls Tryz.prog 125 #[.int .i64 a, .int .i64 b] w fun e w' => e = .returned (.bool q) ∧ Below w.heap.size w w') :
 Calls Tryz.prog 114 #[.int .i64 a, .int .i64 b, .int .i64 c, .pointer (some ⟨g, 0, none⟩)] w fun e w' => e = .returned (.tuple #[.int .i64 (truthV q), .int .i64 0]) ∧ Below w.heap.size w w' := by
 have hc := blk_cell hb 0
 have hl : (#[Value.func (.func 125) #[] #[]] : Array Value)[0]? = some (Value.func (.func 125) #[] #[]) := rfl
 rw [hl] at hc
 have H := Aside0.mk h
 go_enter Tryz.func114, Tryz.ntmps114
 go_wp2_with fail
 refine H.out.mono ?_
 rintro e w' ⟨rfl, hB⟩
 have HB := Aside0.mk hB
 go_wp2_with fail
 refine (truth_any q _).mono ?_
 rintro e w2 ⟨rfl, rfl⟩
 go_wp2
 go_ret2
 exact ⟨rfl, by repeat (first | exact HB.out | apply pw_below_drewN | apply below_drew1)⟩
theorem w_or (g : Nat) (a b c : Int) (q : Bool) (w : World) (hb : w.heap[g]? = some (.cells #[.func (.func 126) #[] #[]] 200 (0, 0))) (h : Calls Tryz.prog 126 #[.int .i64 a, .int .i64 b] w fun e w' => e = .returned (.bool q) ∧ Below w.heap.size w w') :
 Calls Tryz.prog 114 #[.int .i64 a, .int .i64 b, .int .i64 c, .pointer (some ⟨g, 0, none⟩)] w fun e w' => e = .returned (.tuple #[.int .i64 (truthV q), .int .i64 0]) ∧ Below w.heap.size w w' := by
 have hc := blk_cell hb 0
 have hl : (#[Value.func (.func 126) #[] #[]] : Array Value)[0]? = some (Value.func (.func 126) #[] #[]) := rfl
 rw [hl] at hc
 have H := Aside0.mk h
 go_enter Tryz.func114, Tryz.ntmps114
 go_wp2_with fail
 refine H.out.mono ?_
 rintro e w' ⟨rfl, hB⟩
 have HB := Aside0.mk hB
 go_wp2_with fail
 refine (truth_any q _).mono ?_
 rintro e w2 ⟨rfl, rfl⟩
 go_wp2
 go_ret2
 exact ⟨rfl, by repeat (first | exact HB.out | apply pw_below_drewN | apply below_drew1)⟩
set_option maxRecDepth 100000 in
theorem opsForV (cs : Array Value) : OpsFor cs opV := by
 intro w0 S hops hpick op a b c q1 q2 hop h
 unfold opV at h
 by_cases hin : In64 a ∧ In64 b ∧ In64 c
 · rw [if_pos hin] at h
   obtain ⟨ha, hb, hc⟩ := hin
   have far : ∀ {g : Nat} {o : Obj} {w' : World}, ¬ S g → w0.heap[g]? = some o → Chg S w0 w' → w'.heap[g]? = some o := fun hn hg hC => (hC.block _ (lt_of_block hg) hn).trans hg
   by_cases hr : 6 ≤ op ∧ op ≤ 18
   · obtain rfl | rfl | rfl | rfl | rfl | rfl | rfl | rfl | rfl | rfl | rfl | rfl | rfl : op = 6 ∨ op = 7 ∨ op = 8 ∨ op = 9 ∨ op = 10 ∨ op = 11 ∨ op = 12 ∨ op = 13 ∨ op = 14 ∨ op = 15 ∨ op = 16 ∨ op = 17 ∨ op = 18 := by omega
     · obtain ⟨g, hn, hf, hg⟩ := hops 6 (by decide)
       have hv : sat (-a) = (q1, q2) := Option.some.inj (show some (sat (-a)) = some (q1, q2) from h)
       exact ⟨110, _, #[.pointer (some ⟨g, 0, none⟩)], hf, rfl, rfl, rfl, fun w' hC => w_neg g a b c _ _ w' (far hn hg hC) (by rw [show q1 = (sat (-a)).1 by rw [hv], show q2 = (sat (-a)).2 by rw [hv]]; exact ((fixq_Neg.calls a _ _ w' (neg_eq a ha)).mono fun e w2 hh => ⟨hh.1, drawn_b hh.2⟩))⟩
     · obtain ⟨g, hn, hf, hg⟩ := hops 7 (by decide)
       obtain ⟨rfl, rfl⟩ := Prod.mk.inj (Option.some.inj (show some (truthV (decide (a ≠ 1)), (0 : Int)) = some (q1, q2) from h))
       exact ⟨114, _, #[.pointer (some ⟨g, 0, none⟩)], hf, rfl, rfl, rfl, fun w' hC => w_not g a b c _ w' (far hn hg hC) (not_any a b w')⟩
     · obtain ⟨g, hn, hf, hg⟩ := hops 8 (by decide)
       have hv : sqrtQ a = (q1, q2) := Option.some.inj (show some (sqrtQ a) = some (q1, q2) from h)
       exact ⟨110, _, #[.pointer (some ⟨g, 0, none⟩)], hf, rfl, rfl, rfl, fun w' hC => w_sqrt g a b c _ _ w' (far hn hg hC) (by rw [show q1 = (sqrtQ a).1 by rw [hv], show q2 = (sqrtQ a).2 by rw [hv]]; exact (fixq_Sqrt.calls a _ _ w' (sqrt_some a ha).1))⟩
     · obtain ⟨g, hn, hf, hg⟩ := hops 9 (by decide)
       have hv : sat (a + b) = (q1, q2) := Option.some.inj (show some (sat (a + b)) = some (q1, q2) from h)
       exact ⟨112, _, #[.pointer (some ⟨g, 0, none⟩)], hf, rfl, rfl, rfl, fun w' hC => w_add g a b c _ _ w' (far hn hg hC) (by rw [show q1 = (sat (a + b)).1 by rw [hv], show q2 = (sat (a + b)).2 by rw [hv]]; exact ((fixq_Add.calls a b _ _ w' (add_eq a b ha hb)).mono fun e w2 hh => ⟨hh.1, drawn_b hh.2⟩))⟩
     · obtain ⟨g, hn, hf, hg⟩ := hops 10 (by decide)
       have hv : sat (a - b) = (q1, q2) := Option.some.inj (show some (sat (a - b)) = some (q1, q2) from h)
       exact ⟨112, _, #[.pointer (some ⟨g, 0, none⟩)], hf, rfl, rfl, rfl, fun w' hC => w_sub g a b c _ _ w' (far hn hg hC) (by rw [show q1 = (sat (a - b)).1 by rw [hv], show q2 = (sat (a - b)).2 by rw [hv]]; exact ((fixq_Sub.calls a b _ _ w' (sub_eq a b ha hb)).mono fun e w2 hh => ⟨hh.1, drawn_b hh.2⟩))⟩
     · obtain ⟨g, hn, hf, hg⟩ := hops 11 (by decide)
       have hv : mulQ a b = (q1, q2) := Option.some.inj (show some (mulQ a b) = some (q1, q2) from h)
       have hE : Ev (fun k => fixq_Mul.f k a b) (mulQ a b) := mul_eq a b ha hb
       rw [hv] at hE
       obtain ⟨k, hk⟩ := hE.rounds
       exact ⟨112, _, #[.pointer (some ⟨g, 0, none⟩)], hf, rfl, rfl, rfl, fun w' hC => w_mul g a b c _ _ w' (far hn hg hC) ((fixq_Mul.calls k a b _ _ w' hk).mono fun e w2 hh => ⟨hh.1, drawn_b hh.2⟩)⟩
     · obtain ⟨g, hn, hf, hg⟩ := hops 12 (by decide)
       have hv : divQ a b = (q1, q2) := Option.some.inj (show some (divQ a b) = some (q1, q2) from h)
       have hE : Ev (fun k => fixq_Div.f k a b) (divQ a b) := div_some a b ha hb
       rw [hv] at hE
       obtain ⟨k, hk⟩ := hE.rounds
       exact ⟨112, _, #[.pointer (some ⟨g, 0, none⟩)], hf, rfl, rfl, rfl, fun w' hC => w_div g a b c _ _ w' (far hn hg hC) ((fixq_Div.calls k a b _ _ w' hk).mono fun e w2 hh => ⟨hh.1, drawn_b hh.2⟩)⟩
     · obtain ⟨g, hn, hf, hg⟩ := hops 13 (by decide)
       obtain ⟨rfl, rfl⟩ := Prod.mk.inj (Option.some.inj (show some (truthV (decide (a < b)), (0 : Int)) = some (q1, q2) from h))
       exact ⟨114, _, #[.pointer (some ⟨g, 0, none⟩)], hf, rfl, rfl, rfl, fun w' hC => w_less g a b c _ w' (far hn hg hC) (less_any a b w')⟩
     · obtain ⟨g, hn, hf, hg⟩ := hops 14 (by decide)
       obtain ⟨rfl, rfl⟩ := Prod.mk.inj (Option.some.inj (show some (truthV (decide (a ≤ b)), (0 : Int)) = some (q1, q2) from h))
       exact ⟨114, _, #[.pointer (some ⟨g, 0, none⟩)], hf, rfl, rfl, rfl, fun w' hC => w_most g a b c _ w' (far hn hg hC) (most_any a b w')⟩
     · obtain ⟨g, hn, hf, hg⟩ := hops 15 (by decide)
       obtain ⟨rfl, rfl⟩ := Prod.mk.inj (Option.some.inj (show some (truthV (decide (a = b)), (0 : Int)) = some (q1, q2) from h))
       exact ⟨114, _, #[.pointer (some ⟨g, 0, none⟩)], hf, rfl, rfl, rfl, fun w' hC => w_same g a b c _ w' (far hn hg hC) (same_any a b w')⟩
     · obtain ⟨g, hn, hf, hg⟩ := hops 16 (by decide)
       obtain ⟨rfl, rfl⟩ := Prod.mk.inj (Option.some.inj (show some (truthV (decide (a = 1) && decide (b = 1)), (0 : Int)) = some (q1, q2) from h))
       exact ⟨114, _, #[.pointer (some ⟨g, 0, none⟩)], hf, rfl, rfl, rfl, fun w' hC => w_and g a b c _ w' (far hn hg hC) (and_any a b w')⟩
     · obtain ⟨g, hn, hf, hg⟩ := hops 17 (by decide)
       obtain ⟨rfl, rfl⟩ := Prod.mk.inj (Option.some.inj (show some (truthV (decide (a = 1) || decide (b = 1)), (0 : Int)) = some (q1, q2) from h))
       exact ⟨114, _, #[.pointer (some ⟨g, 0, none⟩)], hf, rfl, rfl, rfl, fun w' hC => w_or g a b c _ w' (far hn hg hC) (or_any a b w')⟩
     · obtain ⟨rfl, rfl⟩ := Prod.mk.inj (Option.some.inj (show some ((if a = 1 then b else c), (0 : Int)) = some (q1, q2) from h))
       exact ⟨127, _, #[], hpick, rfl, rfl, rfl, fun w' hC => pick_any a b c w'⟩
   · exfalso
     unfold opQ at h
     repeat (rw [if_neg (by omega)] at h)
     cases h
 · rw [if_neg hin] at h
   cases h
end Go.Proofs.YtgalkkolbobmbaaGreat.V
