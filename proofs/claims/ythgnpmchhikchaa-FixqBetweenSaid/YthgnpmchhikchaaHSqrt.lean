/- The Go function fixq.Sqrt, whose test is a closure, is what its Lean function says: of a number below 0 it is (0, 2), else the bits from 47 down are tried one by one. -/
import Derived.Test.YthgnpmchhikchaaQbfixqSqrt
namespace Go.Proofs.Ythgnpmchhikchaa.Q
open Go.RowKit Go.Proofs.YthgnpmchhikchaaW.PrintWords Go.Proofs.YthgnpmchhikchaaW.PrintLast Go.Proofs.YthgnpmchhikchaaW.PrintMore

/-- The closure: is the square of r at most hi, lo? -/
def sqFits (hi lo r : Int) : Bool := match bits_Mul64.f r r with
  | some (h, l) => decide (h < hi) || (h == hi && decide (l ≤ lo))
  | none => false
/-- The bits below n, tried from the greatest on. -/
def sqLoop (hi lo : Int) : Nat → Int → Int
  | 0, r => r
  | n + 1, r => if sqFits hi lo (Go.bits .or .u64 r (IntKind.u64.wrap (2 ^ n))) = true then sqLoop hi lo n (Go.bits .or .u64 r (IntKind.u64.wrap (2 ^ n))) else sqLoop hi lo n r
def fixq_Sqrt.f (a0 : Int) : Option (Int × Int) :=
  if a0 < 0 then some (0, 2) else some (wrap64 (sqLoop (IntKind.u64.wrap a0 / 4294967296) (IntKind.u64.wrap (IntKind.u64.wrap a0 * 4294967296)) 48 0), 0)

theorem sqFits_eq {hi lo r p q : Int} (e : bits_Mul64.f r r = some (p, q)) : sqFits hi lo r = (decide (p < hi) || (p == hi && decide (q ≤ lo))) := by
  unfold sqFits
  rw [e]

set_option maxHeartbeats 1000000 in
theorem sqFits_any (hi lo r : Int) (g1 g2 : Nat) (w : World) (h1 : w.cell? ⟨g1, 0, none⟩ = some (.int .u64 hi)) (h2 : w.cell? ⟨g2, 0, none⟩ = some (.int .u64 lo)) :
    Calls Try.prog 30 #[.int .u64 r, .pointer (some ⟨g1, 0, none⟩), .pointer (some ⟨g2, 0, none⟩)] w fun e w' => e = .returned (.bool (sqFits hi lo r)) ∧ Drawn0 w w' := by
  obtain ⟨⟨p, q⟩, e⟩ : ∃ x, bits_Mul64.f r r = some x := ⟨_, rfl⟩
  have E := Aside0.mk e
  have E2 := Aside0.mk (sqFits_eq (hi := hi) (lo := lo) e)
  clear e
  by_cases c1 : p < hi
  · have c1b : decide (p < hi) = true := decide_eq_true c1
    have E3 := Aside0.mk (show sqFits hi lo r = true by rw [E2.out, c1b]; rfl)
    clear c1
    go_enter Try.func30, Try.ntmps30
    go_wp2_with fail
    refine (bits_Mul64.calls r r p q _ E.out).mono ?_
    rintro e w' ⟨rfl, ⟨nd, rfl⟩⟩
    go_wp2
    go_ret
    exact ⟨by rw [E3.out]; rfl, by repeat (first | exact Drawn0.refl _ | apply Drawn0.step)⟩
  · have c1b : decide (p < hi) = false := decide_eq_false c1
    by_cases c2 : p = hi
    · subst c2
      by_cases c3 : q ≤ lo
      · have c3b : decide (q ≤ lo) = true := decide_eq_true c3
        have E3 := Aside0.mk (show sqFits p lo r = true by rw [E2.out, c3b]; simp)
        go_enter Try.func30, Try.ntmps30
        go_wp2_with fail
        refine (bits_Mul64.calls r r p q _ E.out).mono ?_
        rintro e w' ⟨rfl, ⟨nd, rfl⟩⟩
        go_wp2
        go_ret
        exact ⟨by rw [E3.out]; rfl, by repeat (first | exact Drawn0.refl _ | apply Drawn0.step)⟩
      · have c3b : decide (q ≤ lo) = false := decide_eq_false c3
        have E3 := Aside0.mk (show sqFits p lo r = false by rw [E2.out, c3b, c1b]; simp)
        go_enter Try.func30, Try.ntmps30
        go_wp2_with fail
        refine (bits_Mul64.calls r r p q _ E.out).mono ?_
        rintro e w' ⟨rfl, ⟨nd, rfl⟩⟩
        go_wp2
        go_ret
        exact ⟨by rw [E3.out]; rfl, by repeat (first | exact Drawn0.refl _ | apply Drawn0.step)⟩
    · have c2b : (p == hi) = false := beq_eq_false_iff_ne.mpr c2
      have E3 := Aside0.mk (show sqFits hi lo r = false by rw [E2.out, c2b, c1b]; simp)
      go_enter Try.func30, Try.ntmps30
      go_wp2_with fail
      refine (bits_Mul64.calls r r p q _ E.out).mono ?_
      rintro e w' ⟨rfl, ⟨nd, rfl⟩⟩
      go_wp2
      go_ret
      exact ⟨by rw [E3.out]; rfl, by repeat (first | exact Drawn0.refl _ | apply Drawn0.step)⟩

set_option maxHeartbeats 1000000 in
theorem fixq_Sqrt.calls (a0 : Int) (r1 : Int) (r2 : Int) (w : World) (h : fixq_Sqrt.f a0 = some (r1, r2)) :
    Calls Try.prog 11 #[.int .i64 a0] w fun e w' => e = .returned (.tuple #[.int .i64 r1, .int .i64 r2]) ∧ Below w.heap.size w w' := by
  unfold fixq_Sqrt.f at h
  by_cases c1 : a0 < 0
  · rw [if_pos c1] at h
    have c1b : decide (a0 < 0) = true := decide_eq_true c1
    clear c1
    simp only [Option.some.injEq, Prod.mk.injEq] at h
    obtain ⟨rfl, rfl⟩ := h
    go_enter Try.func11, Try.ntmps11
    go_wp2
    go_ret2
    exact ⟨rfl, Below.refl _ _⟩
  · rw [if_neg c1] at h
    have c1b : decide (a0 < 0) = false := decide_eq_false c1
    clear c1
    simp only [Option.some.injEq, Prod.mk.injEq] at h
    obtain ⟨h1, rfl⟩ := h
    have hmf : ∀ (fn : Fn) (first cap : Array Value) (w : World), (Instr.makeFunc fn first cap).run Try.prog w = .ok (.func fn first cap) w := fun _ _ _ _ => rfl
    have H1 := Aside0.mk h1
    clear h1
    go_enter Try.func11, Try.ntmps11
    go_wp2
    have HR := H1.out
    clear H1
    obtain ⟨w2, hw2⟩ : ∃ w2, w2 = (w.alloc (Obj.cells #[Value.int IntKind.u64 (IntKind.u64.wrap a0 / 4294967296)] 42)).alloc (Obj.cells #[Value.int IntKind.u64 (IntKind.u64.wrap (IntKind.u64.wrap a0 * 4294967296))] 42) := ⟨_, rfl⟩
    obtain ⟨hi, hhi⟩ : ∃ x, x = IntKind.u64.wrap a0 / 4294967296 := ⟨_, rfl⟩
    obtain ⟨lo, hlo⟩ : ∃ x, x = IntKind.u64.wrap (IntKind.u64.wrap a0 * 4294967296) := ⟨_, rfl⟩
    rw [← hw2, ← hhi, ← hlo]
    rw [← hhi, ← hlo] at hw2 HR
    have HR := Aside0.mk HR
    have HB := Aside0.mk (show Below w.heap.size w w2 by rw [hw2]; exact ((Below.refl _ _).alloc (Nat.le_refl _) _).alloc (by simp) _)
    have C1 : w2.cell? ⟨w.heap.size, 0, none⟩ = some (.int .u64 hi) := by
      rw [hw2, World.cell?_alloc_past _ _ _ (by simp), World.cell?_alloc_at _ _ _ _ rfl]; rfl
    have C2 : w2.cell? ⟨w.heap.size + 1, 0, none⟩ = some (.int .u64 lo) := by
      rw [hw2, World.cell?_alloc_at _ _ _ _ (by simp)]; rfl
    have HC1 := Aside0.mk C1
    have HC2 := Aside0.mk C2
    clear hw2 hhi hlo C1 C2
    go_loopw [7, 8] (fun r i wr => ∃ (j x : Int), -1 ≤ j ∧ j ≤ 47 ∧ i = .int .i64 j ∧ r = .int .u64 x ∧ Aside0 (wrap64 (sqLoop hi lo (j + 1).toNat x) = r1) ∧ Aside0 (Drawn0 w2 wr)) (fun _ i _ => (intOf i + 1).toNat)
    case atStart => exact ⟨47, 0, by omega, by omega, rfl, rfl, HR, ⟨Drawn0.refl _⟩⟩
    case round =>
      obtain ⟨j, x, hj1, hj2, rfl, rfl, HS, HD⟩ := hrel
      by_cases c : 0 ≤ j
      · have hn : (j + 1).toNat = j.toNat + 1 := by omega
        have HS := HS.out
        rw [hn] at HS
        unfold sqLoop at HS
        clear hn
        obtain ⟨y, hy⟩ : ∃ y, y = bits BinOp.or IntKind.u64 x (IntKind.u64.wrap (2 ^ j.toNat)) := ⟨_, rfl⟩
        rw [← hy] at HS
        have HY := Aside0.mk hy
        clear hy
        cases hb : sqFits hi lo y with
        | true =>
          rw [if_pos hb] at HS
          have HS' := Aside0.mk HS
          have HB' := Aside0.mk hb
          clear HS hb
          obtain ⟨nd0, hnd⟩ := HD.out.out
          subst hnd
          go_wp2_with fail
          rw [← HY.out]
          refine (sqFits_any hi lo y _ _ (w2.drewN nd0) HC1.out HC2.out).mono ?_
          rw [HB'.out]
          rintro e w' ⟨rfl, ⟨nd, rfl⟩⟩
          go_wp2
          rw [← HY.out]
          go_roundw
          case rel => exact ⟨j - 1, y, by omega, by omega, by go_num, rfl, ⟨by rw [show j - 1 + 1 = j by omega]; exact HS'.out⟩, ⟨⟨nd0 + nd, rfl⟩⟩⟩
          case measure => simp [intOf]; omega
        | false =>
          rw [if_neg (by rw [hb]; decide)] at HS
          have HS' := Aside0.mk HS
          have HB' := Aside0.mk hb
          clear HS hb
          obtain ⟨nd0, hnd⟩ := HD.out.out
          subst hnd
          go_wp2_with fail
          rw [← HY.out]
          refine (sqFits_any hi lo y _ _ (w2.drewN nd0) HC1.out HC2.out).mono ?_
          rw [HB'.out]
          rintro e w' ⟨rfl, ⟨nd, rfl⟩⟩
          go_wp2
          go_roundw
          case rel => exact ⟨j - 1, x, by omega, by omega, by go_num, rfl, ⟨by rw [show j - 1 + 1 = j by omega]; exact HS'.out⟩, ⟨⟨nd0 + nd, rfl⟩⟩⟩
          case measure => simp [intOf]; omega
      · go_wp2
        go_ret2
        obtain ⟨nd0, hnd⟩ := HD.out.out
        subst hnd
        have HS := HS.out
        rw [show (j + 1).toNat = 0 by omega] at HS
        unfold sqLoop at HS
        exact ⟨by rw [← HS]; rfl, pw_below_drewN HB.out _⟩
end Go.Proofs.Ythgnpmchhikchaa.Q
