/- heun.Between: what it computes, in plain Lean. -/
import Derived.Test.YtgalkkolbobmbaaGreatQ2
namespace Go.Proofs.YtgalkkolbobmbaaGreat.Q
open Go.RowKit Go.Proofs.YtgalkkolbobmbaaGreatW.PrintWords Go.Proofs.YtgalkkolbobmbaaGreatW.PrintLast Go.Proofs.YtgalkkolbobmbaaGreatW.PrintMore

/-- The first n numbers between two lists, and the flags gathered. -/
def heun_betw (k : Nat) (l0 l1 : List Int) (a2 a3 : Int) : Nat → Option (List Int × Int)
  | 0 => some ([], 0)
  | n + 1 => (heun_betw k l0 l1 a2 a3 n).bind fun p => (fixq_Lerp.f k (rd l0 (n : Int)) (rd l1 (n : Int)) a2 a3).bind fun q => some (p.1 ++ [q.1], Go.bits .or .i64 p.2 q.2)
def heun_Between.f (k : Nat) (l0 l1 : List Int) (a2 a3 : Int) : Option (List Int × Int) := if l0.length = l1.length then (if l0.length ≤ 35184372088832 then heun_betw k l0 l1 a2 a3 l0.length else none) else some ([], 0)
theorem heun_betw_mono (k : Nat) (l0 l1 : List Int) (a2 a3 : Int) : ∀ n, LeO (heun_betw k l0 l1 a2 a3 n) (heun_betw (k + 1) l0 l1 a2 a3 n)
  | 0 => LeO.refl _
  | n + 1 => LeO.bind (heun_betw_mono k l0 l1 a2 a3 n) (fun _ => LeO.bind (fixq_Lerp.mono _ _ _ _ _) (fun _ => LeO.refl _))
theorem heun_Between.mono : ∀ a0 a1 a2 a3 k, LeO (heun_Between.f k a0 a1 a2 a3) (heun_Between.f (k + 1) a0 a1 a2 a3) := by
  intro a0 a1 a2 a3 k
  unfold heun_Between.f
  exact LeO.ite (LeO.ite (heun_betw_mono _ _ _ _ _ _) (LeO.none _)) (LeO.refl _)
theorem heun_betw_step {k : Nat} {l0 l1 : List Int} {a2 a3 : Int} {n : Nat} {r : List Int × Int} (h : heun_betw k l0 l1 a2 a3 (n + 1) = some r) :
    ∃ p q, heun_betw k l0 l1 a2 a3 n = some p ∧ fixq_Lerp.f k (rd l0 (n : Int)) (rd l1 (n : Int)) a2 a3 = some q ∧ r = (p.1 ++ [q.1], Go.bits .or .i64 p.2 q.2) := by
  obtain ⟨p, hp, h⟩ := Option.bind_eq_some_iff.mp h
  obtain ⟨q, hq, h⟩ := Option.bind_eq_some_iff.mp h
  exact ⟨p, q, hp, hq, (Option.some.inj h).symm⟩
theorem heun_betw_early {k : Nat} {l0 l1 : List Int} {a2 a3 : Int} (m : Nat) : ∀ (d : Nat) {r : List Int × Int}, heun_betw k l0 l1 a2 a3 (m + d) = some r → ∃ p, heun_betw k l0 l1 a2 a3 m = some p
  | 0, r, h => ⟨r, h⟩
  | d + 1, r, h => by
    obtain ⟨p, q, hp, _⟩ := heun_betw_step (n := m + d) h
    exact heun_betw_early m d hp
theorem heun_betw_length {k : Nat} {l0 l1 : List Int} {a2 a3 : Int} : ∀ (n : Nat) {r : List Int × Int}, heun_betw k l0 l1 a2 a3 n = some r → r.1.length = n
  | 0, r, h => by
    obtain rfl := Option.some.inj h
    rfl
  | n + 1, r, h => by
    obtain ⟨p, q, hp, _, rfl⟩ := heun_betw_step h
    have := heun_betw_length n hp
    simp [this]
/-- What the array holds when n of its L numbers are written. -/
def betRow (p : List Int) (L : Nat) : List Int := p ++ List.replicate (L - p.length) 0
theorem betRow_length (p : List Int) (L : Nat) (h : p.length ≤ L) : (betRow p L).length = L := by simp [betRow]; omega
theorem betRow_full (p : List Int) : betRow p p.length = p := by simp [betRow]
theorem betRow_set (p : List Int) (L : Nat) (q : Int) (h : p.length < L) : (betRow p L).set p.length q = betRow (p ++ [q]) L := by
  unfold betRow
  rw [List.set_append_right _ _ (Nat.le_refl _), Nat.sub_self]
  obtain ⟨d, hd⟩ : ∃ d, L - p.length = d + 1 := ⟨L - p.length - 1, by omega⟩
  have hd' : L - (p ++ [q]).length = d := by simp; omega
  rw [hd, hd', List.replicate_succ, List.set_cons_zero, List.append_assoc]
  rfl
end Go.Proofs.YtgalkkolbobmbaaGreat.Q
