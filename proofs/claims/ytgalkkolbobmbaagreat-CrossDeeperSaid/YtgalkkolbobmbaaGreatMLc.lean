/- Plain arithmetic: heun.Between over lists. -/
import Derived.Test.YtgalkkolbobmbaaGreatMLa
import Derived.Test.YtgalkkolbobmbaaGreatHBet0
import Derived.Test.YtgalkkolbobmbaaGreatQ0

namespace Go.Proofs.YtgalkkolbobmbaaGreat.Q
open Go.RowKit Go.Proofs.YtgalkkolbobmbaaGreatW.PrintWords Go.Proofs.YtgalkkolbobmbaaGreatW.PrintLast Go.Proofs.YtgalkkolbobmbaaGreatW.PrintMore
set_option linter.unusedVariables false

def betV (l0 l1 : List Int) (m k : Int) : Nat → List Int
 | 0 => []
 | n + 1 => betV l0 l1 m k n ++ [(lerpV (rd l0 (n : Int)) (rd l1 (n : Int)) m k).1]
def betF (l0 l1 : List Int) (m k : Int) : Nat → Int
 | 0 => 0
 | n + 1 => if betF l0 l1 m k n = 0 ∧ lerpF (rd l0 (n : Int)) (rd l1 (n : Int)) m k = 0 then 0 else 1
theorem betV_length (l0 l1 : List Int) (m k : Int) : ∀ n, (betV l0 l1 m k n).length = n
 | 0 => rfl
 | n + 1 => by simp [betV, betV_length l0 l1 m k n]
theorem lerpF01 (a b m k : Int) : lerpF a b m k = 0 ∨ lerpF a b m k = 1 := by unfold lerpF; split; exact .inl rfl; exact .inr rfl
theorem betF01 (l0 l1 : List Int) (m k : Int) : ∀ n, betF l0 l1 m k n = 0 ∨ betF l0 l1 m k n = 1
 | 0 => .inl rfl
 | n + 1 => by unfold betF; split; exact .inl rfl; exact .inr rfl
theorem or01 {p q : Int} (hp : p = 0 ∨ p = 1) (hq : q = 0 ∨ q = 1) : Go.bits .or .i64 p q = if p = 0 ∧ q = 0 then 0 else 1 := by
 rcases hp with rfl | rfl <;> rcases hq with rfl | rfl <;> decide +kernel
theorem in64_rd {l : List Int} (h : ∀ x ∈ l, In64 x) (n : Nat) (hn : n < l.length) : In64 (rd l (n : Int)) := by
 unfold rd
 have e : l.getD (n : Int).toNat 0 = l[n] := by simp [List.getD, hn]
 rw [e]
 exact h _ (List.getElem_mem hn)
theorem betw_ev (l0 l1 : List Int) (m k : Int) (h0 : ∀ x ∈ l0, In64 x) (h1 : ∀ x ∈ l1, In64 x) : ∀ n, n ≤ l0.length → n ≤ l1.length → Ev (fun K => heun_betw K l0 l1 m k n) (betV l0 l1 m k n, betF l0 l1 m k n)
 | 0, _, _ => Ev.now _
 | n + 1, a, b => by
  refine Ev.congr (f := fun K => (heun_betw K l0 l1 m k n).bind fun p => (fixq_Lerp.f K (rd l0 (n : Int)) (rd l1 (n : Int)) m k).bind fun q => some (p.1 ++ [q.1], Go.bits .or .i64 p.2 q.2)) (fun K => rfl) (Ev.bind (betw_ev l0 l1 m k h0 h1 n (by omega) (by omega)) (Ev.bind (lerp_ev _ _ m k (in64_rd h0 n (by omega)) (in64_rd h1 n (by omega))) ?_))
  exact Ev.congr (fun K => by dsimp only; rw [or01 (betF01 _ _ _ _ _) (lerpF01 _ _ _ _)]; rfl) (Ev.now _)
theorem between_ev (l0 l1 : List Int) (m k : Int) (h0 : ∀ x ∈ l0, In64 x) (h1 : ∀ x ∈ l1, In64 x) (hl : l0.length = l1.length) (hs : l0.length ≤ 35184372088832) : Ev (fun K => heun_Between.f K l0 l1 m k) (betV l0 l1 m k l0.length, betF l0 l1 m k l0.length) := by
 refine Ev.congr (fun K => ?_) (betw_ev l0 l1 m k h0 h1 l0.length (Nat.le_refl _) (by omega))
 unfold heun_Between.f
 rw [if_pos hl, if_pos hs]
end Go.Proofs.YtgalkkolbobmbaaGreat.Q
