/- How long an object's bytes are at most. -/
import Derived.Test.YtccolpkjgjjipaaCReg9
namespace Go.Proofs.Ytccolpkjgjjipaa.K
set_option linter.unusedVariables false
set_option linter.unusedSimpArgs false
open Go.RowKit Go.Proofs.YtccolpkjgjjipaaW.PrintWords
theorem flat_le {α : Type} (f : α → List Int) (n : Nat) (hf : ∀ a, (f a).length ≤ n) : ∀ l : List α, (l.flatMap f).length ≤ n * l.length
  | [] => by simp
  | a :: l => by
    have h1 := flat_le f n hf l
    have h2 := hf a
    rw [List.flatMap_cons, List.length_append, List.length_cons, Nat.mul_succ]
    omega
theorem listB_le (l : List Int) : (listB l).length ≤ 10 + 10 * l.length := by
  have h1 := flat_le numB 10 numB_length l
  have h2 := numB_length l.length
  rw [listB, List.length_append]
  omega
theorem pieceB_le (l : List S47) : (pieceB l).length ≤ 10 + 60 * l.length := by
  have h1 := flat_le insB 60 (fun x => by
    have h0 := numB_length x.f0
    have h1 := numB_length x.f1
    have h2 := numB_length x.f2
    have h3 := numB_length x.f3
    have h4 := numB_length x.f4
    have h5 := numB_length x.f5
    simp only [insB, List.length_append]
    omega) l
  have h2 := numB_length l.length
  rw [pieceB, List.length_append]
  omega
theorem bytesB_le (l0 l1 l2 l3 : List Int) (a4 a5 : Int) (l6 l7 l8 l9 : List S47) :
    (bytesB l0 l1 l2 l3 a4 a5 l6 l7 l8 l9).length ≤ 200 + 10 * (l0.length + l1.length + l2.length + l3.length) + 60 * (l6.length + l7.length + l8.length + l9.length) := by
  have h0 := listB_le l0
  have h1 := listB_le l1
  have h2 := listB_le l2
  have h3 := listB_le l3
  have h4 := numB_length a4
  have h5 := numB_length a5
  have h6 := pieceB_le l6
  have h7 := pieceB_le l7
  have h8 := pieceB_le l8
  have h9 := pieceB_le l9
  simp only [bytesB, bodyB, headB, tailB, List.length_append, List.length_cons, List.length_nil]
  omega
theorem code_Bytes_f_some {l0 l1 l2 l3 : List Int} {a4 a5 : Int} {l6 l7 l8 l9 : List S47} (h0 : l0.length ≤ 1000000) (h1 : l1.length ≤ 1000000) (h2 : l2.length ≤ 1000000) (h3 : l3.length ≤ 1000000) (h6 : l6.length ≤ 1000000) (h7 : l7.length ≤ 1000000) (h8 : l8.length ≤ 1000000) (h9 : l9.length ≤ 1000000) :
    code_Bytes.f l0 l1 l2 l3 a4 a5 l6 l7 l8 l9 = some (bytesB l0 l1 l2 l3 a4 a5 l6 l7 l8 l9) := by
  have := bytesB_le l0 l1 l2 l3 a4 a5 l6 l7 l8 l9
  rw [code_Bytes.f, if_pos (by omega)]
theorem pX_le (b : List Int) (q : Bool) (k : Nat) : (pX b q k).length ≤ b.length :=
  Nat.le_trans (readF_le ins_le (rfl : readF insF (pS b q k).1 (pS b q k).2 = (_, _, _))).2 (pS_le b q k)
def eqI (x y : S47) : Bool := x.f0 == y.f0 && (x.f1 == y.f1 && (x.f2 == y.f2 && (x.f3 == y.f3 && (x.f4 == y.f4 && x.f5 == y.f5))))
theorem eqI_iff {x y : S47} : eqI x y = true ↔ x = y := by
  obtain ⟨x0, x1, x2, x3, x4, x5⟩ := x
  obtain ⟨y0, y1, y2, y3, y4, y5⟩ := y
  simp [eqI]
def eqS : List S47 → List S47 → Bool
  | [], [] => true
  | x :: xs, y :: ys => eqI x y && eqS xs ys
  | _, _ => false
theorem eqS_iff : ∀ {xs ys : List S47}, eqS xs ys = true ↔ xs = ys
  | [], [] => by simp [eqS]
  | [], _ :: _ => by simp [eqS]
  | _ :: _, [] => by simp [eqS]
  | x :: xs, y :: ys => by simp [eqS, eqI_iff, eqS_iff]
theorem rd47_nat {l : List S47} {i : Nat} (h : i < l.length) : rd_T47 l (i : Int) = l[i] := by
  unfold rd_T47
  simp [List.getD_eq_getElem?_getD, List.getElem?_eq_getElem h]
end Go.Proofs.Ytccolpkjgjjipaa.K
