/- The document's Registers is the same fold; the plain law of VerifyRegisters. -/

import Derived.Test.YtccolpkjgjjipaaQ9
import Derived.Test.YtccolpkjgjjipaaQ8
import Derived.Test.YtccolpkjgjjipaaHRegs
namespace Go.Proofs.Ytccolpkjgjjipaa.Q
open Go.RowKit Go.Proofs.YtccolpkjgjjipaaW.PrintWords Go.Proofs.YtccolpkjgjjipaaW.PrintLast Go.Proofs.YtccolpkjgjjipaaW.PrintMore

theorem rIf_ite (n acc : Int) (t : Bool) (h : t = decide (n ≥ acc)) : rIf true n acc = (if t = true then wrap64 (n + 1) else acc) := by
  subst h
  unfold rIf
  by_cases hn : acc ≤ n
  · rw [if_pos ⟨rfl, hn⟩, if_pos (decide_eq_true hn)]
  · rw [if_neg (fun z => hn z.2), if_neg (by simp; omega)]

section
variable (l : List S47) (i op d a b c v : Int) (F : Int → Int) (hF : ∀ acc, Ev (fun k => astrolaberef17_Registers.l0 k l acc (wrap64 (i + 1))) (F acc))
include hF
theorem reg7 (acc : Int) : Ev (fun k => astrolaberef17_Registers.j7 k l acc i op d a b c v) (F (rIf (isC op) c acc)) := by
  by_cases h : op = 18
  · have hi : isC op = true := by simp [isC, h]
    by_cases h2 : c ≥ acc
    · rw [hi, rIf_true h2]
      exact Ev.step (f := fun k => astrolaberef17_Registers.l0 k l (wrap64 (c + 1)) (wrap64 (i + 1))) (fun k => by rw [astrolaberef17_Registers.j7, if_pos h, if_pos h2]) (hF _)
    · rw [hi, rIf_not h2]
      exact Ev.step (f := fun k => astrolaberef17_Registers.l0 k l acc (wrap64 (i + 1))) (fun k => by rw [astrolaberef17_Registers.j7, if_pos h, if_neg h2]) (hF _)
  · have hi : isC op = false := by simp [isC, h]
    rw [hi, rIf_false]
    exact Ev.step (f := fun k => astrolaberef17_Registers.l0 k l acc (wrap64 (i + 1))) (fun k => by rw [astrolaberef17_Registers.j7, if_neg h]) (hF _)
theorem reg6 (acc : Int) (t : Bool) : Ev (fun k => astrolaberef17_Registers.j6 k l acc i t op d a b c v) (F (rIf (isC op) c (if t = true then wrap64 (b + 1) else acc))) := by
  cases t with
  | true => exact Ev.step (f := fun k => astrolaberef17_Registers.j7 k l (wrap64 (b + 1)) i op d a b c v) (fun k => by rw [astrolaberef17_Registers.j6, if_pos rfl]) (by rw [if_pos rfl]; exact reg7 l i op d a b c v F hF _)
  | false => exact Ev.step (f := fun k => astrolaberef17_Registers.j7 k l acc i op d a b c v) (fun k => by rw [astrolaberef17_Registers.j6, if_neg Bool.false_ne_true]) (by rw [if_neg Bool.false_ne_true]; exact reg7 l i op d a b c v F hF _)
theorem reg5 (acc : Int) : Ev (fun k => astrolaberef17_Registers.j5 k l acc i op d a b c v) (F (rIf (isC op) c (rIf (isB op) b acc))) := by
  by_cases h : op ≥ 9
  · by_cases h2 : op ≤ 18
    · have hi : isB op = true := by simp [isB, h2]; omega
      rw [hi, rIf_ite b acc _ rfl]
      exact Ev.step (f := fun k => astrolaberef17_Registers.j6 k l acc i (decide (b ≥ acc)) op d a b c v) (fun k => by rw [astrolaberef17_Registers.j5, if_pos h, if_pos h2]) (reg6 l i op d a b c v F hF _ _)
    · have hi : isB op = false := by simp [isB]; omega
      rw [hi, rIf_false]
      exact Ev.step (f := fun k => astrolaberef17_Registers.j6 k l acc i false op d a b c v) (fun k => by rw [astrolaberef17_Registers.j5, if_pos h, if_neg h2]) (reg6 l i op d a b c v F hF acc false)
  · have hi : isB op = false := by simp [isB]; omega
    rw [hi, rIf_false]
    exact Ev.step (f := fun k => astrolaberef17_Registers.j6 k l acc i false op d a b c v) (fun k => by rw [astrolaberef17_Registers.j5, if_neg h]) (reg6 l i op d a b c v F hF acc false)
theorem reg4 (acc : Int) (t : Bool) : Ev (fun k => astrolaberef17_Registers.j4 k l acc i t op d a b c v) (F (rIf (isC op) c (rIf (isB op) b (if t = true then wrap64 (a + 1) else acc)))) := by
  cases t with
  | true => exact Ev.step (f := fun k => astrolaberef17_Registers.j5 k l (wrap64 (a + 1)) i op d a b c v) (fun k => by rw [astrolaberef17_Registers.j4, if_pos rfl]) (by rw [if_pos rfl]; exact reg5 l i op d a b c v F hF _)
  | false => exact Ev.step (f := fun k => astrolaberef17_Registers.j5 k l acc i op d a b c v) (fun k => by rw [astrolaberef17_Registers.j4, if_neg Bool.false_ne_true]) (by rw [if_neg Bool.false_ne_true]; exact reg5 l i op d a b c v F hF _)
theorem reg3 (acc : Int) : Ev (fun k => astrolaberef17_Registers.j3 k l acc i op d a b c v) (F (rIf (isC op) c (rIf (isB op) b (rIf (isA op) a acc)))) := by
  by_cases h : op ≥ 6
  · have hi : isA op = true := by simp [isA]; omega
    rw [hi, rIf_ite a acc _ rfl]
    exact Ev.step (f := fun k => astrolaberef17_Registers.j4 k l acc i (decide (a ≥ acc)) op d a b c v) (fun k => by rw [astrolaberef17_Registers.j3, if_pos h]) (reg4 l i op d a b c v F hF _ _)
  · have hi : isA op = false := by simp [isA]; omega
    rw [hi, rIf_false]
    exact Ev.step (f := fun k => astrolaberef17_Registers.j4 k l acc i false op d a b c v) (fun k => by rw [astrolaberef17_Registers.j3, if_neg h]) (reg4 l i op d a b c v F hF acc false)
theorem reg2 (acc : Int) (t : Bool) : Ev (fun k => astrolaberef17_Registers.j2 k l acc i t op d a b c v) (F (rIf (isC op) c (rIf (isB op) b (rIf (isA op) a (if t = true then wrap64 (d + 1) else acc))))) := by
  cases t with
  | true => exact Ev.step (f := fun k => astrolaberef17_Registers.j3 k l (wrap64 (d + 1)) i op d a b c v) (fun k => by rw [astrolaberef17_Registers.j2, if_pos rfl]) (by rw [if_pos rfl]; exact reg3 l i op d a b c v F hF _)
  | false => exact Ev.step (f := fun k => astrolaberef17_Registers.j3 k l acc i op d a b c v) (fun k => by rw [astrolaberef17_Registers.j2, if_neg Bool.false_ne_true]) (by rw [if_neg Bool.false_ne_true]; exact reg3 l i op d a b c v F hF _)
theorem reg1 (acc : Int) (t : Bool) (ht : t = decide (op < 1 ∨ op > 22)) : Ev (fun k => astrolaberef17_Registers.j1 k l acc i t op d a b c v) (F (regStep acc ⟨op, d, a, b, c, v⟩)) := by
  unfold regStep
  dsimp only
  by_cases h : op < 1 ∨ op > 22
  · rw [if_pos h]
    obtain rfl : t = true := by rw [ht]; exact decide_eq_true h
    exact Ev.step (f := fun k => astrolaberef17_Registers.l0 k l acc (wrap64 (i + 1))) (fun k => by rw [astrolaberef17_Registers.j1, if_pos rfl]) (hF _)
  · rw [if_neg h]
    obtain rfl : t = false := by rw [ht]; exact decide_eq_false h
    by_cases h2 : op ≤ 18
    · have hi : isD op = true := by simp [isD, h2]; omega
      rw [hi, rIf_ite d acc _ rfl]
      exact Ev.step (f := fun k => astrolaberef17_Registers.j2 k l acc i (decide (d ≥ acc)) op d a b c v) (fun k => by rw [astrolaberef17_Registers.j1, if_neg Bool.false_ne_true, if_pos h2]) (reg2 l i op d a b c v F hF _ _)
    · have hi : isD op = false := by simp [isD]; omega
      rw [hi, rIf_false]
      exact Ev.step (f := fun k => astrolaberef17_Registers.j2 k l acc i false op d a b c v) (fun k => by rw [astrolaberef17_Registers.j1, if_neg Bool.false_ne_true, if_neg h2]) (reg2 l i op d a b c v F hF acc false)
end
theorem rd_drop (l : List S47) (i : Nat) (h : i < l.length) : l.drop i = rd_T47 l (i : Int) :: l.drop (i + 1) := by
  rw [List.drop_eq_getElem_cons h]
  have : rd_T47 l (i : Int) = l[i] := by unfold rd_T47; simp [List.getD_eq_getElem?_getD, List.getElem?_eq_getElem h]
  rw [this]
theorem ref_regs_from (l : List S47) (hl : l.length ≤ 1000000) : ∀ (n i : Nat) (acc : Int), i + n = l.length → Ev (fun k => astrolaberef17_Registers.l0 k l acc (i : Int)) ((l.drop i).foldl regStep acc)
  | 0, i, acc, h => by
    rw [show l.drop i = [] from List.drop_eq_nil_of_le (by omega)]
    exact Ev.step (f := fun _ => some acc) (fun k => by rw [astrolaberef17_Registers.l0, if_neg (by omega)]) (Ev.now _)
  | n + 1, i, acc, h => by
    have hw : wrap64 ((i : Int) + 1) = ((i + 1 : Nat) : Int) := by
      unfold wrap64; omega
    have ih := fun acc => ref_regs_from l hl n (i + 1) acc (by omega)
    rw [rd_drop l i (by omega), List.foldl_cons]
    obtain ⟨x, hx⟩ : ∃ x, rd_T47 l (i : Int) = x := ⟨_, rfl⟩
    obtain ⟨op, d, a, b, c, v⟩ := x
    rw [hx]
    have hF : ∀ acc, Ev (fun k => astrolaberef17_Registers.l0 k l acc (wrap64 ((i : Int) + 1))) ((fun acc => (l.drop (i + 1)).foldl regStep acc) acc) := fun acc => by rw [hw]; exact ih acc
    by_cases h1 : op < 1
    · exact Ev.step (f := fun k => astrolaberef17_Registers.j1 k l acc (i : Int) true op d a b c v) (fun k => by rw [astrolaberef17_Registers.l0, if_pos (by omega), if_pos (by omega), hx, if_pos h1]) (reg1 l i op d a b c v _ hF acc true (by simp [h1]))
    · exact Ev.step (f := fun k => astrolaberef17_Registers.j1 k l acc (i : Int) (decide (op > 22)) op d a b c v) (fun k => by rw [astrolaberef17_Registers.l0, if_pos (by omega), if_pos (by omega), hx, if_neg h1]) (reg1 l i op d a b c v _ hF acc _ (by simp [h1]))
theorem ref_regs_ev (l : List S47) (hl : l.length ≤ 1000000) : Ev (fun k => astrolaberef17_Registers.f k l) (l.foldl regStep 0) := ref_regs_from l hl l.length 0 0 (by omega)
theorem top_from (l : List S47) (hl : l.length ≤ 1000000) : ∀ (n i : Nat), i + n = l.length → ∃ b, Ev (fun k => astrolabelaw17_top.l0 k l (i : Int)) b
  | 0, i, h => ⟨false, Ev.step (f := fun _ => some false) (fun k => by rw [astrolabelaw17_top.l0, if_neg (by omega)]) (Ev.now _)⟩
  | n + 1, i, h => by
    have hw : wrap64 ((i : Int) + 1) = ((i + 1 : Nat) : Int) := by
      unfold wrap64; omega
    obtain ⟨b0, hb0⟩ := top_from l hl n (i + 1) (by omega)
    have j : ∀ t : Bool, ∃ b, Ev (fun k => astrolabelaw17_top.j1 k l (i : Int) t) b := fun t => by
      cases t with
      | true => exact ⟨true, Ev.step (f := fun _ => some true) (fun k => by rw [astrolabelaw17_top.j1, if_pos rfl]) (Ev.now _)⟩
      | false => exact ⟨b0, Ev.step (f := fun k => astrolabelaw17_top.l0 k l ((i + 1 : Nat) : Int)) (fun k => by rw [astrolabelaw17_top.j1, if_neg Bool.false_ne_true, hw]) hb0⟩
    obtain ⟨bt, ht⟩ := j true
    obtain ⟨bf, hf⟩ := j ((rd_T47 l (i : Int)).f1 == 9223372036854775807)
    by_cases h1 : (rd_T47 l (i : Int)).f2 = 9223372036854775807
    · exact ⟨bt, Ev.step (fun k => by rw [astrolabelaw17_top.l0, if_pos (by omega), if_pos (by omega), if_pos h1]) ht⟩
    · by_cases h2 : (rd_T47 l (i : Int)).f3 = 9223372036854775807
      · exact ⟨bt, Ev.step (fun k => by rw [astrolabelaw17_top.l0, if_pos (by omega), if_pos (by omega), if_neg h1, if_pos h2]) ht⟩
      · by_cases h3 : (rd_T47 l (i : Int)).f4 = 9223372036854775807
        · exact ⟨bt, Ev.step (fun k => by rw [astrolabelaw17_top.l0, if_pos (by omega), if_pos (by omega), if_neg h1, if_neg h2, if_pos h3]) ht⟩
        · exact ⟨bf, Ev.step (fun k => by rw [astrolabelaw17_top.l0, if_pos (by omega), if_pos (by omega), if_neg h1, if_neg h2, if_neg h3]) hf⟩
theorem top_ev (l : List S47) (hl : l.length ≤ 1000000) : ∃ b, Ev (fun k => astrolabelaw17_top.f k l) b := top_from l hl l.length 0 (by omega)
end Go.Proofs.Ytccolpkjgjjipaa.Q
