/- The reference's Deep, plainly. -/
import Derived.Test.YtediidkiedifcaaATreeL
namespace Go.Proofs.Ytediidkiedifcaa.Q
set_option linter.unusedVariables false
set_option linter.unusedSimpArgs false
open Go.RowKit Go.Proofs.YtediidkiedifcaaW.PrintWords
section
variable {l0 : List S45} {l1 : List S31}
theorem refdeep_l1 (h : Fine l0 l1) (i : Nat) (hi : i < l1.length) (ps : List Int) (hps : ∀ c ∈ ps, 0 ≤ c ∧ c < (i : Int)) (hl : ps.length ≤ 1000) (r : List Int)
    (hr : Ev (fun k => astrolaberef04_Deep.l0 k (deepL l1 i ++ [deepMax (deepL l1 i) ps + 1]) ((i + 1 : Nat) : Int) l0 l1) r) : ∀ (d y : Nat), y + d = ps.length →
    Ev (fun k => astrolaberef04_Deep.l1 k (deepL l1 i) (i : Int) (deepPart l1 i ps y) ps (y : Int) l0 l1) r
  | 0, y, hy => by
    have hb := deepPart_le (xs := l1) (i := i) (ps := ps) (y := y)
    have hn := h.s.n1
    refine Ev.step (fun k => ?_) hr
    have e1 : deepPart l1 i ps y = deepMax (deepL l1 i) ps := by unfold deepPart; rw [List.take_of_length_le (by omega)]
    rw [astrolaberef04_Deep.l1, if_neg (by omega), if_pos (by rw [deepL_length]; omega), w64 (n := (i : Int) + 1) (by omega) (by omega), w64 (n := deepPart l1 i ps y + 1) (by omega) (by omega), e1]
    rfl
  | d + 1, y, hy => by
    have hyl : y < ps.length := by omega
    have hc := hps _ (List.getElem_mem hyl)
    have ih := refdeep_l1 h i hi ps hps hl r hr d (y + 1) (by omega)
    rw [deepPart_next hyl] at ih
    obtain ⟨c, hcc, hci⟩ : ∃ c : Nat, ps[y] = (c : Int) ∧ c < i := ⟨ps[y].toNat, by omega, by omega⟩
    rw [hcc, Int.toNat_natCast] at ih
    have hlc : c < (deepL l1 i).length := by rw [deepL_length]; exact hci
    have e1 : (deepL l1 i).getD c 0 = (deepL l1 i)[c] := by rw [List.getD_eq_getElem?_getD, List.getElem?_eq_getElem hlc]; rfl
    rw [e1] at ih
    refine Ev.step (fun k => ?_) ih
    rw [astrolaberef04_Deep.l1, if_pos (by omega), if_pos (by omega), rd_nat' hyl, hcc, if_pos (by omega), if_pos (by omega), rd_nat' hlc, w64 (n := (y : Int) + 1) (by omega) (by omega)]
    unfold mx
    by_cases hd : deepPart l1 i ps y < (deepL l1 i)[c]
    · rw [if_pos hd, if_pos hd]
      rfl
    · rw [if_neg hd, if_neg hd]
      rfl
theorem Fine.refdeep (h : Fine l0 l1) : ∀ (d i : Nat), i + d = l1.length → Ev (fun k => astrolaberef04_Deep.l0 k (deepL l1 i) (i : Int) l0 l1) (deepL l1 l1.length)
  | 0, i, hi => by
    have : i = l1.length := by omega
    subst this
    exact Ev.step (f := fun _ => some (deepL l1 l1.length)) (fun k => by rw [astrolaberef04_Deep.l0, if_neg (by omega)]) (Ev.now _)
  | d + 1, i, hi => by
    have hil : i < l1.length := by omega
    have k7 := h.s.x7 _ (rd31_mem (x := (i : Int)) (by omega) (by omega))
    have ih := h.refdeep d (i + 1) (by omega)
    rw [deepL] at ih
    have h1 := refdeep_l1 h i hil (partsF (rd_T31 l1 (i : Int))) (h.par (i : Int) (by omega) (by omega)) (h.len (by omega) (by omega)) _ ih _ 0 (Nat.zero_add _)
    refine Ev.step (f := fun k => (astrolaberef04_Parts.f k (rd_T31 l1 (i : Int)).f0 (rd_T31 l1 (i : Int)).f1 (rd_T31 l1 (i : Int)).f2 (rd_T31 l1 (i : Int)).f3 (rd_T31 l1 (i : Int)).f4 (rd_T31 l1 (i : Int)).f5 (rd_T31 l1 (i : Int)).f6 (rd_T31 l1 (i : Int)).f7 (rd_T31 l1 (i : Int)).f8).bind fun t => astrolaberef04_Deep.l1 k (deepL l1 i) (i : Int) 0 t 0 l0 l1) (fun k => by rw [astrolaberef04_Deep.l0, if_pos (by omega), if_pos (by omega)]) (Ev.bind (refparts_ev _ (by omega)) ?_)
    exact h1
theorem Fine.refdeep_f (h : Fine l0 l1) : Ev (fun k => astrolaberef04_Deep.f k l0 l1) (deepL l1 l1.length) := Ev.congr (fun k => by rw [astrolaberef04_Deep.f]; rfl) (h.refdeep l1.length 0 (by omega))
end
end Go.Proofs.Ytediidkiedifcaa.Q
