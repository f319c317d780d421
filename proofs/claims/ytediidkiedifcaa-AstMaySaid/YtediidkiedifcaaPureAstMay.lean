/- Whether any program may be, and the parts of any expression, are the document's: the pure statement. -/
import Derived.Test.YtediidkiedifcaaDefAstMay
import Derived.Test.YtediidkiedifcaaAGreat
namespace Go.Proofs.Ytediidkiedifcaa.Q
set_option linter.unusedVariables false
set_option linter.unusedSimpArgs false
open Go.RowKit Go.Proofs.YtediidkiedifcaaW.PrintWords
theorem parts_ev (x : S31) (h : x.f7.length ≤ 1000000000000) : Ev (fun k => ast_Parts.f k x.f0 x.f1 x.f2 x.f3 x.f4 x.f5 x.f6 x.f7 x.f8) (partsF x) := ⟨2, fun k hk => by obtain ⟨m, rfl⟩ : ∃ m, k = m + 2 := ⟨k - 2, by omega⟩; exact parts_f m x (by omega)⟩
theorem refparts_ev (x : S31) (h : x.f7.length ≤ 1000000000000) : Ev (fun k => astrolaberef04_Parts.f k x.f0 x.f1 x.f2 x.f3 x.f4 x.f5 x.f6 x.f7 x.f8) (partsF x) := ⟨2, fun k hk => by obtain ⟨m, rfl⟩ : ∃ m, k = m + 2 := ⟨k - 2, by omega⟩; exact refparts_f m x h⟩
theorem astmay_l1 (l0 : List S45) (l1 : List S31) (i : Nat) (ps : List Int) (hp : ps.length ≤ 4000000000000000000) (h : Ev (fun k => astrolabelaw04_AstMay.l0 k (wrap64 ((i : Int) + 1)) l0 l1) true) : ∀ (d y : Nat), y + d = ps.length → Ev (fun k => astrolabelaw04_AstMay.l1 k (i : Int) ps ps (y : Int) l0 l1) true
  | 0, y, hy => Ev.step (fun k => by rw [astrolabelaw04_AstMay.l1, if_neg (by omega)]) h
  | d + 1, y, hy => Ev.step (fun k => by
      rw [astrolabelaw04_AstMay.l1, if_pos (by omega), if_pos (by omega), if_pos (by omega), if_pos rfl, w64 (n := (y : Int) + 1) (by omega) (by omega)]
      rfl) (astmay_l1 l0 l1 i ps hp h d (y + 1) (by omega))
theorem astmay_l0 (l0 : List S45) (l1 : List S31) (hs : Small l0 l1) : ∀ (d i : Nat), i + d = l1.length → Ev (fun k => astrolabelaw04_AstMay.l0 k (i : Int) l0 l1) true
  | 0, i, hi => Ev.step (f := fun _ => some true) (fun k => by
      rw [astrolabelaw04_AstMay.l0, if_neg (by omega), hs.may, Option.bind_some]
      show (ast_May.f l0 l1).bind _ = _
      rw [hs.may, Option.bind_some, beq_self_eq_true]) (Ev.now _)
  | d + 1, i, hi => by
    have hil : i < l1.length := by omega
    have k7 := hs.x7 _ (List.getElem_mem hil)
    have n1 := hs.n1
    have hp : (partsF l1[i]).length ≤ 1000 := by have := parts_lenN l1[i]; omega
    have ih := astmay_l0 l0 l1 hs d (i + 1) (by omega)
    have h1 := astmay_l1 l0 l1 i (partsF l1[i]) (by omega) (by rw [w64 (n := (i : Int) + 1) (by omega) (by omega)]; exact ih) (partsF l1[i]).length 0 (by omega)
    refine Ev.step (f := fun k => (ast_Parts.f k (l1[i]).f0 (l1[i]).f1 (l1[i]).f2 (l1[i]).f3 (l1[i]).f4 (l1[i]).f5 (l1[i]).f6 (l1[i]).f7 (l1[i]).f8).bind fun t => ((astrolaberef04_Parts.f k (l1[i]).f0 (l1[i]).f1 (l1[i]).f2 (l1[i]).f3 (l1[i]).f4 (l1[i]).f5 (l1[i]).f6 (l1[i]).f7 (l1[i]).f8).bind fun u => (if (t.length : Int) = (u.length : Int) then (astrolabelaw04_AstMay.l1 k (i : Int) t u 0 l0 l1) else (some false)))) (fun k => ?_) ?_
    · rw [astrolabelaw04_AstMay.l0, if_pos (by omega), if_pos (by omega), rd31_at hil]
    · refine Ev.bind (parts_ev _ (by omega)) (Ev.bind (refparts_ev _ (by omega)) ?_)
      exact Ev.congr (fun k => by rw [if_pos rfl]; rfl) h1
theorem AstMay : astrolabelaw04_AstMay.Pure := by
  intro x hx
  refine Ev.rounds ?_
  obtain ⟨b, hb, hsm⟩ := great_f (Sz.of hx)
  refine Ev.congr (fun k => by rw [astrolabelaw04_AstMay.f, astrolabelaw04_alive.f, Option.bind_some, if_pos rfl]) (Ev.bind hb ?_)
  cases b with
  | true => exact Ev.congr (fun k => by rw [if_pos rfl]) (Ev.now _)
  | false => exact Ev.congr (fun k => by rw [if_neg (by decide)]; rfl) (astmay_l0 _ _ (hsm rfl) x.f1.length 0 (by omega))
end Go.Proofs.Ytediidkiedifcaa.Q
namespace Go.Proofs.Ytediidkiedifcaa.Pure
theorem AstMay : Q.astrolabelaw04_AstMay.Pure := Q.AstMay
end Go.Proofs.Ytediidkiedifcaa.Pure
