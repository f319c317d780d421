/- The tree below an expression, plainly: the program's way (a walk that may be stopped) and the reference's (a fold that goes on in vain). -/
import Derived.Test.YtediidkiedifcaaAPure
namespace Go.Proofs.Ytediidkiedifcaa.Q
set_option linter.unusedVariables false
set_option linter.unusedSimpArgs false
open Go.RowKit Go.Proofs.YtediidkiedifcaaW.PrintWords
def stopL (f : List Int → Int → List Int × Bool) : List Int → List Int → List Int × Bool
  | [], out => (out, true)
  | c :: cs, out => if (f out c).2 = true then stopL f cs (f out c).1 else ((f out c).1, false)
/-- walk$1$1 with Tree's body as the one who is told: what is gathered, and whether the walk goes on. -/
def treeF : Nat → List S31 → Int → List Int → List Int × Bool
  | 0, _, _, out => (out, true)
  | n + 1, xs, e, out => if out.length = 100000 then (out, false) else stopL (fun t c => treeF n xs c t) (partsF (rd_T31 xs e)) (out ++ [e])
/-- The reference's Tree, with the limit 100000. -/
def treeR : Nat → List S31 → Int → List Int → List Int
  | 0, _, _, out => out
  | n + 1, xs, e, out => if 100000 ≤ out.length then out else (partsF (rd_T31 xs e)).foldl (fun t c => treeR n xs c t) (out ++ [e])
def treeP (xs : List S31) (e : Int) : List Int := (treeF (e.toNat + 1) xs e []).1
theorem treeR_full (n : Nat) (xs : List S31) (e : Int) (out : List Int) (h : 100000 ≤ out.length) : treeR n xs e out = out := by
  cases n with
  | zero => rfl
  | succ n => rw [treeR, if_pos h]
theorem fold_full (g : List Int → Int → List Int) (N : Nat) (hg : ∀ t c, N ≤ t.length → g t c = t) : ∀ (cs : List Int) (out : List Int), N ≤ out.length → cs.foldl g out = out
  | [], out, _ => rfl
  | c :: cs, out, h => by rw [List.foldl_cons, hg out c h, fold_full g N hg cs out h]
theorem stopL_fold (f : List Int → Int → List Int × Bool) (g : List Int → Int → List Int) (N : Nat)
    (hf : ∀ t c, t.length ≤ N → (f t c).1 = g t c ∧ ((f t c).2 = false → (f t c).1.length = N) ∧ (f t c).1.length ≤ N)
    (hg : ∀ t c, N ≤ t.length → g t c = t) : ∀ (cs : List Int) (out : List Int), out.length ≤ N →
      (stopL f cs out).1 = cs.foldl g out ∧ ((stopL f cs out).2 = false → (stopL f cs out).1.length = N) ∧ (stopL f cs out).1.length ≤ N
  | [], out, h => ⟨rfl, (fun e => by cases e), h⟩
  | c :: cs, out, h => by
    obtain ⟨h1, h2, h3⟩ := hf out c h
    rw [stopL, List.foldl_cons]
    cases hb : (f out c).2 with
    | true =>
      rw [if_pos rfl, ← h1]
      exact stopL_fold f g N hf hg cs _ h3
    | false =>
      rw [if_neg (by decide)]
      have h4 := h2 hb
      dsimp only
      refine ⟨?_, (fun _ => h4), h3⟩
      rw [← h1, fold_full g N hg cs _ (by omega)]
theorem tree_eq : ∀ (n : Nat) (xs : List S31) (e : Int) (out : List Int), out.length ≤ 100000 →
    (treeF n xs e out).1 = treeR n xs e out ∧ ((treeF n xs e out).2 = false → (treeF n xs e out).1.length = 100000) ∧ (treeF n xs e out).1.length ≤ 100000
  | 0, xs, e, out, h => ⟨rfl, (fun e => by cases e), h⟩
  | n + 1, xs, e, out, h => by
    rw [treeF, treeR]
    by_cases hl : out.length = 100000
    · rw [if_pos hl, if_pos (by omega)]
      exact ⟨rfl, (fun _ => hl), h⟩
    · rw [if_neg hl, if_neg (by omega)]
      exact stopL_fold _ _ 100000 (fun t c ht => tree_eq n xs c t ht) (fun t c ht => treeR_full n xs c t ht) _ _ (by rw [List.length_append]; simp only [List.length_cons, List.length_nil]; omega)
theorem treeP_eq (xs : List S31) (e : Int) : treeP xs e = treeR (e.toNat + 1) xs e [] := (tree_eq _ xs e [] (by simp)).1
end Go.Proofs.Ytediidkiedifcaa.Q
