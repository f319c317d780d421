/- Trees and depths, plainly: the reference's Tree, and what the program's functions answer on a program that isn't Great and may be. -/
import Derived.Test.YtediidkiedifcaaAGreat
import Derived.Test.YtediidkiedifcaaATree
import Derived.Test.YtediidkiedifcaaQ9
import Derived.Test.YtediidkiedifcaaQ11
namespace Go.Proofs.Ytediidkiedifcaa.Q
set_option linter.unusedVariables false
set_option linter.unusedSimpArgs false
open Go.RowKit Go.Proofs.YtediidkiedifcaaW.PrintWords
theorem parts_ev (x : S31) (h : x.f7.length ≤ 1000000000000) : Ev (fun k => ast_Parts.f k x.f0 x.f1 x.f2 x.f3 x.f4 x.f5 x.f6 x.f7 x.f8) (partsF x) := ⟨2, fun k hk => by obtain ⟨m, rfl⟩ : ∃ m, k = m + 2 := ⟨k - 2, by omega⟩; exact parts_f m x (by omega)⟩
theorem refparts_ev (x : S31) (h : x.f7.length ≤ 1000000000000) : Ev (fun k => astrolaberef04_Parts.f k x.f0 x.f1 x.f2 x.f3 x.f4 x.f5 x.f6 x.f7 x.f8) (partsF x) := ⟨2, fun k hk => by obtain ⟨m, rfl⟩ : ∃ m, k = m + 2 := ⟨k - 2, by omega⟩; exact refparts_f m x h⟩
/-- A program that isn't Great, and may be. -/
structure Fine (l0 : List S45) (l1 : List S31) : Prop where
  s : Small l0 l1
  m : mayP l0 l1 = true
section
variable {l0 : List S45} {l1 : List S31}
theorem Fine.par (h : Fine l0 l1) : ∀ x : Int, 0 ≤ x → x < (l1.length : Int) → ∀ c ∈ partsF (rd_T31 l1 x), 0 ≤ c ∧ c < x := may_par h.m
theorem rd31_mem {x : Int} (h0 : 0 ≤ x) (h1 : x < (l1.length : Int)) : rd_T31 l1 x ∈ l1 := by
  obtain ⟨i, rfl⟩ : ∃ i : Nat, x = (i : Int) := ⟨x.toNat, by omega⟩
  rw [rd31_at (by omega)]
  exact List.getElem_mem _
theorem Fine.right (h : Fine l0 l1) {x : Int} (h0 : 0 ≤ x) (h1 : x < (l1.length : Int)) : ast_right.f l0 l1 x = some true := by
  unfold ast_right.f
  rw [if_pos h0, if_pos h1, h.s.may, Option.bind_some, h.m]
theorem Fine.len (h : Fine l0 l1) {x : Int} (h0 : 0 ≤ x) (h1 : x < (l1.length : Int)) : (partsF (rd_T31 l1 x)).length ≤ 1000 := by
  have := parts_lenN (rd_T31 l1 x)
  have := h.s.x7 _ (rd31_mem h0 h1)
  omega
/-- More rounds give the same tree. -/
theorem tree_stable (hp : ∀ x : Int, 0 ≤ x → x < (l1.length : Int) → ∀ c ∈ partsF (rd_T31 l1 x), 0 ≤ c ∧ c < x) : ∀ (n m : Nat) (x : Int), 0 ≤ x → x < (l1.length : Int) → x.toNat < n → x.toNat < m → treeAll n l1 x = treeAll m l1 x
  | 0, m, x, _, _, h, _ => by omega
  | n + 1, 0, x, _, _, _, h => by omega
  | n + 1, m + 1, x, h0, h1, h2, h3 => by
    rw [treeAll, treeAll]
    congr 1
    have key : ∀ ps : List Int, (∀ c ∈ ps, 0 ≤ c ∧ c < x) → ps.flatMap (treeAll n l1) = ps.flatMap (treeAll m l1) := by
      intro ps
      induction ps with
      | nil => intro _; rfl
      | cons c cs ih =>
        intro h
        have hc := h c List.mem_cons_self
        rw [List.flatMap_cons, List.flatMap_cons, ih (fun d hd => h d (List.mem_cons_of_mem _ hd)), tree_stable hp n m c hc.1 (by omega) (by omega) (by omega)]
    exact key _ (hp x h0 h1)
def treeV (l1 : List S31) (x : Int) : List Int := treeAll (x.toNat + 1) l1 x
theorem Fine.treeV (h : Fine l0 l1) {x : Int} (h0 : 0 ≤ x) (h1 : x < (l1.length : Int)) : treeV l1 x = x :: (partsF (rd_T31 l1 x)).flatMap (Q.treeV l1) := by
  unfold Q.treeV
  rw [treeAll]
  congr 1
  have key : ∀ ps : List Int, (∀ c ∈ ps, 0 ≤ c ∧ c < x) → ps.flatMap (treeAll x.toNat l1) = ps.flatMap (fun c => treeAll (c.toNat + 1) l1 c) := by
    intro ps
    induction ps with
    | nil => intro _; rfl
    | cons c cs ih =>
      intro hh
      have hc := hh c List.mem_cons_self
      rw [List.flatMap_cons, List.flatMap_cons, ih (fun d hd => hh d (List.mem_cons_of_mem _ hd)), tree_stable h.par x.toNat (c.toNat + 1) c hc.1 (by omega) (by omega) (by omega)]
  exact key _ (h.par x h0 h1)
theorem Fine.tree (h : Fine l0 l1) {x : Int} (h0 : 0 ≤ x) (h1 : x < (l1.length : Int)) : ast_Tree.f l0 l1 x = some ((Q.treeV l1 x).take 100000) := by
  unfold ast_Tree.f
  rw [h.right h0 h1, Option.bind_some, if_pos rfl]
  rfl
def deepV (l1 : List S31) (x : Int) : Int := (deepL l1 (x.toNat + 1)).getD x.toNat 0
theorem Fine.deep (h : Fine l0 l1) {x : Int} (h0 : 0 ≤ x) (h1 : x < (l1.length : Int)) : ast_Deep.f l0 l1 x = some (Q.deepV l1 x) := by
  unfold ast_Deep.f
  rw [h.right h0 h1, Option.bind_some, if_pos rfl]
  rfl
theorem deepL_get {c : Nat} : ∀ {n : Nat}, c < n → (deepL l1 n).getD c 0 = (deepL l1 (c + 1)).getD c 0
  | 0, h => by omega
  | n + 1, h => by
    by_cases e : c = n
    · subst e; rfl
    · rw [deepL, List.getD_eq_getElem?_getD, List.getElem?_append_left (by rw [deepL_length]; omega), ← List.getD_eq_getElem?_getD, deepL_get (by omega)]
theorem Fine.deepV (h : Fine l0 l1) {x : Int} (h0 : 0 ≤ x) (h1 : x < (l1.length : Int)) : Q.deepV l1 x = (partsF (rd_T31 l1 x)).foldl (fun m c => mx m (Q.deepV l1 c)) 0 + 1 := by
  unfold Q.deepV
  rw [deepL, List.getD_eq_getElem?_getD, List.getElem?_append_right (by rw [deepL_length]; exact Nat.le_refl _), deepL_length, Nat.sub_self, List.getElem?_cons_zero, Option.getD_some, Int.toNat_of_nonneg h0]
  congr 1
  have key : ∀ (ps : List Int) (m : Int), (∀ c ∈ ps, 0 ≤ c ∧ c < x) → ps.foldl (fun m c => mx m ((deepL l1 x.toNat).getD c.toNat 0)) m = ps.foldl (fun m c => mx m ((deepL l1 (c.toNat + 1)).getD c.toNat 0)) m := by
    intro ps
    induction ps with
    | nil => intro m _; rfl
    | cons c cs ih =>
      intro m hh
      have hc := hh c List.mem_cons_self
      rw [List.foldl_cons, List.foldl_cons, ih _ (fun d hd => hh d (List.mem_cons_of_mem _ hd)), deepL_get (by omega : c.toNat < x.toNat)]
  exact key _ 0 (h.par x h0 h1)
theorem deepV_le (x : Int) : 0 ≤ Q.deepV l1 x ∧ Q.deepV l1 x ≤ (x.toNat + 1 : Nat) := by
  unfold Q.deepV
  rw [List.getD_eq_getElem?_getD]
  cases e : (deepL l1 (x.toNat + 1))[x.toNat]? with
  | none => simp; omega
  | some d => exact deepL_bound l1 _ d (List.mem_of_getElem? e)
theorem take_cat {α : Type} {A B : List α} {m : Nat} : A.take m ++ B.take (m - (A.take m).length) = (A ++ B).take m := by
  rw [List.take_append, List.length_take]
  congr 1
  rcases Nat.le_total m A.length with h | h
  · rw [Nat.min_eq_left h, Nat.sub_self, Nat.sub_eq_zero_of_le h]
  · rw [Nat.min_eq_right h]
/-- The reference's Tree. -/
theorem Fine.reftree (h : Fine l0 l1) (most : Nat) (hm : most ≤ 100000) : ∀ (n : Nat) (x : Int) (out : List Int), 0 ≤ x → x.toNat < n → x < (l1.length : Int) → out.length ≤ most →
    Ev (fun k => astrolaberef04_Tree.f k l0 l1 x out (most : Int)) (out ++ (treeAll n l1 x).take (most - out.length)) := by
  intro n
  induction n with
  | zero => intro x out _ h; omega
  | succ n ih =>
    intro x out h0 hxn h1 ho
    have loop : ∀ (ps : List Int), (∀ c ∈ ps, 0 ≤ c ∧ c < x) → ps.length ≤ 1000 → ∀ (d y : Nat) (t : List Int), y + d = ps.length → t.length ≤ most →
        Ev (fun k => astrolaberef04_Tree.l0 k t (most : Int) ps (y : Int) l0 l1) (t ++ ((ps.drop y).flatMap (treeAll n l1)).take (most - t.length)) := by
      intro ps hps hl d
      induction d with
      | zero =>
        intro y t hy ht
        refine Ev.step (f := fun _ => some t) (fun k => by rw [astrolaberef04_Tree.l0, if_neg (by omega)]) ?_
        rw [List.drop_of_length_le (by omega)]
        simpa using Ev.now t
      | succ d ihd =>
        intro y t hy ht
        have hyl : y < ps.length := by omega
        have hc := hps _ (List.getElem_mem hyl)
        have e1 := ih ps[y] t hc.1 (by omega) (by omega) ht
        have hlen : (t ++ (treeAll n l1 ps[y]).take (most - t.length)).length ≤ most := by rw [List.length_append, List.length_take]; omega
        have e2 := ihd (y + 1) _ (by omega) hlen
        refine Ev.step (f := fun k => (astrolaberef04_Tree.f k l0 l1 ps[y] t (most : Int)).bind fun t' => astrolaberef04_Tree.l0 k t' (most : Int) ps ((y + 1 : Nat) : Int) l0 l1) (fun k => ?_) ?_
        · rw [astrolaberef04_Tree.l0, if_pos (by omega), if_pos (by omega), rd_nat' hyl, w64 (n := (y : Int) + 1) (by omega) (by omega)]
          rfl
        · have := Ev.bind (f := fun k t' => astrolaberef04_Tree.l0 k t' (most : Int) ps ((y + 1 : Nat) : Int) l0 l1) e1 e2
          rw [List.drop_eq_getElem_cons hyl, List.flatMap_cons, ← take_cat, ← List.append_assoc]
          rw [List.length_append, ← Nat.sub_sub] at this
          exact this
    by_cases hf : most ≤ out.length
    · refine Ev.step (f := fun _ => some out) (fun k => by rw [astrolaberef04_Tree.f, if_pos (by omega)]) ?_
      rw [Nat.sub_eq_zero_of_le hf]
      simpa using Ev.now out
    · have k7 := h.s.x7 _ (rd31_mem h0 h1)
      refine Ev.step (f := fun k => (astrolaberef04_Parts.f k (rd_T31 l1 x).f0 (rd_T31 l1 x).f1 (rd_T31 l1 x).f2 (rd_T31 l1 x).f3 (rd_T31 l1 x).f4 (rd_T31 l1 x).f5 (rd_T31 l1 x).f6 (rd_T31 l1 x).f7 (rd_T31 l1 x).f8).bind fun ps => astrolaberef04_Tree.l0 k (out ++ [x]) (most : Int) ps 0 l0 l1) (fun k => ?_) ?_
      · rw [astrolaberef04_Tree.f, if_neg (by omega), if_pos (by omega), if_pos h0, if_pos h1]
      · have hl := loop (partsF (rd_T31 l1 x)) (h.par x h0 h1) (h.len h0 h1) _ 0 (out ++ [x]) (Nat.zero_add _) (by rw [List.length_append]; simp; omega)
        have := Ev.bind (f := fun k ps => astrolaberef04_Tree.l0 k (out ++ [x]) (most : Int) ps 0 l0 l1) (refparts_ev (rd_T31 l1 x) (by omega)) hl
        rw [List.length_append, List.drop_zero, List.append_assoc, show most - (out.length + [x].length) = most - out.length - 1 by simp; omega] at this
        rw [treeAll, show most - out.length = (most - out.length - 1) + 1 by omega, List.take_succ_cons]
        exact this
theorem Fine.size (h : Fine l0 l1) (most : Nat) (hm : most ≤ 100000) {x : Int} (h0 : 0 ≤ x) (h1 : x < (l1.length : Int)) :
    Ev (fun k => astrolabelaw04_size.f k l0 l1 x (most : Int)) ((min most (Q.treeV l1 x).length : Nat) : Int) := by
  have e := h.reftree most hm (x.toNat + 1) x [] h0 (by omega) h1 (by simp)
  refine Ev.congr (fun k => by rw [astrolabelaw04_size.f]) (Ev.bind e ?_)
  rw [List.nil_append, List.length_take, List.length_nil, Nat.sub_zero]
  exact Ev.now _
end
end Go.Proofs.Ytediidkiedifcaa.Q
