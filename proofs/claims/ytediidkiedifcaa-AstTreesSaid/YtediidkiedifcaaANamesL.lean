/- The names of an expression are those of its tree, each once, in the tree's order. -/
import Derived.Test.YtediidkiedifcaaATreeL
namespace Go.Proofs.Ytediidkiedifcaa.Q
set_option linter.unusedVariables false
set_option linter.unusedSimpArgs false
open Go.RowKit Go.Proofs.YtediidkiedifcaaW.PrintWords
def isName (xs : List S31) (y : Int) : Bool := (rd_T31 xs y).f0 == 3
def nameOf (xs : List S31) (y : Int) : ByteArray := (rd_T31 xs y).f4
/-- One more expression's name, if it is one, and is new. -/
def addN (xs : List S31) (out : List ByteArray) (y : Int) : List ByteArray := if isName xs y && !(hasS out (nameOf xs y)) then out ++ [nameOf xs y] else out
def namesT (xs : List S31) (l : List Int) (out : List ByteArray) : List ByteArray := l.foldl (addN xs) out
theorem hasS_append (a b : List ByteArray) (s : ByteArray) : hasS (a ++ b) s = (hasS a s || hasS b s) := by unfold hasS; rw [List.any_append]
theorem addN_pre (xs : List S31) (out : List ByteArray) (y : Int) : out <+: addN xs out y := by
  unfold addN
  split
  · exact List.prefix_append _ _
  · exact List.prefix_refl _
theorem namesT_pre (xs : List S31) : ∀ (l : List Int) (out : List ByteArray), out <+: namesT xs l out
  | [], out => List.prefix_refl _
  | y :: l, out => (addN_pre xs out y).trans (namesT_pre xs l _)
theorem hasS_pre {a b : List ByteArray} (h : a <+: b) {s : ByteArray} (hs : hasS a s = true) : hasS b s = true := by
  obtain ⟨c, rfl⟩ := h
  rw [hasS_append, hs, Bool.true_or]
theorem hasS_self (s : ByteArray) : hasS [s] s = true := by unfold hasS; simp
theorem addN_has (xs : List S31) (out : List ByteArray) (y : Int) (h : isName xs y = true) : hasS (addN xs out y) (nameOf xs y) = true := by
  unfold addN
  cases hh : hasS out (nameOf xs y) with
  | true => rw [h]; simpa using hh
  | false => rw [h]; simp [hasS_append, hasS_self]
/-- All names of some expressions stand. -/
def Cov (xs : List S31) (out : List ByteArray) (l : List Int) : Prop := ∀ y ∈ l, isName xs y = true → hasS out (nameOf xs y) = true
theorem Cov.pre {xs : List S31} {a b : List ByteArray} {l : List Int} (h : Cov xs a l) (hp : a <+: b) : Cov xs b l := fun y hy hn => hasS_pre hp (h y hy hn)
theorem namesT_cov (xs : List S31) : ∀ (l : List Int) (out : List ByteArray), Cov xs (namesT xs l out) l
  | [], out => fun y hy => by cases hy
  | z :: l, out => fun y hy hn => by
    rcases List.mem_cons.1 hy with rfl | hy
    · exact hasS_pre (namesT_pre xs l _) (addN_has xs out y hn)
    · exact namesT_cov xs l _ y hy hn
theorem namesT_same (xs : List S31) : ∀ (l : List Int) (out : List ByteArray), Cov xs out l → namesT xs l out = out
  | [], out, _ => rfl
  | z :: l, out, h => by
    have hz : addN xs out z = out := by
      unfold addN
      cases hn : isName xs z with
      | false => rfl
      | true => rw [h z List.mem_cons_self hn]; rfl
    show namesT xs l (addN xs out z) = out
    rw [hz]
    exact namesT_same xs l out (fun y hy => h y (List.mem_cons_of_mem _ hy))
theorem namesT_append (xs : List S31) (a b : List Int) (out : List ByteArray) : namesT xs (a ++ b) out = namesT xs b (namesT xs a out) := by unfold namesT; rw [List.foldl_append]
section
variable {l1 : List S31}
/-- What stands while names are gathered: those below e that were met are told. -/
def Told (l1 : List S31) (e : Nat) (s : St) : Prop := ∀ y : Nat, y < e → s.1.getD y false = true → Cov l1 s.2 (Q.treeV l1 (y : Int))
theorem ownS_two (e : Nat) (s : St) : (ownS l1 e s).2 = addN l1 s.2 (e : Int) := rfl
theorem set_get {l : List Bool} {i j : Nat} (h : i ≠ j) (b : Bool) : (l.set i b).getD j false = l.getD j false := by
  rw [List.getD_eq_getElem?_getD, List.getElem?_set_ne h, ← List.getD_eq_getElem?_getD]
theorem meet_told (hp : ∀ x : Int, 0 ≤ x → x < (l1.length : Int) → ∀ c ∈ partsF (rd_T31 l1 x), 0 ≤ c ∧ c < x) : ∀ (n e : Nat) (s : St), e < n → e < l1.length → Told l1 (e + 1) s →
    (meetF n l1 e s).2 = namesT l1 (Q.treeV l1 (e : Int)) s.2 ∧ Told l1 (e + 1) (meetF n l1 e s) ∧ (∀ y, e < y → (meetF n l1 e s).1.getD y false = s.1.getD y false) ∧ s.2 <+: (meetF n l1 e s).2
  | 0, e, s, h, _, _ => by omega
  | n + 1, e, s, h, he, ht => by
    rw [meetF]
    cases hm : s.1.getD e false with
    | true =>
      rw [if_pos rfl]
      exact ⟨(namesT_same _ _ _ (ht e (by omega) hm)).symm, ht, fun _ _ => rfl, List.prefix_refl _⟩
    | false =>
      rw [if_neg (by decide)]
      have fold : ∀ (ps : List Int), (∀ c ∈ ps, 0 ≤ c ∧ c < (e : Int)) → ∀ (t : St), Told l1 e t →
          (ps.foldl (fun t c => meetF n l1 c.toNat t) t).2 = namesT l1 (ps.flatMap (Q.treeV l1)) t.2 ∧ Told l1 e (ps.foldl (fun t c => meetF n l1 c.toNat t) t) ∧ (∀ y, e ≤ y → (ps.foldl (fun t c => meetF n l1 c.toNat t) t).1.getD y false = t.1.getD y false) ∧ t.2 <+: (ps.foldl (fun t c => meetF n l1 c.toNat t) t).2 := by
        intro ps
        induction ps with
        | nil => intro _ t h; exact ⟨rfl, h, fun _ _ => rfl, List.prefix_refl _⟩
        | cons c cs ih =>
          intro hps t hT
          have hc := hps c List.mem_cons_self
          obtain ⟨k, rfl⟩ : ∃ k : Nat, c = (k : Int) := ⟨c.toNat, by omega⟩
          rw [List.foldl_cons, Int.toNat_natCast]
          obtain ⟨g1, g2, g3, g4⟩ := meet_told hp n k t (by omega) (by omega) (fun y hy hm => hT y (by omega) hm)
          have hT2 : Told l1 e (meetF n l1 k t) := fun y hy hm => by
            by_cases hyk : y < k + 1
            · exact g2 y hyk hm
            · rw [g3 y (by omega)] at hm
              exact (hT y hy hm).pre g4
          obtain ⟨f1, f2, f3, f4⟩ := ih (fun d hd => hps d (List.mem_cons_of_mem _ hd)) _ hT2
          refine ⟨?_, f2, fun y hy => (f3 y hy).trans (g3 y (by omega)), g4.trans f4⟩
          rw [f1, g1, List.flatMap_cons, namesT_append]
      have hown : Told l1 e (ownS l1 e s) := fun y hy hm => by
        have h1 : (ownS l1 e s).1.getD y false = s.1.getD y false := set_get (by omega) true
        rw [h1] at hm
        rw [ownS_two]
        exact (ht y (by omega) hm).pre (addN_pre _ _ _)
      obtain ⟨f1, f2, f3, f4⟩ := fold (partsF (rd_T31 l1 (e : Int))) (hp (e : Int) (by omega) (by omega)) (ownS l1 e s) hown
      have hpre : s.2 <+: (ownS l1 e s).2 := by rw [ownS_two]; exact addN_pre _ _ _
      have hT : Q.treeV l1 (e : Int) = (e : Int) :: (partsF (rd_T31 l1 (e : Int))).flatMap (Q.treeV l1) := by
        unfold Q.treeV
        rw [treeAll]
        congr 1
        have key : ∀ ps : List Int, (∀ c ∈ ps, 0 ≤ c ∧ c < (e : Int)) → ps.flatMap (treeAll ((e : Int).toNat) l1) = ps.flatMap (fun c => treeAll (c.toNat + 1) l1 c) := by
          intro ps
          induction ps with
          | nil => intro _; rfl
          | cons c cs ih =>
            intro hh
            have hc := hh c List.mem_cons_self
            rw [List.flatMap_cons, List.flatMap_cons, ih (fun d hd => hh d (List.mem_cons_of_mem _ hd)), tree_stable hp _ (c.toNat + 1) c hc.1 (by omega) (by omega) (by omega)]
        exact key _ (hp (e : Int) (by omega) (by omega))
      have hres : ((partsF (rd_T31 l1 (e : Int))).foldl (fun t c => meetF n l1 c.toNat t) (ownS l1 e s)).2 = namesT l1 (Q.treeV l1 (e : Int)) s.2 := by
        rw [f1, hT, ownS_two]
        rfl
      refine ⟨hres, fun y hy hm => ?_, fun y hy => ?_, hpre.trans f4⟩
      · by_cases hye : y = e
        · subst hye
          rw [hres]
          exact namesT_cov _ _ _
        · exact f2 y (by omega) hm
      · rw [f3 y (by omega)]
        exact set_get (by omega) true
theorem namesP_eq (hp : ∀ x : Int, 0 ≤ x → x < (l1.length : Int) → ∀ c ∈ partsF (rd_T31 l1 x), 0 ≤ c ∧ c < x) {e : Nat} (he : e < l1.length) : namesP l1 e = namesT l1 (Q.treeV l1 (e : Int)) [] := by
  unfold namesP
  refine (meet_told hp (e + 1) e _ (by omega) he (fun y hy hm => ?_)).1
  exfalso
  dsimp only at hm
  rw [List.getD_eq_getElem?_getD, List.getElem?_replicate] at hm
  split at hm <;> cases hm
/-- A name stands if it is that of one of the expressions. -/
theorem hasS_names (xs : List S31) (s : ByteArray) : ∀ (l : List Int) (out : List ByteArray), hasS (namesT xs l out) s = (hasS out s || l.any fun y => isName xs y && s.toList == (nameOf xs y).toList)
  | [], out => by simp [namesT]
  | y :: l, out => by
    show hasS (namesT xs l (addN xs out y)) s = _
    rw [hasS_names xs s l, List.any_cons, ← Bool.or_assoc]
    congr 1
    unfold addN
    cases hn : isName xs y with
    | false => simp
    | true =>
      cases hh : hasS out (nameOf xs y) with
      | false => simp [hasS_append, hasS]
      | true =>
        simp
        intro he
        unfold hasS at hh ⊢
        rw [List.any_eq_true] at hh ⊢
        obtain ⟨t, h1, h2⟩ := hh
        exact ⟨t, h1, by rw [beq_iff_eq] at h2 ⊢; rw [he, h2]⟩
end
end Go.Proofs.Ytediidkiedifcaa.Q
