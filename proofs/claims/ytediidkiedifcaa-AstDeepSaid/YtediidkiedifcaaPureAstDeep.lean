/- An expression is one deeper than its deepest part; its tree is itself, and its parts' trees: the pure statement. -/
import Derived.Test.YtediidkiedifcaaDefAstDeep
import Derived.Test.YtediidkiedifcaaATreeL
namespace Go.Proofs.Ytediidkiedifcaa.Q
set_option linter.unusedVariables false
set_option linter.unusedSimpArgs false
open Go.RowKit Go.Proofs.YtediidkiedifcaaW.PrintWords
section
variable {l0 : List S45} {l1 : List S31}
def sumLen (l1 : List S31) (ps : List Int) : Nat := (ps.flatMap (Q.treeV l1)).length
theorem take_len {l : List Int} {n : Nat} (h : l.length ≤ n) : (l.take n).length = l.length := by rw [List.take_of_length_le h]
theorem sumLen_snoc (ps : List Int) (c : Int) : sumLen l1 (ps ++ [c]) = sumLen l1 ps + (Q.treeV l1 c).length := by
  unfold sumLen
  rw [List.flatMap_append, List.length_append]
  simp
theorem sumLen_take (ps : List Int) (y : Nat) : sumLen l1 (ps.take y) ≤ sumLen l1 ps := by
  unfold sumLen
  exact (take_flat_pre (f := Q.treeV l1) (ps := ps) y).length_le
theorem Fine.tree2 (h : Fine l0 l1) {x : Int} (h0 : 0 ≤ x) (h1 : x < (l1.length : Int)) (hl : (Q.treeV l1 x).length ≤ 100000) : ast_Tree.f l0 l1 x = some (Q.treeV l1 x) := by
  rw [h.tree h0 h1, List.take_of_length_le hl]
set_option maxHeartbeats 1000000 in
theorem deep_l0 (h : Fine l0 l1) {x : Int} (h0 : 0 ≤ x) (h1 : x < (l1.length : Int)) (ps : List Int) (hps : ∀ c ∈ ps, 0 ≤ c ∧ c < x) (hl : ps.length ≤ 1000) (hsum : sumLen l1 ps ≤ 2000) (hD : Q.deepV l1 x = ps.foldl (fun m c => mx m (Q.deepV l1 c)) 0 + 1) (hT : (Q.treeV l1 x).length = sumLen l1 ps + 1) :
    ∀ (d y : Nat), y + d = ps.length → Ev (fun k => astrolabelaw04_AstDeep.l0 k x ((ps.take y).foldl (fun m c => mx m (Q.deepV l1 c)) 0) ((sumLen l1 (ps.take y) + 1 : Nat) : Int) ps (y : Int) l0 l1) true
  | 0, y, hy => by
    have hb := deepV_le (l1 := l1) x
    have hn := h.s.n1
    refine Ev.step (f := fun _ => some true) (fun k => ?_) (Ev.now _)
    rw [List.take_of_length_le (by omega), astrolabelaw04_AstDeep.l0, if_neg (by omega), h.deep h0 h1, Option.bind_some, w64 (by omega) (by omega), if_pos hD, h.tree2 h0 h1 (Nat.le_trans (Nat.le_of_eq hT) (Nat.le_trans (Nat.succ_le_succ hsum) (by decide))), Option.bind_some, hT, beq_self_eq_true]
  | d + 1, y, hy => by
    have hyl : y < ps.length := by omega
    have hc := hps _ (List.getElem_mem hyl)
    have ht : ps.take (y + 1) = ps.take y ++ [ps[y]] := by rw [List.take_succ_eq_append_getElem hyl]
    have ih := deep_l0 h h0 h1 ps hps hl hsum hD hT d (y + 1) (by omega)
    have hs1 := sumLen_take (l1 := l1) ps (y + 1)
    rw [ht] at ih hs1
    rw [sumLen_snoc] at ih hs1
    rw [List.foldl_append, List.foldl_cons, List.foldl_nil] at ih
    obtain ⟨c, hcc⟩ : ∃ c, ps[y] = c := ⟨_, rfl⟩
    rw [hcc] at ih hs1 hc
    obtain ⟨m, hm⟩ : ∃ m, (ps.take y).foldl (fun m c => mx m (Q.deepV l1 c)) 0 = m := ⟨_, rfl⟩
    rw [hm] at ih ⊢
    refine Ev.step (fun k => ?_) ih
    have e1 : ((sumLen l1 (ps.take y) + 1 : Nat) : Int) + ((Q.treeV l1 c).length : Int) = ((sumLen l1 (ps.take y) + (Q.treeV l1 c).length + 1 : Nat) : Int) := by omega
    have e2 : (y : Int) + 1 = ((y + 1 : Nat) : Int) := by omega
    have e3 : wrap64 (((sumLen l1 (ps.take y) + 1 : Nat) : Int) + ((Q.treeV l1 c).length : Int)) = ((sumLen l1 (ps.take y) + (Q.treeV l1 c).length + 1 : Nat) : Int) := by rw [w64 (by omega) (by omega), e1]
    rw [astrolabelaw04_AstDeep.l0, if_pos (by omega), if_pos (by omega), rd_nat' hyl, hcc, h.deep hc.1 (by omega), h.tree2 hc.1 (by omega) (Nat.le_trans (Nat.le_trans (Nat.le_add_left _ _) hs1) (Nat.le_trans hsum (by decide))), w64 (n := (y : Int) + 1) (by omega) (by omega), e2]
    simp only [Option.bind_some, e3]
    unfold mx
    by_cases hd : m < Q.deepV l1 c
    · rw [if_pos hd, if_pos hd]
    · rw [if_neg hd, if_neg hd]
theorem deep_size {x : Int} (h : Fine l0 l1) (h0 : 0 ≤ x) (h1 : x < (l1.length : Int)) : (Q.treeV l1 x).length = sumLen l1 (partsF (rd_T31 l1 x)) + 1 := by
  rw [h.treeV h0 h1, List.length_cons]
  rfl
end
theorem AstDeep : astrolabelaw04_AstDeep.Pure := by
  intro x a hx ha
  refine Ev.rounds ?_
  obtain ⟨b, hb, hsm⟩ := great_f (Sz.of hx)
  refine Ev.congr (fun k => by rw [astrolabelaw04_AstDeep.f, astrolabelaw04_alive.f, Option.bind_some, if_pos rfl]) (Ev.bind hb ?_)
  have jt : Ev (fun k => astrolabelaw04_AstDeep.j0 k a true x.f0 x.f1) true := Ev.step (f := fun _ => some true) (fun k => by rw [astrolabelaw04_AstDeep.j0, if_pos rfl]) (Ev.now _)
  cases b with
  | true => exact Ev.congr (fun k => by rw [if_pos rfl]) jt
  | false =>
    have hs := hsm rfl
    refine Ev.congr (f := fun k => (some (mayP x.f0 x.f1)).bind fun t235 => (if t235 = true then (if a < 0 then (astrolabelaw04_AstDeep.j0 k a true x.f0 x.f1) else (if a ≥ (x.f1.length : Int) then (astrolabelaw04_AstDeep.j0 k a true x.f0 x.f1) else ((astrolabelaw04_size.f k x.f0 x.f1 a 2000).bind fun t236 => (astrolabelaw04_AstDeep.j0 k a (decide (t236 ≥ 2000)) x.f0 x.f1)))) else (astrolabelaw04_AstDeep.j0 k a true x.f0 x.f1))) (fun k => by
      rw [if_neg (by decide)]
      show (ast_May.f x.f0 x.f1).bind _ = _
      rw [hs.may]) ?_
    cases hm : mayP x.f0 x.f1 with
    | false => exact Ev.congr (fun k => by rw [Option.bind_some, if_neg (by decide)]) jt
    | true =>
      have hf : Fine x.f0 x.f1 := ⟨hs, hm⟩
      by_cases a0 : a < 0
      · exact Ev.congr (fun k => by rw [Option.bind_some, if_pos rfl, if_pos a0]) jt
      · by_cases a1 : a ≥ (x.f1.length : Int)
        · exact Ev.congr (fun k => by rw [Option.bind_some, if_pos rfl, if_neg a0, if_pos a1]) jt
        · have h0 : 0 ≤ a := by omega
          have h1 : a < (x.f1.length : Int) := by omega
          refine Ev.congr (f := fun k => (astrolabelaw04_size.f k x.f0 x.f1 a 2000).bind fun t236 => astrolabelaw04_AstDeep.j0 k a (decide (t236 ≥ 2000)) x.f0 x.f1) (fun k => by rw [Option.bind_some, if_pos rfl, if_neg a0, if_neg a1]) (Ev.bind (hf.size 2000 (by omega) h0 h1) ?_)
          by_cases hbig : 2000 ≤ (Q.treeV x.f1 a).length
          · rw [Nat.min_eq_left hbig]
            exact jt
          · rw [Nat.min_eq_right (by omega), show decide ((((Q.treeV x.f1 a).length : Nat) : Int) ≥ 2000) = false from decide_eq_false (by omega)]
            have hsz := deep_size hf h0 h1
            have k7 := hf.s.x7 _ (rd31_mem h0 h1)
            refine Ev.step (f := fun k => (ast_Parts.f k (rd_T31 x.f1 a).f0 (rd_T31 x.f1 a).f1 (rd_T31 x.f1 a).f2 (rd_T31 x.f1 a).f3 (rd_T31 x.f1 a).f4 (rd_T31 x.f1 a).f5 (rd_T31 x.f1 a).f6 (rd_T31 x.f1 a).f7 (rd_T31 x.f1 a).f8).bind fun ps => astrolabelaw04_AstDeep.l0 k a 0 1 ps 0 x.f0 x.f1) (fun k => by rw [astrolabelaw04_AstDeep.j0, if_neg (by decide), if_pos h0, if_pos h1]) (Ev.bind (parts_ev _ (by omega)) ?_)
            exact deep_l0 hf h0 h1 (partsF (rd_T31 x.f1 a)) (hf.par a h0 h1) (hf.len h0 h1) (by omega) (hf.deepV h0 h1) hsz _ 0 (Nat.zero_add _)
end Go.Proofs.Ytediidkiedifcaa.Q
namespace Go.Proofs.Ytediidkiedifcaa.Pure
theorem AstDeep : Q.astrolabelaw04_AstDeep.Pure := Q.AstDeep
end Go.Proofs.Ytediidkiedifcaa.Pure
