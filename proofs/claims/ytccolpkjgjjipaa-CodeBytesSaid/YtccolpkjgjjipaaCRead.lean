/- The Go functions code.read[int], code.read[int64], code.read[api.Ins], and what they are handed. -/
import Derived.Test.YtccolpkjgjjipaaCRd
import Derived.Deep.RegionHeld3
import Derived.Laws.Rows
namespace Go.Proofs.Ytccolpkjgjjipaa.K
open Go.RowKit Go.Proofs.YtccolpkjgjjipaaW.PrintWords Go.Proofs.YtccolpkjgjjipaaW.PrintLast Go.Proofs.YtccolpkjgjjipaaW.PrintMore
set_option linter.unusedVariables false
set_option linter.unusedSimpArgs false
theorem numGo_le : ∀ (n j : Nat) (x : Int) (bs : List Int), (numGo n j x bs).2.1.length ≤ bs.length
  | 0, _, _, _ => Nat.le_refl _
  | _ + 1, _, _, [] => Nat.le_refl _
  | n + 1, j, x, b :: rest => by
    rw [numGo]
    split
    · simp
    · have := numGo_le n (j + 1) (rdStep x b j) rest
      simp; omega
theorem numF_le (bs : List Int) : (numF bs).2.1.length ≤ bs.length := numGo_le _ _ _ _
/-- One number, as a thing of a list. -/
def oneF (bs : List Int) (bad : Bool) : Int × List Int × Bool := ((numF bs).1, (numF bs).2.1, bad || (numF bs).2.2)
/-- So many things, until the reader is bad. -/
def readGo {α : Type} (one : List Int → Bool → α × List Int × Bool) : Nat → List Int → Bool → List α × List Int × Bool
  | 0, bs, bad => ([], bs, bad)
  | n + 1, bs, bad => if bad = true then ([], bs, true) else ((one bs bad).1 :: (readGo one n (one bs bad).2.1 (one bs bad).2.2).1, (readGo one n (one bs bad).2.1 (one bs bad).2.2).2)
def readF {α : Type} (one : List Int → Bool → α × List Int × Bool) (bs : List Int) (bad : Bool) : List α × List Int × Bool :=
  readGo one (manyF bs bad).1.toNat (manyF bs bad).2.1 (manyF bs bad).2.2
theorem manyF_le (bs : List Int) (bad : Bool) : (manyF bs bad).2.1.length ≤ bs.length := by
  unfold manyF
  split
  · exact numF_le bs
  · exact numF_le bs
theorem manyF_range (bs : List Int) (bad : Bool) : 0 ≤ (manyF bs bad).1 ∧ (manyF bs bad).1 ≤ bs.length := by
  unfold manyF
  have := numF_le bs
  split
  · simp
  · dsimp only; omega
/-- An instruction that is read. -/
def insF (bs : List Int) (bad : Bool) : S47 × List Int × Bool :=
  let a := oneF bs bad
  let b := oneF a.2.1 a.2.2
  let c := oneF b.2.1 b.2.2
  let d := oneF c.2.1 c.2.2
  let e := oneF d.2.1 d.2.2
  let f := oneF e.2.1 e.2.2
  (⟨a.1, b.1, c.1, d.1, e.1, f.1⟩, f.2.1, f.2.2)
/-- The captured variable r. -/
abbrev vR (g6 : Nat) : Value := .pointer (some ⟨g6, 0, none⟩)
abbrev fSmall (g6 : Nat) : Value := .func (.func 29) #[] #[.pointer (some ⟨g6, 0, none⟩)]
set_option maxHeartbeats 4000000 in
theorem small_rd (g6 gr : Nat) (bad : Bool) (w0 wB w : World) (bs : List Int) (hB : Below w0.heap.size w0 w) (hg : w0.heap.size ≤ gr) (h6 : w.heap[g6]? = some (.cells #[.pointer (some ⟨gr, 0, none⟩)] 50 (0, 0))) (hr : Rdr wB w gr bs bad) :
    Calls Try.prog 29 #[.pointer (some ⟨g6, 0, none⟩)] w fun e w' => e = .returned (.int .i64 (oneF bs bad).1) ∧ Rdr wB w' gr (oneF bs bad).2.1 (oneF bs bad).2.2 ∧ Below w0.heap.size w0 w' ∧ Kept w w' (only gr) := by
  have HN := Aside0.mk (number_rd gr bad w0 wB w bs hB hg hr)
  have hc6 := (blk_cell h6 0).trans rfl
  clear hB hr h6
  go_enter Try.func29, Try.ntmps29
  go_wp2_with (go_at_call 30; refine HN.out.mono ?_; rintro e w1 ⟨rfl, hR, hb, hk⟩)
  go_ret
  exact ⟨rfl, hR, hb, hk⟩
set_option maxHeartbeats 4000000 in
theorem rd_ne {wB w : World} {g6 gr : Nat} {cs : Array Value} {t : Nat} {bs : List Int} {bad : Bool} (h6 : w.heap[g6]? = some (.cells cs t (0, 0))) (ht : t ≠ 52) (hr : Rdr wB w gr bs bad) : g6 ≠ gr := by
  obtain ⟨A, c, h, _⟩ := hr.out
  intro e
  subst e
  rw [h6] at h
  injection h with h
  injection h with _ h _
  exact ht h
theorem small_rd2 (g6 gr : Nat) (bad : Bool) {w0 wB w : World} (bs : List Int) {x : Int} {bs' : List Int} {bad' : Bool} (h : oneF bs bad = (x, bs', bad')) (hB : Below w0.heap.size w0 w) (hg : w0.heap.size ≤ gr) (h6 : w.heap[g6]? = some (.cells #[.pointer (some ⟨gr, 0, none⟩)] 50 (0, 0))) (hr : Rdr wB w gr bs bad) :
    Calls Try.prog 29 #[.pointer (some ⟨g6, 0, none⟩)] w fun e w' => e = .returned (.int .i64 x) ∧ Rdr wB w' gr bs' bad' ∧ Below w0.heap.size w0 w' ∧ Kept w w' (only gr) := by
  have := small_rd g6 gr bad w0 wB w bs hB hg h6 hr
  rw [h] at this
  exact this
theorem number_rd2 (gr : Nat) (bad : Bool) {w0 wB w : World} (bs : List Int) {x : Int} {bs' : List Int} {bad' : Bool} (h : oneF bs bad = (x, bs', bad')) (hB : Below w0.heap.size w0 w) (hg : w0.heap.size ≤ gr) (hr : Rdr wB w gr bs bad) :
    Calls Try.prog 30 #[.pointer (some ⟨gr, 0, none⟩)] w fun e w' => e = .returned (.int .i64 x) ∧ Rdr wB w' gr bs' bad' ∧ Below w0.heap.size w0 w' ∧ Kept w w' (only gr) := by
  have := number_rd gr bad w0 wB w bs hB hg hr
  have e1 : (numF bs).1 = x := congrArg (fun z => z.1) h
  have e2 : (numF bs).2.1 = bs' := congrArg (fun z => z.2.1) h
  have e3 : (bad || (numF bs).2.2) = bad' := congrArg (fun z => z.2.2) h
  rw [e1, e2, e3] at this
  exact this
set_option maxHeartbeats 4000000 in
set_option maxRecDepth 100000 in
theorem ins_rd (g7 g6 gr : Nat) (bad : Bool) (w0 wB w : World) (bs : List Int) (hB : Below w0.heap.size w0 w) (hg : w0.heap.size ≤ gr) (h6 : w.heap[g6]? = some (.cells #[.pointer (some ⟨gr, 0, none⟩)] 50 (0, 0))) (h7 : w.heap[g7]? = some (.cells #[fSmall g6] 54 (0, 0))) (hr : Rdr wB w gr bs bad) (hBs : wB.heap.size ≤ w.heap.size) :
    Calls Try.prog 35 #[.pointer (some ⟨g7, 0, none⟩), .pointer (some ⟨g6, 0, none⟩)] w fun e w' => e = .returned (.agg #[.int .i64 (insF bs bad).1.f0, .int .i64 (insF bs bad).1.f1, .int .i64 (insF bs bad).1.f2, .int .i64 (insF bs bad).1.f3, .int .i64 (insF bs bad).1.f4, .int .i64 (insF bs bad).1.f5]) ∧ Rdr wB w' gr (insF bs bad).2.1 (insF bs bad).2.2 ∧ Below w0.heap.size w0 w' ∧ Kept w w' (only gr) := by
  obtain ⟨x0, b0, q0, e0⟩ : ∃ x b q, oneF bs bad = (x, b, q) := ⟨_, _, _, rfl⟩
  obtain ⟨x1, b1, q1, e1⟩ : ∃ x b q, oneF b0 q0 = (x, b, q) := ⟨_, _, _, rfl⟩
  obtain ⟨x2, b2, q2, e2⟩ : ∃ x b q, oneF b1 q1 = (x, b, q) := ⟨_, _, _, rfl⟩
  obtain ⟨x3, b3, q3, e3⟩ : ∃ x b q, oneF b2 q2 = (x, b, q) := ⟨_, _, _, rfl⟩
  obtain ⟨x4, b4, q4, e4⟩ : ∃ x b q, oneF b3 q3 = (x, b, q) := ⟨_, _, _, rfl⟩
  obtain ⟨x5, b5, q5, e5⟩ : ∃ x b q, oneF b4 q4 = (x, b, q) := ⟨_, _, _, rfl⟩
  have eI : insF bs bad = (⟨x0, x1, x2, x3, x4, x5⟩, b5, q5) := by
    unfold insF
    simp only [e0, e1, e2, e3, e4, e5]
  rw [eI]
  have H0 := Aside0.mk e0
  have H1 := Aside0.mk e1
  have H2 := Aside0.mk e2
  have H3 := Aside0.mk e3
  have H4 := Aside0.mk e4
  have H5 := Aside0.mk e5
  have n6 := rd_ne h6 (by decide) hr
  have n7 := rd_ne h7 (by decide) hr
  have l6 := blk_lt h6
  have l7 := blk_lt h7
  have u6 : g6 ≠ w.heap.size := by omega
  have u7 : g7 ≠ w.heap.size := by omega
  have v6 : w.heap.size ≠ g6 := by omega
  have v7 : w.heap.size ≠ g7 := by omega
  have lr : gr < w.heap.size := by obtain ⟨A, c, h, _⟩ := hr.out; exact blk_lt h
  have HB := Aside0.mk hB
  have HR := Aside0.mk hr
  have K6 := Aside0.mk h6
  have K7 := Aside0.mk h7
  clear e0 e1 e2 e3 e4 e5 eI hB hr h6 h7
  go_enter Try.func35, Try.ntmps35
  go_wp2_with fail
  have kd := Kept.drew (Kept.alloc (Kept.refl w (fun _ => False)) (Obj.cells #[.int .i64 0, .int .i64 0, .int .i64 0, .int .i64 0, .int .i64 0, .int .i64 0] 47))
  have hR := HR.out.step kd (fun _ e => e.elim) (fun e => e)
  have hB := below_drew1 (HB.out.alloc HB.out.size (Obj.cells #[.int .i64 0, .int .i64 0, .int .i64 0, .int .i64 0, .int .i64 0, .int .i64 0] 47))
  have k6 := Aside0.mk (blk_kept K6.out kd (fun e => e))
  have k7 := Aside0.mk (blk_kept K7.out kd (fun e => e))
  have kX := Aside0.mk (blk_drew (blk_new w (Obj.cells #[.int .i64 0, .int .i64 0, .int .i64 0, .int .i64 0, .int .i64 0, .int .i64 0] 47)))
  have kk := kd.mono (S' := only gr) (fun _ e => e.elim)
  have c6s : (w.alloc (Obj.cells #[.int .i64 0, .int .i64 0, .int .i64 0, .int .i64 0, .int .i64 0, .int .i64 0] 47)).drew.cell? ⟨g6, 0, none⟩ = some (.pointer (some ⟨gr, 0, none⟩)) := (blk_cell k6.out 0).trans rfl
  have c7s : (w.alloc (Obj.cells #[.int .i64 0, .int .i64 0, .int .i64 0, .int .i64 0, .int .i64 0, .int .i64 0] 47)).drew.cell? ⟨g7, 0, none⟩ = some (fSmall g6) := (blk_cell k7.out 0).trans rfl
  have z0s : (w.alloc (Obj.cells #[.int .i64 0, .int .i64 0, .int .i64 0, .int .i64 0, .int .i64 0, .int .i64 0] 47)).drew.cell? ⟨w.heap.size, 0, none⟩ = some (.int .i64 0) := (blk_cell kX.out 0).trans rfl
  have z1s : (w.alloc (Obj.cells #[.int .i64 0, .int .i64 0, .int .i64 0, .int .i64 0, .int .i64 0, .int .i64 0] 47)).drew.cell? ⟨w.heap.size, 1, none⟩ = some (.int .i64 0) := (blk_cell kX.out 1).trans rfl
  have z2s : (w.alloc (Obj.cells #[.int .i64 0, .int .i64 0, .int .i64 0, .int .i64 0, .int .i64 0, .int .i64 0] 47)).drew.cell? ⟨w.heap.size, 2, none⟩ = some (.int .i64 0) := (blk_cell kX.out 2).trans rfl
  have z3s : (w.alloc (Obj.cells #[.int .i64 0, .int .i64 0, .int .i64 0, .int .i64 0, .int .i64 0, .int .i64 0] 47)).drew.cell? ⟨w.heap.size, 3, none⟩ = some (.int .i64 0) := (blk_cell kX.out 3).trans rfl
  have z4s : (w.alloc (Obj.cells #[.int .i64 0, .int .i64 0, .int .i64 0, .int .i64 0, .int .i64 0, .int .i64 0] 47)).drew.cell? ⟨w.heap.size, 4, none⟩ = some (.int .i64 0) := (blk_cell kX.out 4).trans rfl
  have z5s : (w.alloc (Obj.cells #[.int .i64 0, .int .i64 0, .int .i64 0, .int .i64 0, .int .i64 0, .int .i64 0] 47)).drew.cell? ⟨w.heap.size, 5, none⟩ = some (.int .i64 0) := (blk_cell kX.out 5).trans rfl
  have y0s : (w.alloc (Obj.cells #[.int .i64 0, .int .i64 0, .int .i64 0, .int .i64 0, .int .i64 0, .int .i64 0] 47)).drew.frozen? ⟨w.heap.size, 0, none⟩ = false := blk_frozen kX.out 0
  have y1s : (w.alloc (Obj.cells #[.int .i64 0, .int .i64 0, .int .i64 0, .int .i64 0, .int .i64 0, .int .i64 0] 47)).drew.frozen? ⟨w.heap.size, 1, none⟩ = false := blk_frozen kX.out 1
  have y2s : (w.alloc (Obj.cells #[.int .i64 0, .int .i64 0, .int .i64 0, .int .i64 0, .int .i64 0, .int .i64 0] 47)).drew.frozen? ⟨w.heap.size, 2, none⟩ = false := blk_frozen kX.out 2
  have y3s : (w.alloc (Obj.cells #[.int .i64 0, .int .i64 0, .int .i64 0, .int .i64 0, .int .i64 0, .int .i64 0] 47)).drew.frozen? ⟨w.heap.size, 3, none⟩ = false := blk_frozen kX.out 3
  have y4s : (w.alloc (Obj.cells #[.int .i64 0, .int .i64 0, .int .i64 0, .int .i64 0, .int .i64 0, .int .i64 0] 47)).drew.frozen? ⟨w.heap.size, 4, none⟩ = false := blk_frozen kX.out 4
  have y5s : (w.alloc (Obj.cells #[.int .i64 0, .int .i64 0, .int .i64 0, .int .i64 0, .int .i64 0, .int .i64 0] 47)).drew.frozen? ⟨w.heap.size, 5, none⟩ = false := blk_frozen kX.out 5
  go_region_held3 (fun w' => w'.cell? ⟨g6, 0, none⟩ = some (.pointer (some ⟨gr, 0, none⟩)) ∧ w'.cell? ⟨g7, 0, none⟩ = some (fSmall g6)) (go_keep) (first | (go_at_call 29; ((with_reducible refine (small_rd2 g6 gr bad bs H0.out hB hg k6.out hR).mono ?_); rintro e wa ⟨rfl, hR, hB, hk⟩; have k6 := Aside0.mk (blk_kept k6.out hk n6); have k7 := Aside0.mk (blk_kept k7.out hk n7); have kX := Aside0.mk (blk_kept kX.out hk (by show ¬ w.heap.size = gr; omega)); have kk := kk.then_ hk (fun _ e => .inl e); have c6a : wa.cell? ⟨g6, 0, none⟩ = some (.pointer (some ⟨gr, 0, none⟩)) := (blk_cell k6.out 0).trans rfl; have c7a : wa.cell? ⟨g7, 0, none⟩ = some (fSmall g6) := (blk_cell k7.out 0).trans rfl; have z0a : wa.cell? ⟨w.heap.size, 0, none⟩ = some (.int .i64 0) := (blk_cell kX.out 0).trans rfl; have z1a : wa.cell? ⟨w.heap.size, 1, none⟩ = some (.int .i64 0) := (blk_cell kX.out 1).trans rfl; have z2a : wa.cell? ⟨w.heap.size, 2, none⟩ = some (.int .i64 0) := (blk_cell kX.out 2).trans rfl; have z3a : wa.cell? ⟨w.heap.size, 3, none⟩ = some (.int .i64 0) := (blk_cell kX.out 3).trans rfl; have z4a : wa.cell? ⟨w.heap.size, 4, none⟩ = some (.int .i64 0) := (blk_cell kX.out 4).trans rfl; have z5a : wa.cell? ⟨w.heap.size, 5, none⟩ = some (.int .i64 0) := (blk_cell kX.out 5).trans rfl; have y0a : wa.frozen? ⟨w.heap.size, 0, none⟩ = false := blk_frozen kX.out 0; have y1a : wa.frozen? ⟨w.heap.size, 1, none⟩ = false := blk_frozen kX.out 1; have y2a : wa.frozen? ⟨w.heap.size, 2, none⟩ = false := blk_frozen kX.out 2; have y3a : wa.frozen? ⟨w.heap.size, 3, none⟩ = false := blk_frozen kX.out 3; have y4a : wa.frozen? ⟨w.heap.size, 4, none⟩ = false := blk_frozen kX.out 4; have y5a : wa.frozen? ⟨w.heap.size, 5, none⟩ = false := blk_frozen kX.out 5)) | (go_at_call 29; ((with_reducible refine (small_rd2 g6 gr q0 b0 H1.out hB hg k6.out hR).mono ?_); rintro e wa ⟨rfl, hR, hB, hk⟩; have k6 := Aside0.mk (blk_kept k6.out hk n6); have k7 := Aside0.mk (blk_kept k7.out hk n7); have kX := Aside0.mk (blk_kept kX.out hk (by show ¬ w.heap.size = gr; omega)); have kk := kk.then_ hk (fun _ e => .inl e); have c6a : wa.cell? ⟨g6, 0, none⟩ = some (.pointer (some ⟨gr, 0, none⟩)) := (blk_cell k6.out 0).trans rfl; have c7a : wa.cell? ⟨g7, 0, none⟩ = some (fSmall g6) := (blk_cell k7.out 0).trans rfl; have z0a : wa.cell? ⟨w.heap.size, 0, none⟩ = some (.int .i64 0) := (blk_cell kX.out 0).trans rfl; have z1a : wa.cell? ⟨w.heap.size, 1, none⟩ = some (.int .i64 0) := (blk_cell kX.out 1).trans rfl; have z2a : wa.cell? ⟨w.heap.size, 2, none⟩ = some (.int .i64 0) := (blk_cell kX.out 2).trans rfl; have z3a : wa.cell? ⟨w.heap.size, 3, none⟩ = some (.int .i64 0) := (blk_cell kX.out 3).trans rfl; have z4a : wa.cell? ⟨w.heap.size, 4, none⟩ = some (.int .i64 0) := (blk_cell kX.out 4).trans rfl; have z5a : wa.cell? ⟨w.heap.size, 5, none⟩ = some (.int .i64 0) := (blk_cell kX.out 5).trans rfl; have y0a : wa.frozen? ⟨w.heap.size, 0, none⟩ = false := blk_frozen kX.out 0; have y1a : wa.frozen? ⟨w.heap.size, 1, none⟩ = false := blk_frozen kX.out 1; have y2a : wa.frozen? ⟨w.heap.size, 2, none⟩ = false := blk_frozen kX.out 2; have y3a : wa.frozen? ⟨w.heap.size, 3, none⟩ = false := blk_frozen kX.out 3; have y4a : wa.frozen? ⟨w.heap.size, 4, none⟩ = false := blk_frozen kX.out 4; have y5a : wa.frozen? ⟨w.heap.size, 5, none⟩ = false := blk_frozen kX.out 5)) | (go_at_call 29; ((with_reducible refine (small_rd2 g6 gr q1 b1 H2.out hB hg k6.out hR).mono ?_); rintro e wa ⟨rfl, hR, hB, hk⟩; have k6 := Aside0.mk (blk_kept k6.out hk n6); have k7 := Aside0.mk (blk_kept k7.out hk n7); have kX := Aside0.mk (blk_kept kX.out hk (by show ¬ w.heap.size = gr; omega)); have kk := kk.then_ hk (fun _ e => .inl e); have c6a : wa.cell? ⟨g6, 0, none⟩ = some (.pointer (some ⟨gr, 0, none⟩)) := (blk_cell k6.out 0).trans rfl; have c7a : wa.cell? ⟨g7, 0, none⟩ = some (fSmall g6) := (blk_cell k7.out 0).trans rfl; have z0a : wa.cell? ⟨w.heap.size, 0, none⟩ = some (.int .i64 0) := (blk_cell kX.out 0).trans rfl; have z1a : wa.cell? ⟨w.heap.size, 1, none⟩ = some (.int .i64 0) := (blk_cell kX.out 1).trans rfl; have z2a : wa.cell? ⟨w.heap.size, 2, none⟩ = some (.int .i64 0) := (blk_cell kX.out 2).trans rfl; have z3a : wa.cell? ⟨w.heap.size, 3, none⟩ = some (.int .i64 0) := (blk_cell kX.out 3).trans rfl; have z4a : wa.cell? ⟨w.heap.size, 4, none⟩ = some (.int .i64 0) := (blk_cell kX.out 4).trans rfl; have z5a : wa.cell? ⟨w.heap.size, 5, none⟩ = some (.int .i64 0) := (blk_cell kX.out 5).trans rfl; have y0a : wa.frozen? ⟨w.heap.size, 0, none⟩ = false := blk_frozen kX.out 0; have y1a : wa.frozen? ⟨w.heap.size, 1, none⟩ = false := blk_frozen kX.out 1; have y2a : wa.frozen? ⟨w.heap.size, 2, none⟩ = false := blk_frozen kX.out 2; have y3a : wa.frozen? ⟨w.heap.size, 3, none⟩ = false := blk_frozen kX.out 3; have y4a : wa.frozen? ⟨w.heap.size, 4, none⟩ = false := blk_frozen kX.out 4; have y5a : wa.frozen? ⟨w.heap.size, 5, none⟩ = false := blk_frozen kX.out 5)) | (go_at_call 29; ((with_reducible refine (small_rd2 g6 gr q2 b2 H3.out hB hg k6.out hR).mono ?_); rintro e wa ⟨rfl, hR, hB, hk⟩; have k6 := Aside0.mk (blk_kept k6.out hk n6); have k7 := Aside0.mk (blk_kept k7.out hk n7); have kX := Aside0.mk (blk_kept kX.out hk (by show ¬ w.heap.size = gr; omega)); have kk := kk.then_ hk (fun _ e => .inl e); have c6a : wa.cell? ⟨g6, 0, none⟩ = some (.pointer (some ⟨gr, 0, none⟩)) := (blk_cell k6.out 0).trans rfl; have c7a : wa.cell? ⟨g7, 0, none⟩ = some (fSmall g6) := (blk_cell k7.out 0).trans rfl; have z0a : wa.cell? ⟨w.heap.size, 0, none⟩ = some (.int .i64 0) := (blk_cell kX.out 0).trans rfl; have z1a : wa.cell? ⟨w.heap.size, 1, none⟩ = some (.int .i64 0) := (blk_cell kX.out 1).trans rfl; have z2a : wa.cell? ⟨w.heap.size, 2, none⟩ = some (.int .i64 0) := (blk_cell kX.out 2).trans rfl; have z3a : wa.cell? ⟨w.heap.size, 3, none⟩ = some (.int .i64 0) := (blk_cell kX.out 3).trans rfl; have z4a : wa.cell? ⟨w.heap.size, 4, none⟩ = some (.int .i64 0) := (blk_cell kX.out 4).trans rfl; have z5a : wa.cell? ⟨w.heap.size, 5, none⟩ = some (.int .i64 0) := (blk_cell kX.out 5).trans rfl; have y0a : wa.frozen? ⟨w.heap.size, 0, none⟩ = false := blk_frozen kX.out 0; have y1a : wa.frozen? ⟨w.heap.size, 1, none⟩ = false := blk_frozen kX.out 1; have y2a : wa.frozen? ⟨w.heap.size, 2, none⟩ = false := blk_frozen kX.out 2; have y3a : wa.frozen? ⟨w.heap.size, 3, none⟩ = false := blk_frozen kX.out 3; have y4a : wa.frozen? ⟨w.heap.size, 4, none⟩ = false := blk_frozen kX.out 4; have y5a : wa.frozen? ⟨w.heap.size, 5, none⟩ = false := blk_frozen kX.out 5)) | (go_at_call 29; ((with_reducible refine (small_rd2 g6 gr q3 b3 H4.out hB hg k6.out hR).mono ?_); rintro e wa ⟨rfl, hR, hB, hk⟩; have k6 := Aside0.mk (blk_kept k6.out hk n6); have k7 := Aside0.mk (blk_kept k7.out hk n7); have kX := Aside0.mk (blk_kept kX.out hk (by show ¬ w.heap.size = gr; omega)); have kk := kk.then_ hk (fun _ e => .inl e); have c6a : wa.cell? ⟨g6, 0, none⟩ = some (.pointer (some ⟨gr, 0, none⟩)) := (blk_cell k6.out 0).trans rfl; have c7a : wa.cell? ⟨g7, 0, none⟩ = some (fSmall g6) := (blk_cell k7.out 0).trans rfl; have z0a : wa.cell? ⟨w.heap.size, 0, none⟩ = some (.int .i64 0) := (blk_cell kX.out 0).trans rfl; have z1a : wa.cell? ⟨w.heap.size, 1, none⟩ = some (.int .i64 0) := (blk_cell kX.out 1).trans rfl; have z2a : wa.cell? ⟨w.heap.size, 2, none⟩ = some (.int .i64 0) := (blk_cell kX.out 2).trans rfl; have z3a : wa.cell? ⟨w.heap.size, 3, none⟩ = some (.int .i64 0) := (blk_cell kX.out 3).trans rfl; have z4a : wa.cell? ⟨w.heap.size, 4, none⟩ = some (.int .i64 0) := (blk_cell kX.out 4).trans rfl; have z5a : wa.cell? ⟨w.heap.size, 5, none⟩ = some (.int .i64 0) := (blk_cell kX.out 5).trans rfl; have y0a : wa.frozen? ⟨w.heap.size, 0, none⟩ = false := blk_frozen kX.out 0; have y1a : wa.frozen? ⟨w.heap.size, 1, none⟩ = false := blk_frozen kX.out 1; have y2a : wa.frozen? ⟨w.heap.size, 2, none⟩ = false := blk_frozen kX.out 2; have y3a : wa.frozen? ⟨w.heap.size, 3, none⟩ = false := blk_frozen kX.out 3; have y4a : wa.frozen? ⟨w.heap.size, 4, none⟩ = false := blk_frozen kX.out 4; have y5a : wa.frozen? ⟨w.heap.size, 5, none⟩ = false := blk_frozen kX.out 5)) | (go_at_call 30; ((with_reducible refine (number_rd2 gr q4 b4 H5.out hB hg hR).mono ?_); rintro e wa ⟨rfl, hR, hB, hk⟩; have k6 := Aside0.mk (blk_kept k6.out hk n6); have k7 := Aside0.mk (blk_kept k7.out hk n7); have kX := Aside0.mk (blk_kept kX.out hk (by show ¬ w.heap.size = gr; omega)); have kk := kk.then_ hk (fun _ e => .inl e); have c6a : wa.cell? ⟨g6, 0, none⟩ = some (.pointer (some ⟨gr, 0, none⟩)) := (blk_cell k6.out 0).trans rfl; have c7a : wa.cell? ⟨g7, 0, none⟩ = some (fSmall g6) := (blk_cell k7.out 0).trans rfl; have z0a : wa.cell? ⟨w.heap.size, 0, none⟩ = some (.int .i64 0) := (blk_cell kX.out 0).trans rfl; have z1a : wa.cell? ⟨w.heap.size, 1, none⟩ = some (.int .i64 0) := (blk_cell kX.out 1).trans rfl; have z2a : wa.cell? ⟨w.heap.size, 2, none⟩ = some (.int .i64 0) := (blk_cell kX.out 2).trans rfl; have z3a : wa.cell? ⟨w.heap.size, 3, none⟩ = some (.int .i64 0) := (blk_cell kX.out 3).trans rfl; have z4a : wa.cell? ⟨w.heap.size, 4, none⟩ = some (.int .i64 0) := (blk_cell kX.out 4).trans rfl; have z5a : wa.cell? ⟨w.heap.size, 5, none⟩ = some (.int .i64 0) := (blk_cell kX.out 5).trans rfl; have y0a : wa.frozen? ⟨w.heap.size, 0, none⟩ = false := blk_frozen kX.out 0; have y1a : wa.frozen? ⟨w.heap.size, 1, none⟩ = false := blk_frozen kX.out 1; have y2a : wa.frozen? ⟨w.heap.size, 2, none⟩ = false := blk_frozen kX.out 2; have y3a : wa.frozen? ⟨w.heap.size, 3, none⟩ = false := blk_frozen kX.out 3; have y4a : wa.frozen? ⟨w.heap.size, 4, none⟩ = false := blk_frozen kX.out 4; have y5a : wa.frozen? ⟨w.heap.size, 5, none⟩ = false := blk_frozen kX.out 5)))
  go_wp2
  have hX := blk_set (blk_set (blk_set (blk_set (blk_set (blk_set kX.out 0 (.int .i64 x0)) 1 (.int .i64 x1)) 2 (.int .i64 x2)) 3 (.int .i64 x3)) 4 (.int .i64 x4)) 5 (.int .i64 x5)
  have hKX := ((((((Kept.refl wa (fun k => k = w.heap.size)).setCell (p := ⟨w.heap.size, 0, none⟩) (.inl rfl) (.int .i64 x0)).setCell (p := ⟨w.heap.size, 1, none⟩) (.inl rfl) (.int .i64 x1)).setCell (p := ⟨w.heap.size, 2, none⟩) (.inl rfl) (.int .i64 x2)).setCell (p := ⟨w.heap.size, 3, none⟩) (.inl rfl) (.int .i64 x3)).setCell (p := ⟨w.heap.size, 4, none⟩) (.inl rfl) (.int .i64 x4)).setCell (p := ⟨w.heap.size, 5, none⟩) (.inl rfl) (.int .i64 x5)
  have hle : w0.heap.size ≤ w.heap.size := HB.out.size
  refine bodyPost_ret (results_cell_row rfl _ _ w.heap.size 47 #[.int .i64 x0, .int .i64 x1, .int .i64 x2, .int .i64 x3, .int .i64 x4, .int .i64 x5] (0, 0) _ rfl (hX.trans rfl) Try.underlying47 rfl (by kernel_rfl)) rfl ⟨rfl, hR.step hKX (fun k e => by rw [e]; exact hBs) (by show ¬ gr = w.heap.size; omega), ?_, kk.then_ hKX (fun k e => .inr (by rw [e]; exact Nat.le_refl _))⟩
  exact (((((hB.setCell (p := ⟨w.heap.size, 0, none⟩) hle _).setCell (p := ⟨w.heap.size, 1, none⟩) hle _).setCell (p := ⟨w.heap.size, 2, none⟩) hle _).setCell (p := ⟨w.heap.size, 3, none⟩) hle _).setCell (p := ⟨w.heap.size, 4, none⟩) hle _).setCell (p := ⟨w.heap.size, 5, none⟩) hle _
#print axioms ins_rd
end Go.Proofs.Ytccolpkjgjjipaa.K
