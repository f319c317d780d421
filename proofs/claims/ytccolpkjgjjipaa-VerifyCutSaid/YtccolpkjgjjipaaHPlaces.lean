/- The Go function verify.places. -/
import Derived.Test.YtccolpkjgjjipaaHVer0
namespace Go.Proofs.Ytccolpkjgjjipaa.Q
set_option linter.unusedSimpArgs false
open Go.RowKit Go.Proofs.YtccolpkjgjjipaaW.PrintWords Go.Proofs.YtccolpkjgjjipaaW.PrintLast Go.Proofs.YtccolpkjgjjipaaW.PrintMore

def placeD (nOut nState nMem : Nat) (cross piece op : Int) : Int := if op = 21 then nMem else if op = 22 then nState else if op = 20 then (if piece = 0 then nState else if piece = 1 then (if 0 < cross then cross else 0) else if piece = 3 then nOut else 0) else -1
def placeA (nIn nState nMem : Nat) (cross op : Int) : Int := if op = 2 then nIn else if op = 3 then nState else if op = 4 then nMem else if op = 5 then (if 0 < cross then cross else 0) else -1
def placeB (behind op : Int) : Int := if op = 19 then wrap64 (behind + 1) else -1
theorem blk4_third (w : World) (A B C D : Obj) : ((((w.alloc A).alloc B).alloc C).alloc D).heap[w.heap.size + 1 + 1]? = some C := by
  have h := blk_fresh ((w.alloc A).alloc B) C
  simp only [World.size_alloc] at h
  exact blk_elder h D
theorem below4 (w : World) (A B C D : Obj) : Below w.heap.size w ((((w.alloc A).alloc B).alloc C).alloc D) :=
  ((((Below.refl _ _).alloc (Nat.le_refl _) _).alloc (by simp) _).alloc (by simp; omega) _).alloc (by simp; omega) _
set_option maxHeartbeats 4000000 in
set_option maxRecDepth 20000 in
theorem places_any (s0 s1 s2 s3 : Option Addr) (n0 c0 n1 c1 n2 c2 n3 c3 : Nat) (cross a5 : Int) (a6 a7 a8 a9 : Value) (piece : Int) (op d a b c v : Int) (behind : Int) (w : World) (hp : op = 20 → piece = 0 ∨ piece = 1 ∨ piece = 3) :
    Calls Try.prog 73 #[.agg #[.slice s0 n0 c0, .slice s1 n1 c1, .slice s2 n2 c2, .slice s3 n3 c3, .int .i64 cross, .int .i64 a5, a6, a7, a8, a9], .int .i64 piece, .agg #[.int .i64 op, .int .i64 d, .int .i64 a, .int .i64 b, .int .i64 c, .int .i64 v], .int .i64 behind] w
      fun e w' => e = .returned (.agg #[.int .i64 (placeD n1 n2 n3 cross piece op), .int .i64 (placeA n0 n2 n3 cross op), .int .i64 (placeB behind op)]) ∧ Below w.heap.size w w' := by
  have hix0 : ∀ (x y z t : Value) (w : World), (Instr.index 101 (.agg #[x, y, z, t]) (.int .i64 0)).run Try.prog w = .ok x w := fun _ _ _ _ _ => by kernel_rfl
  have hix1 : ∀ (x y z t : Value) (w : World), (Instr.index 101 (.agg #[x, y, z, t]) (.int .i64 1)).run Try.prog w = .ok y w := fun _ _ _ _ _ => by kernel_rfl
  have hix3 : ∀ (x y z t : Value) (w : World), (Instr.index 101 (.agg #[x, y, z, t]) (.int .i64 3)).run Try.prog w = .ok t w := fun _ _ _ _ _ => by kernel_rfl
  by_cases h2 : op = 2
  · subst h2
    clear hp hix0 hix1 hix3
    have ED := Aside0.mk (show placeD n1 n2 n3 cross piece 2 = -1 by simp [placeD])
    have EA := Aside0.mk (show placeA n0 n2 n3 cross 2 = n0 by simp [placeA])
    have EB := Aside0.mk (show placeB behind 2 = -1 by simp [placeB])
    go_enter Try.func73, Try.ntmps73
    go_wp2
    refine bodyPost_ret (results_cell_row rfl _ _ (w.heap.size + 1 + 1) 98 #[.int .i64 (-1), .int .i64 (n0), .int .i64 (-1)] (0, 0) _ rfl (blk4_third _ _ _ _ _) Try.underlying98 rfl (by kernel_rfl)) rfl ?_
    exact ⟨by rw [ED.out, EA.out, EB.out], below4 _ _ _ _ _⟩
  by_cases h3 : op = 3
  · subst h3
    clear hp hix0 hix1 hix3
    have ED := Aside0.mk (show placeD n1 n2 n3 cross piece 3 = -1 by simp [placeD])
    have EA := Aside0.mk (show placeA n0 n2 n3 cross 3 = n2 by simp [placeA])
    have EB := Aside0.mk (show placeB behind 3 = -1 by simp [placeB])
    go_enter Try.func73, Try.ntmps73
    go_wp2
    refine bodyPost_ret (results_cell_row rfl _ _ (w.heap.size + 1 + 1) 98 #[.int .i64 (-1), .int .i64 (n2), .int .i64 (-1)] (0, 0) _ rfl (blk4_third _ _ _ _ _) Try.underlying98 rfl (by kernel_rfl)) rfl ?_
    exact ⟨by rw [ED.out, EA.out, EB.out], below4 _ _ _ _ _⟩
  by_cases h4 : op = 4
  · subst h4
    clear hp hix0 hix1 hix3
    have ED := Aside0.mk (show placeD n1 n2 n3 cross piece 4 = -1 by simp [placeD])
    have EA := Aside0.mk (show placeA n0 n2 n3 cross 4 = n3 by simp [placeA])
    have EB := Aside0.mk (show placeB behind 4 = -1 by simp [placeB])
    go_enter Try.func73, Try.ntmps73
    go_wp2
    refine bodyPost_ret (results_cell_row rfl _ _ (w.heap.size + 1 + 1) 98 #[.int .i64 (-1), .int .i64 (n3), .int .i64 (-1)] (0, 0) _ rfl (blk4_third _ _ _ _ _) Try.underlying98 rfl (by kernel_rfl)) rfl ?_
    exact ⟨by rw [ED.out, EA.out, EB.out], below4 _ _ _ _ _⟩
  by_cases h5 : op = 5
  · subst h5
    clear hp hix0 hix1 hix3
    by_cases hc : 0 < cross
    · have hc2 : ¬ cross ≤ 0 := by omega
      have ED := Aside0.mk (show placeD n1 n2 n3 cross piece 5 = -1 by simp [placeD, hc])
      have EA := Aside0.mk (show placeA n0 n2 n3 cross 5 = cross by simp [placeA, hc])
      have EB := Aside0.mk (show placeB behind 5 = -1 by simp [placeB])
      go_enter Try.func73, Try.ntmps73
      go_wp2
      refine bodyPost_ret (results_cell_row rfl _ _ (w.heap.size + 1 + 1) 98 #[.int .i64 (-1), .int .i64 (cross), .int .i64 (-1)] (0, 0) _ rfl (blk4_third _ _ _ _ _) Try.underlying98 rfl (by kernel_rfl)) rfl ?_
      exact ⟨by rw [ED.out, EA.out, EB.out], below4 _ _ _ _ _⟩
    · have hc2 : cross ≤ 0 := by omega
      have ED := Aside0.mk (show placeD n1 n2 n3 cross piece 5 = -1 by simp [placeD, hc])
      have EA := Aside0.mk (show placeA n0 n2 n3 cross 5 = 0 by simp [placeA, hc])
      have EB := Aside0.mk (show placeB behind 5 = -1 by simp [placeB])
      go_enter Try.func73, Try.ntmps73
      go_wp2
      refine bodyPost_ret (results_cell_row rfl _ _ (w.heap.size + 1 + 1) 98 #[.int .i64 (-1), .int .i64 (0), .int .i64 (-1)] (0, 0) _ rfl (blk4_third _ _ _ _ _) Try.underlying98 rfl (by kernel_rfl)) rfl ?_
      exact ⟨by rw [ED.out, EA.out, EB.out], below4 _ _ _ _ _⟩
  by_cases h21 : op = 21
  · subst h21
    clear hp hix0 hix1 hix3
    have ED := Aside0.mk (show placeD n1 n2 n3 cross piece 21 = n3 by simp [placeD])
    have EA := Aside0.mk (show placeA n0 n2 n3 cross 21 = -1 by simp [placeA])
    have EB := Aside0.mk (show placeB behind 21 = -1 by simp [placeB])
    go_enter Try.func73, Try.ntmps73
    go_wp2
    refine bodyPost_ret (results_cell_row rfl _ _ (w.heap.size + 1 + 1) 98 #[.int .i64 (n3), .int .i64 (-1), .int .i64 (-1)] (0, 0) _ rfl (blk4_third _ _ _ _ _) Try.underlying98 rfl (by kernel_rfl)) rfl ?_
    exact ⟨by rw [ED.out, EA.out, EB.out], below4 _ _ _ _ _⟩
  by_cases h22 : op = 22
  · subst h22
    clear hp hix0 hix1 hix3
    have ED := Aside0.mk (show placeD n1 n2 n3 cross piece 22 = n2 by simp [placeD])
    have EA := Aside0.mk (show placeA n0 n2 n3 cross 22 = -1 by simp [placeA])
    have EB := Aside0.mk (show placeB behind 22 = -1 by simp [placeB])
    go_enter Try.func73, Try.ntmps73
    go_wp2
    refine bodyPost_ret (results_cell_row rfl _ _ (w.heap.size + 1 + 1) 98 #[.int .i64 (n2), .int .i64 (-1), .int .i64 (-1)] (0, 0) _ rfl (blk4_third _ _ _ _ _) Try.underlying98 rfl (by kernel_rfl)) rfl ?_
    exact ⟨by rw [ED.out, EA.out, EB.out], below4 _ _ _ _ _⟩
  by_cases h19 : op = 19
  · subst h19
    clear hp hix0 hix1 hix3
    have ED := Aside0.mk (show placeD n1 n2 n3 cross piece 19 = -1 by simp [placeD])
    have EA := Aside0.mk (show placeA n0 n2 n3 cross 19 = -1 by simp [placeA])
    have EB := Aside0.mk (show placeB behind 19 = wrap64 (behind + 1) by simp [placeB])
    go_enter Try.func73, Try.ntmps73
    go_wp2
    refine bodyPost_ret (results_cell_row rfl _ _ (w.heap.size + 1 + 1) 98 #[.int .i64 (-1), .int .i64 (-1), .int .i64 (wrap64 (behind + 1))] (0, 0) _ rfl (blk4_third _ _ _ _ _) Try.underlying98 rfl (by kernel_rfl)) rfl ?_
    exact ⟨by rw [ED.out, EA.out, EB.out], below4 _ _ _ _ _⟩
  by_cases h20 : op = 20
  · subst h20
    by_cases hc : 0 < cross
    · have hc2 : ¬ cross ≤ 0 := by omega
      rcases hp rfl with rfl | rfl | rfl
      · clear hp
        have ED := Aside0.mk (show placeD n1 n2 n3 cross 0 20 = n2 by simp [placeD, hc])
        have EA := Aside0.mk (show placeA n0 n2 n3 cross 20 = -1 by simp [placeA, hc])
        have EB := Aside0.mk (show placeB behind 20 = -1 by simp [placeB])
        go_enter Try.func73, Try.ntmps73
        go_wp2
        refine bodyPost_ret (results_cell_row rfl _ _ (w.heap.size + 1 + 1) 98 #[.int .i64 (n2), .int .i64 (-1), .int .i64 (-1)] (0, 0) _ rfl (blk4_third _ _ _ _ _) Try.underlying98 rfl (by kernel_rfl)) rfl ?_
        exact ⟨by rw [ED.out, EA.out, EB.out], below4 _ _ _ _ _⟩
      · clear hp
        have ED := Aside0.mk (show placeD n1 n2 n3 cross 1 20 = cross by simp [placeD, hc])
        have EA := Aside0.mk (show placeA n0 n2 n3 cross 20 = -1 by simp [placeA, hc])
        have EB := Aside0.mk (show placeB behind 20 = -1 by simp [placeB])
        go_enter Try.func73, Try.ntmps73
        go_wp2
        refine bodyPost_ret (results_cell_row rfl _ _ (w.heap.size + 1 + 1) 98 #[.int .i64 (cross), .int .i64 (-1), .int .i64 (-1)] (0, 0) _ rfl (blk4_third _ _ _ _ _) Try.underlying98 rfl (by kernel_rfl)) rfl ?_
        exact ⟨by rw [ED.out, EA.out, EB.out], below4 _ _ _ _ _⟩
      · clear hp
        have ED := Aside0.mk (show placeD n1 n2 n3 cross 3 20 = n1 by simp [placeD, hc])
        have EA := Aside0.mk (show placeA n0 n2 n3 cross 20 = -1 by simp [placeA, hc])
        have EB := Aside0.mk (show placeB behind 20 = -1 by simp [placeB])
        go_enter Try.func73, Try.ntmps73
        go_wp2
        refine bodyPost_ret (results_cell_row rfl _ _ (w.heap.size + 1 + 1) 98 #[.int .i64 (n1), .int .i64 (-1), .int .i64 (-1)] (0, 0) _ rfl (blk4_third _ _ _ _ _) Try.underlying98 rfl (by kernel_rfl)) rfl ?_
        exact ⟨by rw [ED.out, EA.out, EB.out], below4 _ _ _ _ _⟩
    · have hc2 : cross ≤ 0 := by omega
      rcases hp rfl with rfl | rfl | rfl
      · clear hp
        have ED := Aside0.mk (show placeD n1 n2 n3 cross 0 20 = n2 by simp [placeD, hc])
        have EA := Aside0.mk (show placeA n0 n2 n3 cross 20 = -1 by simp [placeA, hc])
        have EB := Aside0.mk (show placeB behind 20 = -1 by simp [placeB])
        go_enter Try.func73, Try.ntmps73
        go_wp2
        refine bodyPost_ret (results_cell_row rfl _ _ (w.heap.size + 1 + 1) 98 #[.int .i64 (n2), .int .i64 (-1), .int .i64 (-1)] (0, 0) _ rfl (blk4_third _ _ _ _ _) Try.underlying98 rfl (by kernel_rfl)) rfl ?_
        exact ⟨by rw [ED.out, EA.out, EB.out], below4 _ _ _ _ _⟩
      · clear hp
        have ED := Aside0.mk (show placeD n1 n2 n3 cross 1 20 = 0 by simp [placeD, hc])
        have EA := Aside0.mk (show placeA n0 n2 n3 cross 20 = -1 by simp [placeA, hc])
        have EB := Aside0.mk (show placeB behind 20 = -1 by simp [placeB])
        go_enter Try.func73, Try.ntmps73
        go_wp2
        refine bodyPost_ret (results_cell_row rfl _ _ (w.heap.size + 1 + 1) 98 #[.int .i64 (0), .int .i64 (-1), .int .i64 (-1)] (0, 0) _ rfl (blk4_third _ _ _ _ _) Try.underlying98 rfl (by kernel_rfl)) rfl ?_
        exact ⟨by rw [ED.out, EA.out, EB.out], below4 _ _ _ _ _⟩
      · clear hp
        have ED := Aside0.mk (show placeD n1 n2 n3 cross 3 20 = n1 by simp [placeD, hc])
        have EA := Aside0.mk (show placeA n0 n2 n3 cross 20 = -1 by simp [placeA, hc])
        have EB := Aside0.mk (show placeB behind 20 = -1 by simp [placeB])
        go_enter Try.func73, Try.ntmps73
        go_wp2
        refine bodyPost_ret (results_cell_row rfl _ _ (w.heap.size + 1 + 1) 98 #[.int .i64 (n1), .int .i64 (-1), .int .i64 (-1)] (0, 0) _ rfl (blk4_third _ _ _ _ _) Try.underlying98 rfl (by kernel_rfl)) rfl ?_
        exact ⟨by rw [ED.out, EA.out, EB.out], below4 _ _ _ _ _⟩
  have ED := Aside0.mk (show placeD n1 n2 n3 cross piece op = -1 by simp [placeD, h20, h21, h22])
  have EA := Aside0.mk (show placeA n0 n2 n3 cross op = -1 by simp [placeA, h2, h3, h4, h5])
  have EB := Aside0.mk (show placeB behind op = -1 by simp [placeB, h19])
  clear hp hix0 hix1 hix3
  go_enter Try.func73, Try.ntmps73
  go_wp2
  refine bodyPost_ret (results_cell_row rfl _ _ (w.heap.size + 1 + 1) 98 #[.int .i64 (-1), .int .i64 (-1), .int .i64 (-1)] (0, 0) _ rfl (blk4_third _ _ _ _ _) Try.underlying98 rfl (by kernel_rfl)) rfl ?_
  exact ⟨by rw [ED.out, EA.out, EB.out], below4 _ _ _ _ _⟩
end Go.Proofs.Ytccolpkjgjjipaa.Q
