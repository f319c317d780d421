/- What code.Object's walk holds of its blocks. -/
import Derived.Test.YtccolpkjgjjipaaCReads
import Derived.Test.YtccolpkjgjjipaaCCut
import Derived.Test.YtccolpkjgjjipaaCBytes
namespace Go.Proofs.Ytccolpkjgjjipaa.K
open Go.RowKit Go.Proofs.YtccolpkjgjjipaaW.PrintWords Go.Proofs.YtccolpkjgjjipaaW.PrintLast Go.Proofs.YtccolpkjgjjipaaW.PrintMore
set_option linter.unusedSimpArgs false
set_option linter.unusedVariables false
abbrev zero28 : Array Value := #[.slice none 0 0, .slice none 0 0, .slice none 0 0, .slice none 0 0, .int .i64 0, .int .i64 0, .slice none 0 0, .slice none 0 0, .slice none 0 0, .slice none 0 0]
/-- The blocks: the result's, the two variables that are captured, and the reader's. -/
structure Env (w wB W : World) (o2 gr g6 g7 : Nat) (bs : List Int) (bad : Bool) : Prop where
  b : Below w.heap.size w W
  k2 : W.heap[o2]? = some (.cells zero28 28 (0, 0))
  k6 : W.heap[g6]? = some (.cells #[.pointer (some ⟨gr, 0, none⟩)] 50 (0, 0))
  k7 : W.heap[g7]? = some (.cells #[fSmall g6] 54 (0, 0))
  r : Rdr wB W gr bs bad
  lr : w.heap.size ≤ gr
section
variable {w wB W W' : World} {o2 gr g6 g7 g8 : Nat} {bs bs' : List Int} {bad bad' : Bool}
theorem Env.below (E : Env w wB W o2 gr g6 g7 bs bad) (hb : Below W.heap.size W W') : Env w wB W' o2 gr g6 g7 bs bad :=
  ⟨E.b.trans (hb.mono E.b.size), blk_below E.k2 hb, blk_below E.k6 hb, blk_below E.k7 hb, E.r.below hb, E.lr⟩
theorem Env.step (E : Env w wB W o2 gr g6 g7 bs bad) (hb : Below w.heap.size w W') (hk : Kept W W' (only gr)) (hr : Rdr wB W' gr bs' bad') : Env w wB W' o2 gr g6 g7 bs' bad' :=
  ⟨hb, blk_kept E.k2 hk (rd_ne E.k2 (by decide) E.r), blk_kept E.k6 hk (rd_ne E.k6 (by decide) E.r), blk_kept E.k7 hk (rd_ne E.k7 (by decide) E.r), hr, E.lr⟩
theorem Env.c6 (E : Env w wB W o2 gr g6 g7 bs bad) : W.cell? ⟨g6, 0, none⟩ = some (.pointer (some ⟨gr, 0, none⟩)) := (blk_cell E.k6 0).trans rfl
theorem Env.c7 (E : Env w wB W o2 gr g6 g7 bs bad) : W.cell? ⟨g7, 0, none⟩ = some (fSmall g6) := (blk_cell E.k7 0).trans rfl
theorem Env.sizeB (E : Env w wB W o2 gr g6 g7 bs bad) : wB.heap.size ≤ W.heap.size := E.r.kept.1
/-- A block of structs that lies in what is new to the reader. -/
theorem Env.set (E : Env w wB W o2 gr g6 g7 bs bad) {cs : Array Value} (h8 : W.heap[g8]? = some (.cells cs 28 (0, 0))) (l8 : wB.heap.size ≤ g8) (lw : w.heap.size ≤ g8) (ne2 : o2 ≠ g8) (hk : Kept W W' (fun k => k = g8)) (hb : Below w.heap.size w W') : Env w wB W' o2 gr g6 g7 bs bad :=
  ⟨hb, blk_kept E.k2 hk ne2, blk_kept E.k6 hk (by rintro rfl; have := E.k6; rw [h8] at this; injection this with this; injection this with _ h _; cases h), blk_kept E.k7 hk (by rintro rfl; have := E.k7; rw [h8] at this; injection this with this; injection this with _ h _; cases h), E.r.step hk (fun k e => by rw [e]; exact l8) (fun e => rd_ne h8 (by decide) E.r e.symm), E.lr⟩
theorem Env.ne8 (E : Env w wB W o2 gr g6 g7 bs bad) {cs cs' : Array Value} {t : Nat} (h8 : W.heap[g8]? = some (.cells cs 28 (0, 0))) (h : W.heap[g8]? = some (.cells cs' t (0, 0))) (ht : t ≠ 28 := by decide) : False := by
  rw [h8] at h
  injection h with h
  injection h with _ h _
  exact ht h.symm
end
/-- A row that was made when the heap had lo to hi blocks. -/
def Lst {α : Type} (d : Kd α) (e : Nat) (W : World) (base lo hi : Nat) (v : Value) (xs : List α) : Prop := d.R e W base (fun k => lo ≤ k ∧ k < hi) v xs
section
variable {α : Type} {d : Kd α} {e base lo hi : Nat} {v : Value} {xs : List α} {W W' : World}
theorem Lst.of (h : d.R e W base (fun k => lo ≤ k) v xs) : Lst d e W base lo W.heap.size v xs := Kd.R_mono (Kd.R_bound h) (fun k hk => ⟨hk.1, hk.2.2.1⟩)
theorem Lst.below (h : Lst d e W base lo hi v xs) (hb : Below W.heap.size W W') : Lst d e W' base lo hi v xs := Kd.R_below h hb
theorem Lst.keep (hE : d.E = []) (h : Lst d e W base lo hi v xs) {g t : Nat} {cs : Array Value} (hg : W.heap[g]? = some (.cells cs t (0, 0))) (ht : e ≠ t) (hk : Kept W W' (fun k => k = g)) : Lst d e W' base lo hi v xs :=
  Kd.R_reok hE (Kd.R_kept (Kd.R_tight hE h) hk (fun k (hk : some k = v.ownBlock) (e1 : k = g) => Kd.R_ne h hg ht (by rw [← e1]; exact hk))) h.1
theorem Lst.apart {v' : Value} {lo' hi' : Nat} {xs' : List α} (h : Lst d e W base lo hi v xs) (h' : Lst d e W base lo' hi' v' xs') (hl : hi ≤ lo' ∨ hi' ≤ lo) : ∀ k, v.ownBlock = some k → some k ≠ v'.ownBlock := fun k hk e => by
  have a := h.1 k hk
  have b := h'.1 k e.symm
  dsimp only at a b
  omega
end
section
variable {w wB W : World} {o2 gr g6 g7 g8 : Nat} {bs b' : List Int} {bad q' : Bool}
theorem rdr_block {wB W : World} {gr : Nat} {bs : List Int} {bad : Bool} (h : Rdr wB W gr bs bad) : ∃ cs, W.heap[gr]? = some (.cells cs 52 (0, 0)) := by
  obtain ⟨A, c, h1, _⟩ := h.out
  exact ⟨_, h1⟩
theorem rd_int {xs : List Int} (h : readF oneF bs bad = (xs, b', q')) (E : Env w wB W o2 gr g6 g7 bs bad) (hl : bs.length ≤ 1000000000) :
    Calls Try.prog 31 #[.pointer (some ⟨gr, 0, none⟩), fSmall g6] W fun e W' => ∃ v, e = .returned v ∧ Lst (Kd.int .i64) 3 W' w.heap.size W.heap.size W'.heap.size v xs ∧ Env w wB W' o2 gr g6 g7 b' q' ∧ Kept W W' (only gr) := by
  have := read_int_rd g6 gr bad w wB W bs E.b E.lr E.k6 E.r E.sizeB hl
  rw [h] at this
  exact this.mono fun e W' ⟨v, he, hR, hr, hb, hk⟩ => ⟨v, he, Lst.of hR, E.step hb hk hr, hk⟩
theorem rd_int64 {xs : List Int} (h : readF oneF bs bad = (xs, b', q')) (E : Env w wB W o2 gr g6 g7 bs bad) (hl : bs.length ≤ 1000000000) :
    Calls Try.prog 32 #[.pointer (some ⟨gr, 0, none⟩), .func (.func 30) #[.pointer (some ⟨gr, 0, none⟩)] #[]] W fun e W' => ∃ v, e = .returned v ∧ Lst (Kd.int .i64) 2 W' w.heap.size W.heap.size W'.heap.size v xs ∧ Env w wB W' o2 gr g6 g7 b' q' ∧ Kept W W' (only gr) := by
  have := read_int64_rd gr bad w wB W bs E.b E.lr E.r E.sizeB hl
  rw [h] at this
  exact this.mono fun e W' ⟨v, he, hR, hr, hb, hk⟩ => ⟨v, he, Lst.of hR, E.step hb hk hr, hk⟩
theorem rd_small {x : Int} (h : oneF bs bad = (x, b', q')) (E : Env w wB W o2 gr g6 g7 bs bad) :
    Calls Try.prog 29 #[.pointer (some ⟨g6, 0, none⟩)] W fun e W' => e = .returned (.int .i64 x) ∧ Env w wB W' o2 gr g6 g7 b' q' ∧ Kept W W' (only gr) := by
  have := small_rd2 g6 gr bad (w0 := w) (wB := wB) (w := W) bs h E.b E.lr E.k6 E.r
  exact this.mono fun e W' ⟨he, hr, hb, hk⟩ => ⟨he, E.step hb hk hr, hk⟩
theorem rd_ins {xs : List S47} (h : readF insF bs bad = (xs, b', q')) (E : Env w wB W o2 gr g6 g7 bs bad) (hl : bs.length ≤ 1000000000) :
    Calls Try.prog 34 #[.pointer (some ⟨gr, 0, none⟩), .func (.func 35) #[] #[.pointer (some ⟨g7, 0, none⟩), .pointer (some ⟨g6, 0, none⟩)]] W fun e W' => ∃ v, e = .returned v ∧ Lst k47 47 W' w.heap.size W.heap.size W'.heap.size v xs ∧ Env w wB W' o2 gr g6 g7 b' q' ∧ Kept W W' (only gr) := by
  have := read_ins_rd g7 g6 gr bad w wB W bs E.b E.lr E.k6 E.k7 E.r E.sizeB hl
  rw [h] at this
  exact this.mono fun e W' ⟨v, he, hR, hr, hb, hk⟩ => ⟨v, he, Lst.of hR, E.step hb hk hr, hk⟩
theorem lst_gr {α : Type} {d : Kd α} {e base lo hi : Nat} {v : Value} {xs : List α} {W' : World} (hE : d.E = []) (he : e ≠ 52) (L : Lst d e W base lo hi v xs) (E : Env w wB W o2 gr g6 g7 bs bad) (hk : Kept W W' (only gr)) : Lst d e W' base lo hi v xs := by
  obtain ⟨cs, hc⟩ := rdr_block E.r
  exact L.keep hE hc he hk
end
theorem one_le (bs : List Int) (bad : Bool) : (oneF bs bad).2.1.length ≤ bs.length := numF_le bs
theorem ins_le (bs : List Int) (bad : Bool) : (insF bs bad).2.1.length ≤ bs.length := by
  unfold insF
  simp only [oneF]
  have h1 := numF_le bs
  have h2 := numF_le (numF bs).2.1
  have h3 := numF_le (numF (numF bs).2.1).2.1
  have h4 := numF_le (numF (numF (numF bs).2.1).2.1).2.1
  have h5 := numF_le (numF (numF (numF (numF bs).2.1).2.1).2.1).2.1
  have h6 := numF_le (numF (numF (numF (numF (numF bs).2.1).2.1).2.1).2.1).2.1
  omega
theorem readGo_le {α : Type} (one : List Int → Bool → α × List Int × Bool) (h1 : ∀ bs bad, (one bs bad).2.1.length ≤ bs.length) : ∀ (n : Nat) (bs : List Int) (bad : Bool), (readGo one n bs bad).2.1.length ≤ bs.length ∧ (readGo one n bs bad).1.length ≤ n
  | 0, _, _ => ⟨Nat.le_refl _, Nat.le_refl _⟩
  | n + 1, bs, bad => by
    rw [readGo]
    split
    · simp
    · have := readGo_le one h1 n (one bs bad).2.1 (one bs bad).2.2
      have := h1 bs bad
      simp only [List.length_cons]
      omega
theorem readF_le {α : Type} {one : List Int → Bool → α × List Int × Bool} (h1 : ∀ bs bad, (one bs bad).2.1.length ≤ bs.length) {bs : List Int} {bad : Bool} {xs : List α} {b' : List Int} {q' : Bool} (h : readF one bs bad = (xs, b', q')) : b'.length ≤ bs.length ∧ xs.length ≤ bs.length := by
  have a := readGo_le one h1 (manyF bs bad).1.toNat (manyF bs bad).2.1 (manyF bs bad).2.2
  have c := manyF_le bs bad
  have r := manyF_range bs bad
  unfold readF at h
  rw [h] at a
  simp only at a
  omega
end Go.Proofs.Ytccolpkjgjjipaa.K
