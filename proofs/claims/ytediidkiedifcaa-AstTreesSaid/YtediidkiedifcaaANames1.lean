/- The Go function Names$1 (meet). -/
import Derived.Test.YtediidkiedifcaaANamesP
namespace Go.Proofs.Ytediidkiedifcaa.Q
set_option linter.unusedVariables false
set_option linter.unusedSimpArgs false
open Go.RowKit Go.Proofs.YtediidkiedifcaaW.PrintWords Go.Proofs.YtediidkiedifcaaW.PrintLast Go.Proofs.YtediidkiedifcaaW.PrintMore
abbrev fMeet (gm gp go gf : Nat) : Value := .func (.func 35) #[] #[.pointer (some ⟨gm, 0, none⟩), .pointer (some ⟨gp, 0, none⟩), .pointer (some ⟨go, 0, none⟩), .pointer (some ⟨gf, 0, none⟩)]
/-- Blocks but those of bools, of strings and of slices of strings are kept. -/
def TK (W W' : World) : Prop := W.heap.size ≤ W'.heap.size ∧ ∀ (g : Nat) (cs : Array Value) (t : Nat), t ≠ 4 → t ≠ 9 → t ≠ 33 → W.heap[g]? = some (.cells cs t (0, 0)) → W'.heap[g]? = some (.cells cs t (0, 0))
theorem TK.refl (W : World) : TK W W := ⟨Nat.le_refl _, fun _ _ _ _ _ _ h => h⟩
theorem TK.trans {A B C : World} (h : TK A B) (g : TK B C) : TK A C := ⟨Nat.le_trans h.1 g.1, fun b cs t h4 h9 h33 hb => g.2 b cs t h4 h9 h33 (h.2 b cs t h4 h9 h33 hb)⟩
theorem TK.below {A B : World} (h : Below A.heap.size A B) : TK A B := ⟨h.size, fun b cs t _ _ _ hb => blk_below hb h⟩
theorem TK.R3 {W W' : World} {base : Nat} {v : Value} {xs : List Int} (h : TK W W') (hp : 0 < xs.length) (hr : Kd.R (Kd.int .i64) 3 W base (fun _ => True) v xs) : Kd.R (Kd.int .i64) 3 W' base (fun _ => True) v xs := by
  obtain ⟨g, cap, rfl, h1, h2, cells, hc⟩ := Kd.R_form hr hp
  have hk : Kept W W' (fun k => k ≠ g) := ⟨h.1, fun i hi hne => by
    have : i = g := Decidable.of_not_not hne
    subst this
    rw [hc]
    exact h.2 i cells 3 (by decide) (by decide) (by decide) hc⟩
  exact Kd.R_mono (Kd.R_kept (Kd.R_tight rfl hr) hk (fun k hk2 hne => hne (by simpa [Value.ownBlock] using hk2))) (fun _ _ => trivial)
structure MS (w W : World) (gp gm gb go gf cb : Nat) (A0 : Option Addr) (c0 : Nat) (l0 : List S45) (A1 : Option Addr) (c1 : Nat) (l1 : List S31) (v : Value) (s : St) : Prop where
  b : Below w.heap.size w W
  kp : W.heap[gp]? = some (.cells #[.slice A0 l0.length c0, .slice A1 l1.length c1] 25 (0, 0))
  km : W.heap[gm]? = some (.cells #[.slice (some ⟨gb, 0, none⟩) l1.length cb] 60 (0, 0))
  kf : W.heap[gf]? = some (.cells #[fMeet gm gp go gf] 61 (0, 0))
  ko : W.heap[go]? = some (.cells #[v] 33 (0, 0))
  hm : Kd.R Kd.bool 4 W w.heap.size (fun _ => True) (.slice (some ⟨gb, 0, none⟩) l1.length cb) s.1
  hv : Kd.R Kd.string 9 W w.heap.size (fun _ => True) v s.2
  wo : w.heap.size ≤ go
  wb : w.heap.size ≤ gb
  inv : s.2.length + s.1.count false ≤ l1.length
section
variable {w W : World} {gp gm gb go gf cb : Nat} {A0 : Option Addr} {c0 : Nat} {l0 : List S45} {A1 : Option Addr} {c1 : Nat} {l1 : List S31} {v : Value} {s : St}
theorem MS.len (h : MS w W gp gm gb go gf cb A0 c0 l0 A1 c1 l1 v s) : s.1.length = l1.length := (Kd.R_reads' h.hm).1.symm
theorem MS.below {W' : World} (h : MS w W gp gm gb go gf cb A0 c0 l0 A1 c1 l1 v s) (hb : Below W.heap.size W W') : MS w W' gp gm gb go gf cb A0 c0 l0 A1 c1 l1 v s :=
  ⟨h.b.trans (hb.mono h.b.size), blk_below h.kp hb, blk_below h.km hb, blk_below h.kf hb, blk_below h.ko hb, Kd.R_below h.hm hb, Kd.R_below h.hv hb, h.wo, h.wb, h.inv⟩
theorem MS.row (h : MS w W gp gm gb go gf cb A0 c0 l0 A1 c1 l1 v s) (hp : 0 < l1.length) : ∃ cells, W.heap[gb]? = some (.cells cells 4 (0, 0)) := by
  obtain ⟨g, cap, e, _, _, cells, hc⟩ := Kd.R_form h.hm (by rw [h.len]; exact hp)
  injection e with e1
  injection e1 with e1
  injection e1 with e1
  subst e1
  exact ⟨cells, hc⟩
/-- An expression is marked. -/
theorem MS.mark (h : MS w W gp gm gb go gf cb A0 c0 l0 A1 c1 l1 v s) (x : Int) (h0 : 0 ≤ x) (h1 : x < (l1.length : Int)) (hf : s.1.getD x.toNat false = false) :
    MS w (W.setCell ⟨gb, x.toNat, none⟩ (.bool true)) gp gm gb go gf cb A0 c0 l0 A1 c1 l1 v (s.1.set x.toNat true, s.2) ∧ TK W (W.setCell ⟨gb, x.toNat, none⟩ (.bool true)) := by
  obtain ⟨cells, hr⟩ := h.row (by omega)
  have hlen := h.len
  have far : ∀ (g : Nat) (cs : Array Value) (t : Nat), t ≠ 4 → W.heap[g]? = some (.cells cs t (0, 0)) → (W.setCell ⟨gb, x.toNat, none⟩ (.bool true)).heap[g]? = some (.cells cs t (0, 0)) := fun g cs t ht hg =>
    (((Kept.refl W (fun k => k = gb)).setCell (p := ⟨gb, x.toNat, none⟩) (.inl rfl) (.bool true)).2 g (blk_lt hg) (blk_ne hg hr ht)).trans hg
  refine ⟨⟨h.b.setCell (p := ⟨gb, x.toNat, none⟩) h.wb _, far _ _ _ (by decide) h.kp, far _ _ _ (by decide) h.km, far _ _ _ (by decide) h.kf, far _ _ _ (by decide) h.ko, Kd.R_putn h.hm x true, Kd.R_set h.hv hr (by intro q hq; rcases List.mem_cons.1 hq with rfl | hq; exact (by decide); cases hq) _ _, h.wo, h.wb, ?_⟩, ⟨by simp, fun g cs t h4 _ _ hg => far g cs t h4 hg⟩⟩
  have hx : x.toNat < s.1.length := by omega
  have hfe : s.1[x.toNat] = false := by
    have := hf
    rwa [List.getD_eq_getElem?_getD, List.getElem?_eq_getElem hx] at this
  have hc : (s.1.set x.toNat true).count false + 1 = s.1.count false := by
    rw [List.count_set hx, hfe]
    have : 0 < s.1.count false := List.count_pos_iff.2 (by rw [← hfe]; exact List.getElem_mem hx)
    simp
    omega
  have := h.inv
  dsimp only
  omega
/-- A name is put behind the others. -/
theorem MS.name (h : MS w W gp gm gb go gf cb A0 c0 l0 A1 c1 l1 v s) {W' : World} {v' : Value} {out' : List ByteArray} (hR : Kd.R Kd.string 9 W' w.heap.size (fun _ => True) v' out') (hB : Below w.heap.size w W') (hg : W.grownBy W' v.ownBlock) (hp : 0 < l1.length) (hi : out'.length + s.1.count false ≤ l1.length) :
    MS w (W'.setCell ⟨go, 0, none⟩ v') gp gm gb go gf cb A0 c0 l0 A1 c1 l1 v' (s.1, out') ∧ TK W (W'.setCell ⟨go, 0, none⟩ v') ∧ W'.cell? ⟨go, 0, none⟩ = some v ∧ W'.frozen? ⟨go, 0, none⟩ = false := by
  obtain ⟨cells, hr⟩ := h.row hp
  have gro : ∀ (g : Nat) (cs : Array Value) (t : Nat), t ≠ 9 → W.heap[g]? = some (.cells cs t (0, 0)) → W'.heap[g]? = some (.cells cs t (0, 0)) := fun g cs t ht hb => blk_grown hb hg (Kd.R_ne h.hv hb (Ne.symm ht))
  have ko := gro _ _ _ (by decide) h.ko
  have far : ∀ (g : Nat) (cs : Array Value) (t : Nat), t ≠ 33 → W'.heap[g]? = some (.cells cs t (0, 0)) → (W'.setCell ⟨go, 0, none⟩ v').heap[g]? = some (.cells cs t (0, 0)) := fun g cs t ht hb =>
    (((Kept.refl W' (fun k => k = go)).setCell (p := ⟨go, 0, none⟩) (.inl rfl) v').2 g (blk_lt hb) (blk_ne hb ko ht)).trans hb
  have hm' : Kd.R Kd.bool 4 W' w.heap.size (fun _ => True) (.slice (some ⟨gb, 0, none⟩) l1.length cb) s.1 :=
    Kd.R_mono (Kd.R_grown (Kd.R_tight rfl h.hm) hg (fun k hk => by
      have : k = gb := by simpa [Value.ownBlock] using hk
      subst this
      exact Kd.R_ne h.hv hr (by decide))) (fun _ _ => trivial)
  refine ⟨⟨hB.setCell (p := ⟨go, 0, none⟩) h.wo _, far _ _ _ (by decide) (gro _ _ _ (by decide) h.kp), far _ _ _ (by decide) (gro _ _ _ (by decide) h.km), far _ _ _ (by decide) (gro _ _ _ (by decide) h.kf), blk_put ko 0 _ rfl, ?_, ?_, h.wo, h.wb, hi⟩, ⟨by have := hg.size; simp; omega, fun g cs t h4 h9 h33 hb => far g cs t h33 (gro g cs t h9 hb)⟩, (blk_cell ko 0).trans rfl, blk_frozen ko 0⟩
  · exact Kd.R_set hm' ko (by intro q hq; rcases List.mem_cons.1 hq with rfl | hq; exact (by decide); cases hq) _ _
  · exact Kd.R_set hR ko (by intro q hq; rcases List.mem_cons.1 hq with rfl | hq; exact (by decide); cases hq) _ _
end
end Go.Proofs.Ytediidkiedifcaa.Q
