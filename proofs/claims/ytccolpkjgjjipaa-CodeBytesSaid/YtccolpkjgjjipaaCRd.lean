/- The Go methods code.reader.number and code.reader.many. -/
import Derived.Test.YtccolpkjgjjipaaCNum
namespace Go.Proofs.Ytccolpkjgjjipaa.K
open Go.RowKit Go.Proofs.YtccolpkjgjjipaaW.PrintWords Go.Proofs.YtccolpkjgjjipaaW.PrintLast Go.Proofs.YtccolpkjgjjipaaW.PrintMore
set_option linter.unusedVariables false
set_option linter.unusedSimpArgs false
def rdStep (x b : Int) (j : Nat) : Int := Go.bits .or .u64 x (IntKind.u64.wrap (IntKind.u64.wrap (Go.bits .and .u8 b 127) * 2 ^ (7 * j)))
def rdFin (U : Int) : Int := Go.bits .xor .i64 (wrap64 (U / 2)) (wrap64 (-wrap64 (Go.bits .and .u64 U 1)))
/-- A number that is read, what is left behind it, and whether it failed. -/
def numGo : Nat → Nat → Int → List Int → Int × List Int × Bool
  | 0, _, _, bs => (0, bs, true)
  | _ + 1, _, _, [] => (0, [], true)
  | n + 1, j, x, b :: rest => if b < 128 then (rdFin (rdStep x b j), rest, false) else numGo n (j + 1) (rdStep x b j) rest
def numF (bs : List Int) : Int × List Int × Bool := numGo 10 0 0 bs
/-- Only block g has been written, and what is new. -/
abbrev only (g : Nat) : Nat → Prop := fun k => k = g
/-- A reader's block: its bytes, which read as a list (they lay in wB), and whether it is bad. -/
structure Rdr (wB w : World) (gr : Nat) (bs : List Int) (bad : Bool) : Prop where
  out : ∃ A c, w.heap[gr]? = some (.cells #[.slice A bs.length c, .bool bad] 52 (0, 0)) ∧ bs.length ≤ c ∧ ∀ W', Kept wB W' (only gr) → Kd.C (Kd.int .u8) W' A bs.length bs
  kept : Kept wB w (only gr)
theorem C_head {W : World} {A : Option Addr} {b : Int} {rest : List Int} (h : Kd.C (Kd.int .u8) W A (b :: rest).length (b :: rest)) : ∃ ad, A = some ad ∧ W.cell? ad = some (.int .u8 b) := by
  obtain ⟨ad, e, hc⟩ := h.2.2 (by simp)
  obtain ⟨c, hl, hR, hcell⟩ := hc 0 b rfl
  refine ⟨ad, e, ?_⟩
  have hR' : c = [.int .u8 b] := hR
  subst hR'
  have := hcell 0 _ rfl
  simpa [Addr.add] using this
theorem C_rest {W : World} {ad : Addr} {b : Int} {rest : List Int} (h : Kd.C (Kd.int .u8) W (some ad) (b :: rest).length (b :: rest)) : Kd.C (Kd.int .u8) W (some ⟨ad.block, ad.off + 1, none⟩) rest.length rest := by
  obtain ⟨h1, h2, h3⟩ := h
  refine ⟨rfl, by simp at h2; omega, fun hn => ⟨_, rfl, fun j p hp => ?_⟩⟩
  obtain ⟨ad', e, hc⟩ := h3 (by simp)
  cases e
  obtain ⟨c, hl, hR, hcell⟩ := hc (j + 1) p (by simpa using hp)
  refine ⟨c, hl, hR, fun i u hu => ?_⟩
  have := hcell i u hu
  rw [← this]
  have e1 : (Kd.int .u8).sz = 1 := rfl
  rw [e1]
  congr 1
  unfold Addr.add
  by_cases h0 : j * 1 + i = 0
  · rw [if_pos h0, if_neg (by omega)]
    congr 1
    omega
  · rw [if_neg h0, if_neg (by omega)]
    simp only [Addr.mk.injEq, true_and, and_true]
    omega
theorem C_none (W : World) (A : Option Addr) : Kd.C (Kd.int .u8) W A ([] : List Int).length [] := ⟨rfl, by simp, fun h => absurd h (by simp)⟩
theorem set_heap {W : World} {g i t : Nat} {cs : Array Value} {fr : Nat × Nat} (v : Value) (h : W.heap[g]? = some (.cells cs t fr)) : (W.setCell ⟨g, i, none⟩ v).heap[g]? = some (.cells (cs.setIfInBounds i v) t fr) := by
  simp [World.setCell, Array.getElem?_modify, h]
theorem Rdr.step {wB w w' : World} {gr : Nat} {bs : List Int} {bad : Bool} {S : Nat → Prop} (h : Rdr wB w gr bs bad) (hk : Kept w w' S) (hS : ∀ k, S k → wB.heap.size ≤ k) (hne : ¬ S gr) : Rdr wB w' gr bs bad := by
  obtain ⟨A, c, h1, h2, h3⟩ := h.out
  exact ⟨⟨A, c, blk_kept h1 hk hne, h2, h3⟩, h.kept.then_ hk (fun k e => .inr (hS k e))⟩
theorem Rdr.below {wB w w' : World} {gr : Nat} {bs : List Int} {bad : Bool} (h : Rdr wB w gr bs bad) (hb : Below w.heap.size w w') : Rdr wB w' gr bs bad :=
  h.step (Kept.of_below hb (fun _ => False)) (fun _ e => e.elim) (fun e => e)
set_option maxHeartbeats 4000000 in
set_option maxRecDepth 100000 in
theorem number_rd (gr : Nat) (bad : Bool) (w0 wB w : World) (bs : List Int) (hB : Below w0.heap.size w0 w) (hg : w0.heap.size ≤ gr) (hr : Rdr wB w gr bs bad) :
    Calls Try.prog 30 #[.pointer (some ⟨gr, 0, none⟩)] w fun e w' => e = .returned (.int .i64 (numF bs).1) ∧ Rdr wB w' gr (numF bs).2.1 (bad || (numF bs).2.2) ∧ Below w0.heap.size w0 w' ∧ Kept w w' (only gr) := by
  obtain ⟨R, hR⟩ : ∃ R, numF bs = R := ⟨_, rfl⟩
  rw [hR]
  have HF := Aside0.mk (show numGo (10 - 0) 0 0 bs = R from hR)
  have HR := Aside0.mk hr
  have HB := Aside0.mk hB
  clear hr hR hB
  go_enter Try.func30, Try.ntmps30
  go_wp2_with fail
  go_loopw [3, 4] (fun u at_ wr => ∃ (j : Nat) (x : Int) (bs' : List Int), j ≤ 10 ∧ at_ = .int .i64 (7 * (j : Int)) ∧ u = .int .u64 x ∧ Aside0 (Rdr wB wr gr bs' bad) ∧ Aside0 (numGo (10 - j) j x bs' = R) ∧ Aside0 (Below w0.heap.size w0 wr) ∧ Aside0 (Kept w wr (only gr))) (fun _ at_ _ => 70 - (intOf at_).toNat)
  case atStart => exact ⟨0, 0, bs, by omega, rfl, rfl, HR, HF, HB, ⟨Kept.refl _ _⟩⟩
  case round =>
    clear HF HR HB
    obtain ⟨j, x, bs', hj, rfl, rfl, HR, HF, HB, HK⟩ := hrel
    obtain ⟨A', c', hr1, hr2, hr3⟩ := HR.out.out
    have HRr := Aside0.mk hr1
    have HRl := Aside0.mk hr2
    have HRc := Aside0.mk hr3
    clear hr1 hr2 hr3
    have hc0 := (blk_cell HRr.out 0).trans rfl
    have hc1 := (blk_cell HRr.out 1).trans rfl
    have hf0 := blk_frozen HRr.out 0
    have hf1 := blk_frozen HRr.out 1
    have Hbad := Aside0.mk (show ∀ (bs2 : List Int), bs2 = bs' → Rdr wB (wr.setCell ⟨gr, 1, none⟩ (.bool true)) gr bs2 true from fun bs2 e => by
      subst e
      exact ⟨⟨A', c', (set_heap (.bool true) HRr.out).trans rfl, HRl.out, HRc.out⟩, HR.out.kept.setCell (.inl rfl) _⟩)
    have HBb := Aside0.mk (HB.out.setCell (p := ⟨gr, 1, none⟩) hg (.bool true))
    have HKb := Aside0.mk (HK.out.setCell (p := ⟨gr, 1, none⟩) (.inl rfl) (.bool true))
    by_cases hj9 : j < 10
    · cases bs' with
      | nil =>
        have hE := HF.out
        rw [show 10 - j = (9 - j) + 1 by omega, numGo] at hE
        subst hE
        go_wp2_with fail
        go_ret
        exact ⟨rfl, by first | exact Hbad.out _ rfl | (rw [Bool.or_true]; exact Hbad.out _ rfl), HBb.out, HKb.out⟩
      | cons b rest =>
        obtain ⟨ad, rfl, hcb⟩ := C_head (HRc.out wr HR.out.kept)
        have hlen : (rest.length : Int) + 1 ≤ (c' : Int) := by have := HRl.out; simp at this; omega
        obtain ⟨A2, hA2⟩ : ∃ A2, A2 = if c' = 1 then some ad else some (⟨ad.block, ad.off + 1, none⟩ : Addr) := ⟨_, rfl⟩
        have Hgood := Aside0.mk (show Rdr wB (wr.setCell ⟨gr, 0, none⟩ (.slice A2 rest.length (c' - 1))) gr rest bad by
          refine ⟨⟨A2, c' - 1, (set_heap _ HRr.out).trans rfl, by omega, fun W' hk => ?_⟩, HR.out.kept.setCell (.inl rfl) _⟩
          have := HRc.out W' hk
          by_cases h1 : c' = 1
          · obtain rfl : rest = [] := List.eq_nil_of_length_eq_zero (by omega)
            exact C_none _ _
          · rw [hA2, if_neg h1]
            exact C_rest this)
        have HBg := Aside0.mk (HB.out.setCell (p := ⟨gr, 0, none⟩) hg (.slice A2 rest.length (c' - 1)))
        have HKg := Aside0.mk (HK.out.setCell (p := ⟨gr, 0, none⟩) (.inl rfl) (.slice A2 rest.length (c' - 1)))
        have hE := HF.out
        rw [show 10 - j = (9 - j) + 1 by omega, numGo] at hE
        by_cases hb : b < 128
        · rw [if_pos hb] at hE
          subst hE
          have hd : decide (b < 128) = true := decide_eq_true hb
          by_cases h1 : c' = 1
          · subst h1
            rw [if_pos rfl] at hA2
            subst hA2
            go_wp2_with fail
            go_ret
            exact ⟨rfl, by first | exact Hgood.out | (rw [Bool.or_false]; exact Hgood.out), HBg.out, HKg.out⟩
          · rw [if_neg h1] at hA2
            subst hA2
            go_wp2_with fail
            go_ret
            exact ⟨rfl, by first | exact Hgood.out | (rw [Bool.or_false]; exact Hgood.out), HBg.out, HKg.out⟩
        · rw [if_neg hb] at hE
          have hd : decide (b < 128) = false := decide_eq_false hb
          have HE := Aside0.mk (show numGo (10 - (j + 1)) (j + 1) (rdStep x b j) rest = R by rw [show 10 - (j + 1) = 9 - j by omega]; exact hE)
          clear hE
          by_cases h1 : c' = 1
          · subst h1
            rw [if_pos rfl] at hA2
            subst hA2
            go_wp2_with fail
            refine ⟨⟨j + 1, rdStep x b j, rest, by omega, by go_num, rfl, Hgood, HE, HBg, HKg⟩, ?_⟩
            simp [intOf]
            omega
          · rw [if_neg h1] at hA2
            subst hA2
            go_wp2_with fail
            refine ⟨⟨j + 1, rdStep x b j, rest, by omega, by go_num, rfl, Hgood, HE, HBg, HKg⟩, ?_⟩
            simp [intOf]
            omega
    · obtain rfl : j = 10 := by omega
      have hE := HF.out
      rw [show 10 - 10 = 0 from rfl, numGo] at hE
      subst hE
      go_wp2_with fail
      go_ret
      exact ⟨rfl, by first | exact Hbad.out _ rfl | (rw [Bool.or_true]; exact Hbad.out _ rfl), HBb.out, HKb.out⟩
/-- How many are read. -/
def manyF (bs : List Int) (bad : Bool) : Int × List Int × Bool :=
  if (numF bs).1 < 0 ∨ (numF bs).1 > (numF bs).2.1.length then (0, (numF bs).2.1, true) else ((numF bs).1, (numF bs).2.1, bad || (numF bs).2.2)
set_option maxHeartbeats 4000000 in
set_option maxRecDepth 100000 in
theorem many_rd (gr : Nat) (bad : Bool) (w0 wB w : World) (bs : List Int) (hB : Below w0.heap.size w0 w) (hg : w0.heap.size ≤ gr) (hr : Rdr wB w gr bs bad) :
    Calls Try.prog 64 #[.pointer (some ⟨gr, 0, none⟩)] w fun e w' => e = .returned (.int .i64 (manyF bs bad).1) ∧ Rdr wB w' gr (manyF bs bad).2.1 (manyF bs bad).2.2 ∧ Below w0.heap.size w0 w' ∧ Kept w w' (only gr) := by
  have hN := number_rd gr bad w0 wB w bs hB hg hr
  obtain ⟨n, hn⟩ : ∃ n, (numF bs).1 = n := ⟨_, rfl⟩
  obtain ⟨rest, hrest⟩ : ∃ r, (numF bs).2.1 = r := ⟨_, rfl⟩
  obtain ⟨f, hf⟩ : ∃ f, (bad || (numF bs).2.2) = f := ⟨_, rfl⟩
  unfold manyF
  rw [hn, hrest, hf]
  rw [hn, hrest, hf] at hN
  have HN := Aside0.mk hN
  clear hN hn hrest hf hB hr
  by_cases h1 : n < 0
  · have d1 : decide (n < 0) = true := decide_eq_true h1
    rw [if_pos (.inl h1)]
    clear h1
    go_enter Try.func64, Try.ntmps64
    go_wp2_with (go_at_call 30; refine HN.out.mono ?_; rintro e w1 ⟨rfl, hR, hb, hk⟩; obtain ⟨A, c, hr1, hr2, hr3⟩ := hR.out; have HR1 := Aside0.mk hr1; have HR2 := Aside0.mk hr2; have HR3 := Aside0.mk hr3; have hc0 := (blk_cell HR1.out 0).trans rfl; have hc1 := (blk_cell HR1.out 1).trans rfl; have hf1 := blk_frozen HR1.out 1; clear hr1 hr2 hr3)
    go_ret
    exact ⟨rfl, ⟨⟨A, c, (set_heap (.bool true) HR1.out).trans rfl, HR2.out, HR3.out⟩, hR.kept.setCell (.inl rfl) _⟩, hb.setCell (p := ⟨gr, 1, none⟩) hg _, hk.setCell (p := ⟨gr, 1, none⟩) (.inl rfl) _⟩
  · have d1 : decide (n < 0) = false := decide_eq_false h1
    by_cases h2 : n > (rest.length : Int)
    · have d2 : decide ((rest.length : Int) < n) = true := decide_eq_true h2
      rw [if_pos (.inr h2)]
      clear h1 h2
      go_enter Try.func64, Try.ntmps64
      go_wp2_with (go_at_call 30; refine HN.out.mono ?_; rintro e w1 ⟨rfl, hR, hb, hk⟩; obtain ⟨A, c, hr1, hr2, hr3⟩ := hR.out; have HR1 := Aside0.mk hr1; have HR2 := Aside0.mk hr2; have HR3 := Aside0.mk hr3; have hc0 := (blk_cell HR1.out 0).trans rfl; have hc1 := (blk_cell HR1.out 1).trans rfl; have hf1 := blk_frozen HR1.out 1; clear hr1 hr2 hr3)
      go_ret
      exact ⟨rfl, ⟨⟨A, c, (set_heap (.bool true) HR1.out).trans rfl, HR2.out, HR3.out⟩, hR.kept.setCell (.inl rfl) _⟩, hb.setCell (p := ⟨gr, 1, none⟩) hg _, hk.setCell (p := ⟨gr, 1, none⟩) (.inl rfl) _⟩
    · have d2 : decide ((rest.length : Int) < n) = false := decide_eq_false h2
      rw [if_neg (by omega)]
      clear h1 h2
      go_enter Try.func64, Try.ntmps64
      go_wp2_with (go_at_call 30; refine HN.out.mono ?_; rintro e w1 ⟨rfl, hR, hb, hk⟩; obtain ⟨A, c, hr1, hr2, hr3⟩ := hR.out; have HR1 := Aside0.mk hr1; have HR2 := Aside0.mk hr2; have HR3 := Aside0.mk hr3; have hc0 := (blk_cell HR1.out 0).trans rfl; have hc1 := (blk_cell HR1.out 1).trans rfl; have hf1 := blk_frozen HR1.out 1; clear hr1 hr2 hr3)
      go_ret
      exact ⟨rfl, hR, hb, hk⟩
#print axioms number_rd
#print axioms many_rd
end Go.Proofs.Ytccolpkjgjjipaa.K
