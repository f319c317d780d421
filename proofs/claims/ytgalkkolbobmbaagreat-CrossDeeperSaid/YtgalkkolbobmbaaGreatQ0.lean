/- Words and walks, joined. -/
import Derived.Test.YtgalkkolbobmbaaGreatVClone
import Derived.Test.YtgalkkolbobmbaaGreatVGood
import Derived.Test.YtgalkkolbobmbaaGreatVMDiv2
import Derived.Test.YtgalkkolbobmbaaGreatVRR
import Derived.Test.YtgalkkolbobmbaaGreatProg
import Derived.Below
import Derived.Deep.Draws
import Derived.Deep.AppendLies
import Derived.Maps.AppendAt
import Derived.OwnWalk
import Derived.Laws.BytesArg
import Derived.Laws.MakeOwn
import Derived.Laws.OwnMore
import Derived.Deep.OwnRows
import Derived.Tactics
import Derived.Lib.ConvBytes
import Derived.Laws.Slices
import Derived.WalkKit
import Derived.KernelRfl
import Derived.RowKit3
import Derived.Deep.LoopGhost
import Derived.Deep.QuietTactic
import Derived.BigQuiet
import Derived.WideLaws
import Derived.Deep.DeepCutAuto
import Derived.Deep.CutBlock
import Derived.Deep.RegionHeld3
import Derived.Laws.Rows
import Derived.Lib.AppendStr
import Derived.ArgAppend
import Derived.Laws.IdiomCopy
import Derived.OrdersHeld
import Derived.Laws.BitsLemmas
import Derived.RowKit
import Derived.Test.YtgalkkolbobmbaaGreatWWords
import Derived.Test.YtgalkkolbobmbaaGreatWMore
import Derived.Laws.StructEq
-- written by myprint.py (wip/tools) out of the translation
namespace Go.Proofs.YtgalkkolbobmbaaGreat.V
open Go.RowKit Go.Proofs.YtgalkkolbobmbaaGreatW.PrintWords Go.Proofs.YtgalkkolbobmbaaGreatW.PrintLast Go.Proofs.YtgalkkolbobmbaaGreatW.PrintMore
attribute [local go_sem] max2_int min2_int max_two min_two max_three min_three max_four min_four   -- for this text's walks alone
set_option linter.unusedVariables false
set_option linter.unusedSimpArgs false

/-! ### astrolaberef16_Great: function 20 -/
def astrolaberef16_Great.f (l0_0 : List Int) (l0_1 : List Int) (l0_2 : List Int) (l0_3 : List Int) (a0_4 : Int) (a0_5 : Int) (l0_6 : List (S49)) (l0_7 : List (S49)) (l0_8 : List (S49)) (l0_9 : List (S49)) : Option (Bool) := if (wrap64 ((wrap64 ((wrap64 ((l0_0.length : Int) + (l0_1.length : Int))) + (l0_2.length : Int))) + (l0_3.length : Int))) > 400 then (some true) else (some (decide ((wrap64 ((wrap64 ((wrap64 ((l0_6.length : Int) + (l0_7.length : Int))) + (l0_8.length : Int))) + (l0_9.length : Int))) > 3000)))
set_option maxHeartbeats 8000000 in
set_option maxRecDepth 100000 in
theorem astrolaberef16_Great.calls (A0_0 : Option Addr) (c0_0 : Nat) (l0_0 : List Int) (A0_1 : Option Addr) (c0_1 : Nat) (l0_1 : List Int) (A0_2 : Option Addr) (c0_2 : Nat) (l0_2 : List Int) (A0_3 : Option Addr) (c0_3 : Nat) (l0_3 : List Int) (a0_4 : Int) (a0_5 : Int) (A0_6 : Option Addr) (c0_6 : Nat) (l0_6 : List (S49)) (A0_7 : Option Addr) (c0_7 : Nat) (l0_7 : List (S49)) (A0_8 : Option Addr) (c0_8 : Nat) (l0_8 : List (S49)) (A0_9 : Option Addr) (c0_9 : Nat) (l0_9 : List (S49)) (r : Bool) (w : World) (hr0_0 : Kd.C (Kd.int .i64) w A0_0 l0_0.length l0_0) (hc0_0 : l0_0.length ≤ c0_0) (hr0_1 : Kd.C (Kd.int .i64) w A0_1 l0_1.length l0_1) (hc0_1 : l0_1.length ≤ c0_1) (hr0_2 : Kd.C (Kd.int .i64) w A0_2 l0_2.length l0_2) (hc0_2 : l0_2.length ≤ c0_2) (hr0_3 : Kd.C (Kd.int .i64) w A0_3 l0_3.length l0_3) (hc0_3 : l0_3.length ≤ c0_3) (hr0_6 : Kd.C k49 w A0_6 l0_6.length l0_6) (hc0_6 : l0_6.length ≤ c0_6) (hr0_7 : Kd.C k49 w A0_7 l0_7.length l0_7) (hc0_7 : l0_7.length ≤ c0_7) (hr0_8 : Kd.C k49 w A0_8 l0_8.length l0_8) (hc0_8 : l0_8.length ≤ c0_8) (hr0_9 : Kd.C k49 w A0_9 l0_9.length l0_9) (hc0_9 : l0_9.length ≤ c0_9) (h : astrolaberef16_Great.f l0_0 l0_1 l0_2 l0_3 a0_4 a0_5 l0_6 l0_7 l0_8 l0_9 = some r) :
 Calls Tryz.prog 20 #[.agg #[.slice A0_0 l0_0.length c0_0, .slice A0_1 l0_1.length c0_1, .slice A0_2 l0_2.length c0_2, .slice A0_3 l0_3.length c0_3, .int .i64 a0_4, .int .i64 a0_5, .slice A0_6 l0_6.length c0_6, .slice A0_7 l0_7.length c0_7, .slice A0_8 l0_8.length c0_8, .slice A0_9 l0_9.length c0_9]] w fun e w' => e = .returned (.bool r) ∧ Below w.heap.size w w' := by
 have hu26 := Tryz.underlying26
 have HR0_0 := Aside0.mk hr0_0
 have HC0_0 := Aside0.mk hc0_0
 clear hr0_0 hc0_0
 have HR0_1 := Aside0.mk hr0_1
 have HC0_1 := Aside0.mk hc0_1
 clear hr0_1 hc0_1
 have HR0_2 := Aside0.mk hr0_2
 have HC0_2 := Aside0.mk hc0_2
 clear hr0_2 hc0_2
 have HR0_3 := Aside0.mk hr0_3
 have HC0_3 := Aside0.mk hc0_3
 clear hr0_3 hc0_3
 have HR0_6 := Aside0.mk hr0_6
 have HC0_6 := Aside0.mk hc0_6
 clear hr0_6 hc0_6
 have HR0_7 := Aside0.mk hr0_7
 have HC0_7 := Aside0.mk hc0_7
 clear hr0_7 hc0_7
 have HR0_8 := Aside0.mk hr0_8
 have HC0_8 := Aside0.mk hc0_8
 clear hr0_8 hc0_8
 have HR0_9 := Aside0.mk hr0_9
 have HC0_9 := Aside0.mk hc0_9
 clear hr0_9 hc0_9
 have HB := Aside0.mk (Below.refl w.heap.size w)
 have H : (if (wrap64 ((wrap64 ((wrap64 ((l0_0.length : Int) + (l0_1.length : Int))) + (l0_2.length : Int))) + (l0_3.length : Int))) > 400 then (some true) else (some (decide ((wrap64 ((wrap64 ((wrap64 ((l0_6.length : Int) + (l0_7.length : Int))) + (l0_8.length : Int))) + (l0_9.length : Int))) > 3000)))) = some r := h
 clear h
 by_cases c2 : (wrap64 ((wrap64 ((wrap64 ((l0_0.length : Int) + (l0_1.length : Int))) + (l0_2.length : Int))) + (l0_3.length : Int))) > 400
 · rw [if_pos c2] at H
   have c2b0 : decide (400 < (wrap64 ((wrap64 ((wrap64 ((l0_0.length : Int) + (l0_1.length : Int))) + (l0_2.length : Int))) + (l0_3.length : Int)))) = true := decide_eq_true c2
   clear c2
   obtain rfl := Option.some.inj H
   go_enter Tryz.func20, Tryz.ntmps20
   go_wp2_with (first | ((with_reducible refine gate_dst (N := 1) rfl ?_); (try (refine gate_guard (by rfl) ?_; dsimp only)); refine box_event ?hg (N := 1) ?hd (cs := #[.slice A0_0 l0_0.length c0_0, .slice A0_1 l0_1.length c0_1, .slice A0_2 l0_2.length c0_2, .slice A0_3 l0_3.length c0_3, .int .i64 a0_4, .int .i64 a0_5, .slice A0_6 l0_6.length c0_6, .slice A0_7 l0_7.length c0_7, .slice A0_8 l0_8.length c0_8, .slice A0_9 l0_9.length c0_9]) (t := 26) ?hr ?_; (case hd => rfl); (case hg => rfl); (case hr => first | (go_simp; done) | (go_simp; rfl)); intro gb162 hg w3 hbox hb; have n0_ := Aside0.mk (below_step (by repeat (first | (with_reducible first | exact HB.out | apply below_alloc | apply pw_below_drewN | apply below_drew1) | exact HB.out)) hb); have n1_ := Aside0.mk (hbox); have n2_ := Aside0.mk ((by rw [hg]; exact (below_size (by repeat (first | (with_reducible first | exact HB.out | apply below_alloc | apply pw_below_drewN | apply below_drew1) | exact HB.out))) : w.heap.size ≤ gb162)); have n3_ := Aside0.mk ((by rw [hg]; exact (below_size (by repeat (first | (with_reducible first | exact HB.out | apply below_alloc | apply pw_below_drewN | apply below_drew1) | exact HB.out))) : w.heap.size ≤ gb162)); clear HB; have HB := n0_; have BK162 := n1_; have GW162 := n2_; have GE162 := n3_; clear n0_ n1_ n2_ n3_; clear hb hbox hg; have hcz4_0 : w3.cell? ⟨gb162, 0, none⟩ = some (.slice A0_0 l0_0.length c0_0) := (blk_cell BK162.out 0).trans rfl; have hcz4_1 : w3.cell? ⟨gb162, 1, none⟩ = some (.slice A0_1 l0_1.length c0_1) := (blk_cell BK162.out 1).trans rfl; have hcz4_2 : w3.cell? ⟨gb162, 2, none⟩ = some (.slice A0_2 l0_2.length c0_2) := (blk_cell BK162.out 2).trans rfl; have hcz4_3 : w3.cell? ⟨gb162, 3, none⟩ = some (.slice A0_3 l0_3.length c0_3) := (blk_cell BK162.out 3).trans rfl; have hcz4_4 : w3.cell? ⟨gb162, 4, none⟩ = some (.int .i64 a0_4) := (blk_cell BK162.out 4).trans rfl; have hcz4_5 : w3.cell? ⟨gb162, 5, none⟩ = some (.int .i64 a0_5) := (blk_cell BK162.out 5).trans rfl; have hcz4_6 : w3.cell? ⟨gb162, 6, none⟩ = some (.slice A0_6 l0_6.length c0_6) := (blk_cell BK162.out 6).trans rfl; have hcz4_7 : w3.cell? ⟨gb162, 7, none⟩ = some (.slice A0_7 l0_7.length c0_7) := (blk_cell BK162.out 7).trans rfl; have hcz4_8 : w3.cell? ⟨gb162, 8, none⟩ = some (.slice A0_8 l0_8.length c0_8) := (blk_cell BK162.out 8).trans rfl; have hcz4_9 : w3.cell? ⟨gb162, 9, none⟩ = some (.slice A0_9 l0_9.length c0_9) := (blk_cell BK162.out 9).trans rfl))
   go_ret
   exact ⟨by first | rfl | (simp [errW_none, errW_some] <;> rfl) | (simp [*, errW_none, errW_some] <;> rfl), by repeat (first | (with_reducible first | exact HB.out | apply below_alloc | apply pw_below_drewN | apply below_drew1 | refine below_set ?_ GE162.out) | exact HB.out)⟩
 · rw [if_neg c2] at H
   have c2b0 : decide (400 < (wrap64 ((wrap64 ((wrap64 ((l0_0.length : Int) + (l0_1.length : Int))) + (l0_2.length : Int))) + (l0_3.length : Int)))) = false := decide_eq_false c2
   clear c2
   obtain rfl := Option.some.inj H
   go_enter Tryz.func20, Tryz.ntmps20
   go_wp2_with (first | ((with_reducible refine gate_dst (N := 1) rfl ?_); (try (refine gate_guard (by rfl) ?_; dsimp only)); refine box_event ?hg (N := 1) ?hd (cs := #[.slice A0_0 l0_0.length c0_0, .slice A0_1 l0_1.length c0_1, .slice A0_2 l0_2.length c0_2, .slice A0_3 l0_3.length c0_3, .int .i64 a0_4, .int .i64 a0_5, .slice A0_6 l0_6.length c0_6, .slice A0_7 l0_7.length c0_7, .slice A0_8 l0_8.length c0_8, .slice A0_9 l0_9.length c0_9]) (t := 26) ?hr ?_; (case hd => rfl); (case hg => rfl); (case hr => first | (go_simp; done) | (go_simp; rfl)); intro gb162 hg w5 hbox hb; have n0_ := Aside0.mk (below_step (by repeat (first | (with_reducible first | exact HB.out | apply below_alloc | apply pw_below_drewN | apply below_drew1) | exact HB.out)) hb); have n1_ := Aside0.mk (hbox); have n2_ := Aside0.mk ((by rw [hg]; exact (below_size (by repeat (first | (with_reducible first | exact HB.out | apply below_alloc | apply pw_below_drewN | apply below_drew1) | exact HB.out))) : w.heap.size ≤ gb162)); have n3_ := Aside0.mk ((by rw [hg]; exact (below_size (by repeat (first | (with_reducible first | exact HB.out | apply below_alloc | apply pw_below_drewN | apply below_drew1) | exact HB.out))) : w.heap.size ≤ gb162)); clear HB; have HB := n0_; have BK162 := n1_; have GW162 := n2_; have GE162 := n3_; clear n0_ n1_ n2_ n3_; clear hb hbox hg; have hcz6_0 : w5.cell? ⟨gb162, 0, none⟩ = some (.slice A0_0 l0_0.length c0_0) := (blk_cell BK162.out 0).trans rfl; have hcz6_1 : w5.cell? ⟨gb162, 1, none⟩ = some (.slice A0_1 l0_1.length c0_1) := (blk_cell BK162.out 1).trans rfl; have hcz6_2 : w5.cell? ⟨gb162, 2, none⟩ = some (.slice A0_2 l0_2.length c0_2) := (blk_cell BK162.out 2).trans rfl; have hcz6_3 : w5.cell? ⟨gb162, 3, none⟩ = some (.slice A0_3 l0_3.length c0_3) := (blk_cell BK162.out 3).trans rfl; have hcz6_4 : w5.cell? ⟨gb162, 4, none⟩ = some (.int .i64 a0_4) := (blk_cell BK162.out 4).trans rfl; have hcz6_5 : w5.cell? ⟨gb162, 5, none⟩ = some (.int .i64 a0_5) := (blk_cell BK162.out 5).trans rfl; have hcz6_6 : w5.cell? ⟨gb162, 6, none⟩ = some (.slice A0_6 l0_6.length c0_6) := (blk_cell BK162.out 6).trans rfl; have hcz6_7 : w5.cell? ⟨gb162, 7, none⟩ = some (.slice A0_7 l0_7.length c0_7) := (blk_cell BK162.out 7).trans rfl; have hcz6_8 : w5.cell? ⟨gb162, 8, none⟩ = some (.slice A0_8 l0_8.length c0_8) := (blk_cell BK162.out 8).trans rfl; have hcz6_9 : w5.cell? ⟨gb162, 9, none⟩ = some (.slice A0_9 l0_9.length c0_9) := (blk_cell BK162.out 9).trans rfl))
   go_ret
   exact ⟨by first | rfl | (simp [errW_none, errW_some] <;> rfl) | (simp [*, errW_none, errW_some] <;> rfl), by repeat (first | (with_reducible first | exact HB.out | apply below_alloc | apply pw_below_drewN | apply below_drew1 | refine below_set ?_ GE162.out) | exact HB.out)⟩

/-- A state of type 121 at block g of W; what its slices lead to came in by w0. -/
def IsS121 (w0 W : World) (g : Nat) (f0 : List Int) (f1 : List Int) (f2 : List Int) (f3 : List Bool) (f4 : List Int) (f5 : List Int) (f6 : List Int) : Prop := ∃ A0 c0, ∃ A1 c1, ∃ A2 c2, ∃ A3 c3, ∃ A4 c4, ∃ A5 c5, ∃ A6 c6, W.heap[g]? = some (.cells #[.slice A0 f0.length c0, .slice A1 f1.length c1, .slice A2 f2.length c2, .slice A3 f3.length c3, .slice A4 f4.length c4, .slice A5 f5.length c5, .slice A6 f6.length c6] 121 (0, 0)) ∧ w0.heap.size ≤ g ∧ Kd.C (Kd.int .i64) w0 A0 f0.length f0 ∧ Kd.C (Kd.int .i64) w0 A1 f1.length f1 ∧ Kd.C (Kd.int .i64) w0 A2 f2.length f2 ∧ Kd.C Kd.bool w0 A3 f3.length f3 ∧ Kd.C (Kd.int .i64) w0 A4 f4.length f4 ∧ Kd.C (Kd.int .i64) w0 A5 f5.length f5 ∧ Kd.C (Kd.int .i64) w0 A6 f6.length f6
theorem IsS121.grown {w0 W : World} {g : Nat} {f0 : List Int} {f1 : List Int} {f2 : List Int} {f3 : List Bool} {f4 : List Int} {f5 : List Int} {f6 : List Int} {W1 : World} {row : Option Nat} (h : IsS121 w0 W g f0 f1 f2 f3 f4 f5 f6) (hw : W.grownBy W1 row) (hne : some g ≠ row) : IsS121 w0 W1 g f0 f1 f2 f3 f4 f5 f6 := by
 obtain ⟨A0, c0, A1, c1, A2, c2, A3, c3, A4, c4, A5, c5, A6, c6, hb, hg, hr0, hr1, hr2, hr3, hr4, hr5, hr6⟩ := h
 exact ⟨A0, c0, A1, c1, A2, c2, A3, c3, A4, c4, A5, c5, A6, c6, blk_grown hb hw hne, hg, hr0, hr1, hr2, hr3, hr4, hr5, hr6⟩
theorem IsS121.fresh {w0 W : World} {g : Nat} {f0 : List Int} {f1 : List Int} {f2 : List Int} {f3 : List Bool} {f4 : List Int} {f5 : List Int} {f6 : List Int} (h : IsS121 w0 W g f0 f1 f2 f3 f4 f5 f6) : ∀ k, W.heap.size ≤ k → k ≠ g := by
 obtain ⟨A0, c0, A1, c1, A2, c2, A3, c3, A4, c4, A5, c5, A6, c6, hb, hg, hr0, hr1, hr2, hr3, hr4, hr5, hr6⟩ := h
 exact Kd.freshB hb
theorem IsS121.kept {w0 W : World} {g : Nat} {f0 : List Int} {f1 : List Int} {f2 : List Int} {f3 : List Bool} {f4 : List Int} {f5 : List Int} {f6 : List Int} {W1 : World} {S : Nat → Prop} (h : IsS121 w0 W g f0 f1 f2 f3 f4 f5 f6) (hk : Kept W W1 S) (hne : ¬ S g) : IsS121 w0 W1 g f0 f1 f2 f3 f4 f5 f6 := by
 obtain ⟨A0, c0, A1, c1, A2, c2, A3, c3, A4, c4, A5, c5, A6, c6, hb, hg, hr0, hr1, hr2, hr3, hr4, hr5, hr6⟩ := h
 exact ⟨A0, c0, A1, c1, A2, c2, A3, c3, A4, c4, A5, c5, A6, c6, blk_kept hb hk hne, hg, hr0, hr1, hr2, hr3, hr4, hr5, hr6⟩
theorem IsS121.below {w0 W : World} {g : Nat} {f0 : List Int} {f1 : List Int} {f2 : List Int} {f3 : List Bool} {f4 : List Int} {f5 : List Int} {f6 : List Int} {W1 : World} (h : IsS121 w0 W g f0 f1 f2 f3 f4 f5 f6) (hw : Below W.heap.size W W1) : IsS121 w0 W1 g f0 f1 f2 f3 f4 f5 f6 := h.grown (Go.Proofs.YtgalkkolbobmbaaGreatW.PrintWords.grown_of_below hw none) (by simp)
theorem IsS121.alloc {w0 W : World} {g : Nat} {f0 : List Int} {f1 : List Int} {f2 : List Int} {f3 : List Bool} {f4 : List Int} {f5 : List Int} {f6 : List Int} (h : IsS121 w0 W g f0 f1 f2 f3 f4 f5 f6) (o : Obj) : IsS121 w0 (W.alloc o) g f0 f1 f2 f3 f4 f5 f6 := h.below (below_alloc (Below.refl _ _) o)
theorem IsS121.drewN {w0 W : World} {g : Nat} {f0 : List Int} {f1 : List Int} {f2 : List Int} {f3 : List Bool} {f4 : List Int} {f5 : List Int} {f6 : List Int} (h : IsS121 w0 W g f0 f1 f2 f3 f4 f5 f6) (m : Nat) : IsS121 w0 (W.drewN m) g f0 f1 f2 f3 f4 f5 f6 := h
theorem IsS121.drew {w0 W : World} {g : Nat} {f0 : List Int} {f1 : List Int} {f2 : List Int} {f3 : List Bool} {f4 : List Int} {f5 : List Int} {f6 : List Int} (h : IsS121 w0 W g f0 f1 f2 f3 f4 f5 f6) : IsS121 w0 W.drew g f0 f1 f2 f3 f4 f5 f6 := h
theorem IsS121.at_ {w0 W : World} {g : Nat} {f0 : List Int} {f1 : List Int} {f2 : List Int} {f3 : List Bool} {f4 : List Int} {f5 : List Int} {f6 : List Int} {w' : World} {m : Nat} (hq : W.drewN m = w') (h : IsS121 w0 W g f0 f1 f2 f3 f4 f5 f6) : IsS121 w0 w' g f0 f1 f2 f3 f4 f5 f6 := by subst hq; exact IsS121.drewN h m
theorem IsS121.apart {w0 W : World} {g : Nat} {f0 : List Int} {f1 : List Int} {f2 : List Int} {f3 : List Bool} {f4 : List Int} {f5 : List Int} {f6 : List Int} {α : Type} {d : Kd α} {e : Nat} {base : Nat} {ok : Nat → Prop} {v : Value} {xs : List α} (h : IsS121 w0 W g f0 f1 f2 f3 f4 f5 f6) (ho : d.R e W base ok v xs) (ht : ∀ q, q ∈ e :: d.E → q ≠ 121) : d.R e W base (fun k => ok k ∧ k ≠ g) v xs := by
 obtain ⟨A0, c0, A1, c1, A2, c2, A3, c3, A4, c4, A5, c5, A6, c6, hb, hg, hr0, hr1, hr2, hr3, hr4, hr5, hr6⟩ := h
 exact Kd.R_types ho hb ht
theorem IsS121.own_ne {w0 W : World} {g : Nat} {f0 : List Int} {f1 : List Int} {f2 : List Int} {f3 : List Bool} {f4 : List Int} {f5 : List Int} {f6 : List Int} {α : Type} {d : Kd α} {e : Nat} {base : Nat} {ok : Nat → Prop} {v : Value} {xs : List α} (h : IsS121 w0 W g f0 f1 f2 f3 f4 f5 f6) (ho : d.R e W base ok v xs) (ht : e ≠ 121) : some g ≠ v.ownBlock := by
 obtain ⟨A0, c0, A1, c1, A2, c2, A3, c3, A4, c4, A5, c5, A6, c6, hb, hg, hr0, hr1, hr2, hr3, hr4, hr5, hr6⟩ := h
 exact Kd.R_ne ho hb ht
theorem IsS121.lt {w0 W : World} {g : Nat} {f0 : List Int} {f1 : List Int} {f2 : List Int} {f3 : List Bool} {f4 : List Int} {f5 : List Int} {f6 : List Int} (h : IsS121 w0 W g f0 f1 f2 f3 f4 f5 f6) : g < W.heap.size := by
 obtain ⟨A0, c0, A1, c1, A2, c2, A3, c3, A4, c4, A5, c5, A6, c6, hb, hg, hr0, hr1, hr2, hr3, hr4, hr5, hr6⟩ := h
 exact blk_lt hb
theorem IsS121.ge {w0 W : World} {g : Nat} {f0 : List Int} {f1 : List Int} {f2 : List Int} {f3 : List Bool} {f4 : List Int} {f5 : List Int} {f6 : List Int} (h : IsS121 w0 W g f0 f1 f2 f3 f4 f5 f6) : w0.heap.size ≤ g := by
 obtain ⟨A0, c0, A1, c1, A2, c2, A3, c3, A4, c4, A5, c5, A6, c6, hb, hg, hr0, hr1, hr2, hr3, hr4, hr5, hr6⟩ := h
 exact hg
theorem IsS121.far {w0 W : World} {g : Nat} {f0 : List Int} {f1 : List Int} {f2 : List Int} {f3 : List Bool} {f4 : List Int} {f5 : List Int} {f6 : List Int} {p : Addr} (h : IsS121 w0 W g f0 f1 f2 f3 f4 f5 f6) (hne : g ≠ p.block) (u : Value) : IsS121 w0 (W.setCell p u) g f0 f1 f2 f3 f4 f5 f6 := by
 obtain ⟨A0, c0, A1, c1, A2, c2, A3, c3, A4, c4, A5, c5, A6, c6, hb, hg, hr0, hr1, hr2, hr3, hr4, hr5, hr6⟩ := h
 exact ⟨A0, c0, A1, c1, A2, c2, A3, c3, A4, c4, A5, c5, A6, c6, blk_far hb hne u, hg, hr0, hr1, hr2, hr3, hr4, hr5, hr6⟩
theorem IsS121.new (w0 W : World) (A0 : Option Addr) (c0 : Nat) (A1 : Option Addr) (c1 : Nat) (A2 : Option Addr) (c2 : Nat) (A3 : Option Addr) (c3 : Nat) (A4 : Option Addr) (c4 : Nat) (A5 : Option Addr) (c5 : Nat) (A6 : Option Addr) (c6 : Nat) (f0 : List Int) (f1 : List Int) (f2 : List Int) (f3 : List Bool) (f4 : List Int) (f5 : List Int) (f6 : List Int) (hB : Below w0.heap.size w0 W) (hr0 : Kd.C (Kd.int .i64) w0 A0 f0.length f0) (hr1 : Kd.C (Kd.int .i64) w0 A1 f1.length f1) (hr2 : Kd.C (Kd.int .i64) w0 A2 f2.length f2) (hr3 : Kd.C Kd.bool w0 A3 f3.length f3) (hr4 : Kd.C (Kd.int .i64) w0 A4 f4.length f4) (hr5 : Kd.C (Kd.int .i64) w0 A5 f5.length f5) (hr6 : Kd.C (Kd.int .i64) w0 A6 f6.length f6) : IsS121 w0 (W.alloc (.cells #[.slice A0 f0.length c0, .slice A1 f1.length c1, .slice A2 f2.length c2, .slice A3 f3.length c3, .slice A4 f4.length c4, .slice A5 f5.length c5, .slice A6 f6.length c6] 121)) W.heap.size f0 f1 f2 f3 f4 f5 f6 := ⟨A0, c0, A1, c1, A2, c2, A3, c3, A4, c4, A5, c5, A6, c6, by simpa using heap_alloc_new W _, hB.size, hr0, hr1, hr2, hr3, hr4, hr5, hr6⟩

-- NOT PRINTED: function 72 (vm_Machine_run)

-- NOT PRINTED: function 70 (vm_Machine_made)

-- NOT PRINTED: function 27 (vm_Machine_Deriv)

/-- A state of type 124 at block g of W; what its slices lead to came in by w0. -/
def IsS124 (w0 W : World) (g : Nat) (f0 : Int) : Prop := W.heap[g]? = some (.cells #[.int .i64 f0] 124 (0, 0)) ∧ w0.heap.size ≤ g
theorem IsS124.grown {w0 W : World} {g : Nat} {f0 : Int} {W1 : World} {row : Option Nat} (h : IsS124 w0 W g f0) (hw : W.grownBy W1 row) (hne : some g ≠ row) : IsS124 w0 W1 g f0 := by
 obtain ⟨hb, hg⟩ := h
 exact ⟨blk_grown hb hw hne, hg⟩
theorem IsS124.fresh {w0 W : World} {g : Nat} {f0 : Int} (h : IsS124 w0 W g f0) : ∀ k, W.heap.size ≤ k → k ≠ g := by
 obtain ⟨hb, hg⟩ := h
 exact Kd.freshB hb
theorem IsS124.kept {w0 W : World} {g : Nat} {f0 : Int} {W1 : World} {S : Nat → Prop} (h : IsS124 w0 W g f0) (hk : Kept W W1 S) (hne : ¬ S g) : IsS124 w0 W1 g f0 := by
 obtain ⟨hb, hg⟩ := h
 exact ⟨blk_kept hb hk hne, hg⟩
theorem IsS124.below {w0 W : World} {g : Nat} {f0 : Int} {W1 : World} (h : IsS124 w0 W g f0) (hw : Below W.heap.size W W1) : IsS124 w0 W1 g f0 := h.grown (Go.Proofs.YtgalkkolbobmbaaGreatW.PrintWords.grown_of_below hw none) (by simp)
theorem IsS124.alloc {w0 W : World} {g : Nat} {f0 : Int} (h : IsS124 w0 W g f0) (o : Obj) : IsS124 w0 (W.alloc o) g f0 := h.below (below_alloc (Below.refl _ _) o)
theorem IsS124.drewN {w0 W : World} {g : Nat} {f0 : Int} (h : IsS124 w0 W g f0) (m : Nat) : IsS124 w0 (W.drewN m) g f0 := h
theorem IsS124.drew {w0 W : World} {g : Nat} {f0 : Int} (h : IsS124 w0 W g f0) : IsS124 w0 W.drew g f0 := h
theorem IsS124.at_ {w0 W : World} {g : Nat} {f0 : Int} {w' : World} {m : Nat} (hq : W.drewN m = w') (h : IsS124 w0 W g f0) : IsS124 w0 w' g f0 := by subst hq; exact IsS124.drewN h m
theorem IsS124.apart {w0 W : World} {g : Nat} {f0 : Int} {α : Type} {d : Kd α} {e : Nat} {base : Nat} {ok : Nat → Prop} {v : Value} {xs : List α} (h : IsS124 w0 W g f0) (ho : d.R e W base ok v xs) (ht : ∀ q, q ∈ e :: d.E → q ≠ 124) : d.R e W base (fun k => ok k ∧ k ≠ g) v xs := by
 obtain ⟨hb, hg⟩ := h
 exact Kd.R_types ho hb ht
theorem IsS124.own_ne {w0 W : World} {g : Nat} {f0 : Int} {α : Type} {d : Kd α} {e : Nat} {base : Nat} {ok : Nat → Prop} {v : Value} {xs : List α} (h : IsS124 w0 W g f0) (ho : d.R e W base ok v xs) (ht : e ≠ 124) : some g ≠ v.ownBlock := by
 obtain ⟨hb, hg⟩ := h
 exact Kd.R_ne ho hb ht
theorem IsS124.lt {w0 W : World} {g : Nat} {f0 : Int} (h : IsS124 w0 W g f0) : g < W.heap.size := by
 obtain ⟨hb, hg⟩ := h
 exact blk_lt hb
theorem IsS124.ge {w0 W : World} {g : Nat} {f0 : Int} (h : IsS124 w0 W g f0) : w0.heap.size ≤ g := by
 obtain ⟨hb, hg⟩ := h
 exact hg
theorem IsS124.far {w0 W : World} {g : Nat} {f0 : Int} {p : Addr} (h : IsS124 w0 W g f0) (hne : g ≠ p.block) (u : Value) : IsS124 w0 (W.setCell p u) g f0 := by
 obtain ⟨hb, hg⟩ := h
 exact ⟨blk_far hb hne u, hg⟩
theorem IsS124.new (w0 W : World) (f0 : Int) (hB : Below w0.heap.size w0 W) : IsS124 w0 (W.alloc (.cells #[.int .i64 f0] 124)) W.heap.size f0 := ⟨by simpa using heap_alloc_new W _, hB.size⟩

-- NOT PRINTED: function 75 (heun_each)

-- NOT PRINTED: function 74 (heun_sum_along)

-- NOT PRINTED: function 34 (heun_Step)

-- NOT PRINTED: function 5 (astrolabelaw19_HeunTwice)

-- NOT PRINTED: function 35 (heun_Euler)

-- NOT PRINTED: function 6 (astrolabelaw19_HeunEven)


structure ObjC (w : World) (o : S26) (A0 A1 A2 A3 A6 A7 A8 A9 : Option Addr) (c0 c1 c2 c3 c6 c7 c8 c9 : Nat) : Prop where
 r0 : Kd.C (Kd.int .i64) w A0 o.f0.length o.f0
 r1 : Kd.C (Kd.int .i64) w A1 o.f1.length o.f1
 r2 : Kd.C (Kd.int .i64) w A2 o.f2.length o.f2
 r3 : Kd.C (Kd.int .i64) w A3 o.f3.length o.f3
 r6 : Kd.C k49 w A6 o.f6.length o.f6
 r7 : Kd.C k49 w A7 o.f7.length o.f7
 r8 : Kd.C k49 w A8 o.f8.length o.f8
 r9 : Kd.C k49 w A9 o.f9.length o.f9
 h0 : o.f0.length ≤ c0
 h1 : o.f1.length ≤ c1
 h2 : o.f2.length ≤ c2
 h3 : o.f3.length ≤ c3
 h6 : o.f6.length ≤ c6
 h7 : o.f7.length ≤ c7
 h8 : o.f8.length ≤ c8
 h9 : o.f9.length ≤ c9
theorem ObjC.below {w w' : World} {o : S26} {A0 A1 A2 A3 A6 A7 A8 A9 : Option Addr} {c0 c1 c2 c3 c6 c7 c8 c9 : Nat} (h : ObjC w o A0 A1 A2 A3 A6 A7 A8 A9 c0 c1 c2 c3 c6 c7 c8 c9) (hb : Below w.heap.size w w') : ObjC w' o A0 A1 A2 A3 A6 A7 A8 A9 c0 c1 c2 c3 c6 c7 c8 c9 :=
 ⟨Kd.C_below h.r0 hb, Kd.C_below h.r1 hb, Kd.C_below h.r2 hb, Kd.C_below h.r3 hb, Kd.C_below h.r6 hb, Kd.C_below h.r7 hb, Kd.C_below h.r8 hb, Kd.C_below h.r9 hb, h.h0, h.h1, h.h2, h.h3, h.h6, h.h7, h.h8, h.h9⟩
/-- A list of int64 as_ it lies in memory. -/
structure LstC (w : World) (l : List Int) (A : Option Addr) (c : Nat) : Prop where
 r : Kd.C (Kd.int .i64) w A l.length l
 h : l.length ≤ c
theorem LstC.below {w w' : World} {l : List Int} {A : Option Addr} {c : Nat} (h : LstC w l A c) (hb : Below w.heap.size w w') : LstC w' l A c := ⟨Kd.C_below h.r hb, h.h⟩
theorem LstC.old {w w' : World} {l : List Int} {A : Option Addr} {c n : Nat} (h : LstC w l A c) (hb : Below w.heap.size w w') (hn : w.heap.size ≤ n) : Old n w' A l := ⟨Kd.C_below h.r hb, fun ad ha hp => by
 subst ha
 have := C_lt h.r hp (by decide)
 omega⟩
section
variable {w : World} {o : S26} {A0 A1 A2 A3 A6 A7 A8 A9 : Option Addr} {c0 c1 c2 c3 c6 c7 c8 c9 : Nat}
theorem right17_o (h : ObjC w o A0 A1 A2 A3 A6 A7 A8 A9 c0 c1 c2 c3 c6 c7 c8 c9) (k : Nat) (r : Bool) (hr : astrolaberef17_Right.f k o.f0 o.f1 o.f2 o.f3 o.f4 o.f5 o.f6 o.f7 o.f8 o.f9 = some r) :
 Calls Tryz.prog 22 #[.agg #[.slice A0 o.f0.length c0, .slice A1 o.f1.length c1, .slice A2 o.f2.length c2, .slice A3 o.f3.length c3, .int .i64 o.f4, .int .i64 o.f5, .slice A6 o.f6.length c6, .slice A7 o.f7.length c7, .slice A8 o.f8.length c8, .slice A9 o.f9.length c9]] w fun e w' => e = .returned (.bool r) ∧ Below w.heap.size w w' :=
 astrolaberef17_Right.calls k _ _ _ _ _ _ _ _ _ _ _ _ _ _ _ _ _ _ _ _ _ _ _ _ _ _ r w h.r0 h.h0 h.r1 h.h1 h.r2 h.h2 h.r3 h.h3 h.r6 h.h6 h.r7 h.h7 h.r8 h.h8 h.r9 h.h9 hr
theorem new_o (h : ObjC w o A0 A1 A2 A3 A6 A7 A8 A9 c0 c1 c2 c3 c6 c7 c8 c9) (G : Good o) :
 Calls Tryz.prog 23 #[.agg #[.slice A0 o.f0.length c0, .slice A1 o.f1.length c1, .slice A2 o.f2.length c2, .slice A3 o.f3.length c3, .int .i64 o.f4, .int .i64 o.f5, .slice A6 o.f6.length c6, .slice A7 o.f7.length c7, .slice A8 o.f8.length c8, .slice A9 o.f9.length c9]] w fun e w' =>
  ∃ Bm : Nat, e = .returned (.tuple #[.pointer (some ⟨Bm, 0, none⟩), .int .i64 0]) ∧ MachO w.heap.size Bm o 0 w' ∧ Below w.heap.size w w' :=
 new_any _ _ _ _ _ _ _ _ _ _ _ _ _ _ _ _ _ _ _ _ _ _ _ _ _ _ w h.r0 h.h0 h.r1 h.h1 h.r2 h.h2 h.r3 h.h3 h.r6 h.h6 h.r7 h.h7 h.r8 h.h8 h.r9 h.h9 G.right
end
theorem Nw.of_R' {e base : Nat} {w : World} {ok : Nat → Prop} {v : Value} {l : List Int} (h : (Kd.int .i64).R e w base ok v l) : ∃ A c, v = .slice A l.length c ∧ l.length ≤ c ∧ Nw base w A l := by
 obtain ⟨A, c, hv, hl, hC, hn⟩ := R_list (Kd.R_mono (Kd.R_bound h) (ok' := fun k => base ≤ k) (fun _ hk => hk.2.1))
 exact ⟨A, c, hv, hl, hC, hn⟩
theorem some_ite {c : Prop} [Decidable c] {x y : Bool} : ∃ r, (if c then some x else some y) = some r := by
 by_cases h : c
 · exact ⟨x, if_pos h⟩
 · exact ⟨y, if_neg h⟩
theorem great16_some (o : S26) : ∃ r, astrolaberef16_Great.f o.f0 o.f1 o.f2 o.f3 o.f4 o.f5 o.f6 o.f7 o.f8 o.f9 = some r := some_ite
theorem lens_of {o : S26} (h : G26 o) : (∀ j, j < 4 → ((four o.f6 o.f7 o.f8 o.f9 j).length : Int) ≤ 140737488351232) ∧ (o.f0.length : Int) ≤ 140737488351232 ∧ (o.f1.length : Int) ≤ 140737488351232 := by
 obtain ⟨h0, h1, -, -, -, -, h6, h7, h8, h9⟩ := h
 refine ⟨fun j hj => ?_, by omega, by omega⟩
 rcases (by omega : j = 0 ∨ j = 1 ∨ j = 2 ∨ j = 3) with rfl | rfl | rfl | rfl <;> simp only [four] <;> omega
/-- The document's Right: it answers; if it says yes, the object is good. -/
theorem right_good {o : S26} (h : G26 o) : ∃ k r, astrolaberef17_Right.f k o.f0 o.f1 o.f2 o.f3 o.f4 o.f5 o.f6 o.f7 o.f8 o.f9 = some r ∧ (r = true → Good o) := by
 obtain ⟨q1, q2, q3⟩ := lens_of h
 obtain ⟨r, hr, hi⟩ := ref_right (x := o.f4) (y := o.f5) (c := o.f2) (d := o.f3) q1 q2 q3
 obtain ⟨k, hk⟩ := hr.rounds
 exact ⟨k, r, hk, fun e => good_of h (hi e)⟩
theorem allIn_of {l : List Int} (h : ∀ x ∈ l, (Lit.int .i64 x).wf = true) : AllIn l := fun x hx => in64_of (h x hx)

def gr16 (o : S26) : Bool := (astrolaberef16_Great.f o.f0 o.f1 o.f2 o.f3 o.f4 o.f5 o.f6 o.f7 o.f8 o.f9).getD true
theorem gr16_some (o : S26) : astrolaberef16_Great.f o.f0 o.f1 o.f2 o.f3 o.f4 o.f5 o.f6 o.f7 o.f8 o.f9 = some (gr16 o) := by
 obtain ⟨r, hr⟩ := great16_some o
 unfold gr16
 rw [hr]
 rfl
/-- Is a list greater than 300, or an object great, or its Zero longer than 200? -/
def gr20 (n : Nat) (L : Nat → Nat) (o : S26) : Bool := (List.range n).any (fun j => decide (300 < L j)) || (gr16 o || decide (200 < o.f7.length))
section
variable {w : World} {o : S26} {A0 A1 A2 A3 A6 A7 A8 A9 : Option Addr} {c0 c1 c2 c3 c6 c7 c8 c9 : Nat}
theorem great16_o (h : ObjC w o A0 A1 A2 A3 A6 A7 A8 A9 c0 c1 c2 c3 c6 c7 c8 c9) :
 Calls Tryz.prog 20 #[.agg #[.slice A0 o.f0.length c0, .slice A1 o.f1.length c1, .slice A2 o.f2.length c2, .slice A3 o.f3.length c3, .int .i64 o.f4, .int .i64 o.f5, .slice A6 o.f6.length c6, .slice A7 o.f7.length c7, .slice A8 o.f8.length c8, .slice A9 o.f9.length c9]] w fun e w' => e = .returned (.bool (gr16 o)) ∧ Below w.heap.size w w' :=
 astrolaberef16_Great.calls _ _ _ _ _ _ _ _ _ _ _ _ _ _ _ _ _ _ _ _ _ _ _ _ _ _ _ w h.r0 h.h0 h.r1 h.h1 h.r2 h.h2 h.r3 h.h3 h.r6 h.h6 h.r7 h.h7 h.r8 h.h8 h.r9 h.h9 (gr16_some o)
set_option maxHeartbeats 1000000 in
set_option maxRecDepth 100000 in
theorem fits18_o (Ai As Am : Option Addr) (ci cs cm ni ns nm : Nat) :
 Calls Tryz.prog 40 #[.agg #[.slice A0 o.f0.length c0, .slice A1 o.f1.length c1, .slice A2 o.f2.length c2, .slice A3 o.f3.length c3, .int .i64 o.f4, .int .i64 o.f5, .slice A6 o.f6.length c6, .slice A7 o.f7.length c7, .slice A8 o.f8.length c8, .slice A9 o.f9.length c9], .slice Ai ni ci, .slice As ns cs, .slice Am nm cm] w
  fun e w' => e = .returned (.bool (decide (ni = o.f0.length ∧ ns = o.f2.length ∧ nm = o.f3.length))) ∧ Below w.heap.size w w' := by
 by_cases h0 : ni = o.f0.length
 · by_cases h2 : ns = o.f2.length
   · by_cases h3 : nm = o.f3.length
     · have hh : decide (ni = o.f0.length ∧ ns = o.f2.length ∧ nm = o.f3.length) = true := decide_eq_true ⟨h0, h2, h3⟩
       rw [hh]
       subst h0 h2 h3
       go_enter Tryz.func40, Tryz.ntmps40
       go_wp2
       go_ret
       exact ⟨by first | rfl | simp [e3], below_alloc (Below.refl _ _) _⟩
     · have hh : decide (ni = o.f0.length ∧ ns = o.f2.length ∧ nm = o.f3.length) = false := decide_eq_false (fun h => h3 h.2.2)
       have e3 : ((nm : Int) == (o.f3.length : Int)) = false := by rw [beq_eq_false_iff_ne]; omega
       rw [hh]
       subst h0 h2
       go_enter Tryz.func40, Tryz.ntmps40
       go_wp2
       go_ret
       exact ⟨by first | rfl | simp [e3], below_alloc (Below.refl _ _) _⟩
   · have hh : decide (ni = o.f0.length ∧ ns = o.f2.length ∧ nm = o.f3.length) = false := decide_eq_false (fun h => h2 h.2.1)
     have e3 : ((ns : Int) == (o.f2.length : Int)) = false := by rw [beq_eq_false_iff_ne]; omega
     rw [hh]
     subst h0
     go_enter Tryz.func40, Tryz.ntmps40
     go_wp2
     go_ret
     exact ⟨by first | rfl | simp [e3], below_alloc (Below.refl _ _) _⟩
 · have hh : decide (ni = o.f0.length ∧ ns = o.f2.length ∧ nm = o.f3.length) = false := decide_eq_false (fun h => h0 h.1)
   have e3 : ((ni : Int) == (o.f0.length : Int)) = false := by rw [beq_eq_false_iff_ne]; omega
   rw [hh]
   go_enter Tryz.func40, Tryz.ntmps40
   go_wp2
   go_ret
   exact ⟨by first | rfl | simp [e3], below_alloc (Below.refl _ _) _⟩
set_option maxHeartbeats 1000000 in
set_option maxRecDepth 100000 in
theorem great20_o (h : ObjC w o A0 A1 A2 A3 A6 A7 A8 A9 c0 c1 c2 c3 c6 c7 c8 c9) (B n : Nat) (P : Nat → Option Addr) (L C : Nat → Nat) (hn : n ≤ 100) (hrow : ∀ j, j < n → w.cell? ⟨B, j, none⟩ = some (.slice (P j) (L j) (C j))) :
 Calls Tryz.prog 52 #[.agg #[.slice A0 o.f0.length c0, .slice A1 o.f1.length c1, .slice A2 o.f2.length c2, .slice A3 o.f3.length c3, .int .i64 o.f4, .int .i64 o.f5, .slice A6 o.f6.length c6, .slice A7 o.f7.length c7, .slice A8 o.f8.length c8, .slice A9 o.f9.length c9], .slice (some ⟨B, 0, none⟩) n n] w fun e w' => e = .returned (.bool (gr20 n L o)) ∧ Below w.heap.size w w' := by
 have HO := Aside0.mk h
 have HR := Aside0.mk hrow
 clear h hrow
 go_enter Tryz.func52, Tryz.ntmps52
 go_wp2_with fail
 obtain ⟨w1, hw1⟩ : ∃ z, w.alloc (Obj.cells #[.slice A0 o.f0.length c0, .slice A1 o.f1.length c1, .slice A2 o.f2.length c2, .slice A3 o.f3.length c3, .int .i64 o.f4, .int .i64 o.f5, .slice A6 o.f6.length c6, .slice A7 o.f7.length c7, .slice A8 o.f8.length c8, .slice A9 o.f9.length c9] 26) = z := ⟨_, rfl⟩
 have hb1 : Below w.heap.size w w1 := by rw [← hw1]; exact below_alloc (Below.refl _ _) _
 have X1 := Aside0.mk (show w1.heap[w.heap.size]? = some (.cells #[.slice A0 o.f0.length c0, .slice A1 o.f1.length c1, .slice A2 o.f2.length c2, .slice A3 o.f3.length c3, .int .i64 o.f4, .int .i64 o.f5, .slice A6 o.f6.length c6, .slice A7 o.f7.length c7, .slice A8 o.f8.length c8, .slice A9 o.f9.length c9] 26 (0, 0)) by rw [← hw1]; exact blk_new w _)
 rw [hw1]
 clear hw1
 have HR1 := Aside0.mk (show ∀ j, j < n → w1.cell? ⟨B, j, none⟩ = some (.slice (P j) (L j) (C j)) from fun j hj => (World.cell?_of_block (hb1.block B (World.block_lt_of_cell? w _ (HR.out j hj)))).trans (HR.out j hj))
 have HO1 := Aside0.mk (HO.out.below hb1)
 have B1 := Aside0.mk hb1
 clear hb1 HR HO
 go_loopw [5] (fun i wr => ∃ j : Nat, i = .int .i64 j ∧ j ≤ n ∧ (∀ k, k < j → L k ≤ 300) ∧ Aside0 (wr = w1)) (fun i _ => n - (intOf i).toNat)
 case atStart => exact ⟨0, rfl, Nat.zero_le _, fun k hk => absurd hk (by omega), ⟨rfl⟩⟩
 case round =>
  obtain ⟨j, rfl, hj, hk, HW⟩ := hrel
  obtain rfl := HW.out
  by_cases c : j < n
  · have hlt : decide ((j : Int) < (n : Int)) = true := decide_eq_true (by omega)
    have h0 : (0 : Int) ≤ (j : Int) := by omega
    have h1 : (j : Int) < (n : Int) := by omega
    have hc := HR1.out j c
    by_cases d : 300 < L j
    · have hd : decide ((L j : Int) > 300) = true := decide_eq_true (by omega)
      go_wp2_with fail
      go_ret
      have hg : gr20 n L o = true := by
       unfold gr20
       rw [Bool.or_eq_true]
       exact .inl (List.any_eq_true.2 ⟨j, List.mem_range.2 c, decide_eq_true d⟩)
      rw [hg]
      exact ⟨rfl, B1.out⟩
    · have hd : decide ((L j : Int) > 300) = false := decide_eq_false (by omega)
      go_wp2_with fail
      go_roundw
      case rel => exact ⟨j + 1, by go_num, by omega, fun k hk2 => by rcases Nat.lt_succ_iff_lt_or_eq.1 hk2 with h9 | rfl; exact hk k h9; omega, by first | exact ⟨rfl⟩ | exact ⟨trivial⟩⟩
      case measure => simp [intOf]; omega
  · obtain rfl : j = n := by omega
    have hlt : decide ((j : Int) < (j : Int)) = false := decide_eq_false (by omega)
    have hg : gr20 j L o = (gr16 o || decide (200 < o.f7.length)) := by
     unfold gr20
     rw [show (List.range j).any (fun k => decide (300 < L k)) = false from by rw [List.any_eq_false]; intro k hk2; have := hk k (List.mem_range.1 hk2); simp; omega, Bool.false_or]
    have HG := Aside0.mk hg
    clear hg hk HR1
    have q7 : ∀ x : World, x.heap[w.heap.size]? = some (.cells #[.slice A0 o.f0.length c0, .slice A1 o.f1.length c1, .slice A2 o.f2.length c2, .slice A3 o.f3.length c3, .int .i64 o.f4, .int .i64 o.f5, .slice A6 o.f6.length c6, .slice A7 o.f7.length c7, .slice A8 o.f8.length c8, .slice A9 o.f9.length c9] 26 (0, 0)) → x.cell? ⟨w.heap.size, 7, none⟩ = some (.slice A7 o.f7.length c7) := fun x hx => (blk_cell hx 7).trans rfl
    go_wp2_with (refine wpList_load_row rfl 26 _ rfl w.heap.size rfl 26 #[.slice A0 o.f0.length c0, .slice A1 o.f1.length c1, .slice A2 o.f2.length c2, .slice A3 o.f3.length c3, .int .i64 o.f4, .int .i64 o.f5, .slice A6 o.f6.length c6, .slice A7 o.f7.length c7, .slice A8 o.f8.length c8, .slice A9 o.f9.length c9] (0, 0) _ X1.out Tryz.underlying26 rfl (by kernel_rfl) ?_)
    refine (great16_o HO1.out).mono ?_
    rintro e w2 ⟨rfl, hb2⟩
    have B2 := Aside0.mk (below_step B1.out hb2)
    have q7' : w2.cell? ⟨w.heap.size, 7, none⟩ = some (.slice A7 o.f7.length c7) := q7 w2 ((hb2.block _ (lt_of_block X1.out)).trans X1.out)
    clear hb2 q7
    cases hg : gr16 o with
    | true =>
     go_wp2_with fail
     go_ret
     exact ⟨by rw [HG.out, hg]; rfl, by repeat (first | exact B2.out | apply pw_below_drewN | apply below_drew1)⟩
    | false =>
     by_cases d : 200 < o.f7.length
     · have hd : decide ((o.f7.length : Int) > 200) = true := decide_eq_true (by omega)
       go_wp2_with fail
       go_ret
       exact ⟨by rw [HG.out, hg]; first | rw [decide_eq_true d]; rfl | rw [decide_eq_false d]; rfl, by repeat (first | exact B2.out | apply pw_below_drewN | apply below_drew1)⟩
     · have hd : decide ((o.f7.length : Int) > 200) = false := decide_eq_false (by omega)
       go_wp2_with fail
       go_ret
       exact ⟨by rw [HG.out, hg]; first | rw [decide_eq_true d]; rfl | rw [decide_eq_false d]; rfl, by repeat (first | exact B2.out | apply pw_below_drewN | apply below_drew1)⟩
end
end Go.Proofs.YtgalkkolbobmbaaGreat.V

-- written by myprint.py (wip/tools) out of the translation
namespace Go.Proofs.YtgalkkolbobmbaaGreat.Q
open Go.RowKit Go.Proofs.YtgalkkolbobmbaaGreatW.PrintWords Go.Proofs.YtgalkkolbobmbaaGreatW.PrintLast Go.Proofs.YtgalkkolbobmbaaGreatW.PrintMore
attribute [local go_sem] max2_int min2_int max_two min_two max_three min_three max_four min_four   -- for this text's walks alone
set_option linter.unusedVariables false
set_option linter.unusedSimpArgs false

def errW : Option Int → Value
 | none => .nilIface
 | some c => .iface 0 (.int .i64 c)
theorem errW_none : errW none = .nilIface := rfl
theorem errW_some (c : Int) : errW (some c) = .iface 0 (.int .i64 c) := rfl

theorem info2 : (Tryz.prog.info? 2).map (fun i => (i.zero, i.size, i.bytes)) = some (some (.int .i64 0), 1, 8) := by kernel_rfl
theorem info4 : (Tryz.prog.info? 4).map (fun i => (i.zero, i.size, i.bytes)) = some (some (.bool false), 1, 1) := by kernel_rfl
end Go.Proofs.YtgalkkolbobmbaaGreat.Q
