/- The Go function ast.Tree. -/
import Derived.Maps.AppendAt
import Derived.Maps.OwnIn
import Derived.Test.YtediidkiedifcaaATree1
namespace Go.Proofs.Ytediidkiedifcaa.Q
set_option linter.unusedVariables false
set_option linter.unusedSimpArgs false
open Go.RowKit Go.Shelf Go.Proofs.YtediidkiedifcaaW.PrintWords Go.Proofs.YtediidkiedifcaaW.PrintLast Go.Proofs.YtediidkiedifcaaW.PrintMore
attribute [local go_sem] Oper.semAt_some
abbrev encI (x : Int) : Value := .int .i64 x
/-- What box B holds between two rounds. -/
def Coll (n₀ B : Nat) (s : List Int) (W : World) : Prop := ∃ v, Boxed W B 28 v ∧ W.ownsRow n₀ 3 1 v s.length (encs encI s) ∧ s.length ≤ 100000
theorem coll_own (n₀ B : Nat) : Own (Coll n₀ B) := holdsRow_own (β := List Int) n₀ B 28 3 1 (fun s => s.length) (fun s => encs encI s) (fun s _ => s.length ≤ 100000)
theorem ownsRow_form {W : World} {base : Nat} {e : TypeId} {size n : Nat} {v : Value} {xs : List Value} (h : W.ownsRow base e size v n xs) : ∃ A c, v = .slice A n c := by
  rcases h.2 with ⟨rfl, rfl⟩ | ⟨g, cap, _, rfl, _⟩
  · exact ⟨_, _, rfl⟩
  · exact ⟨_, _, rfl⟩
theorem ownsRow_lt {W : World} {base : Nat} {e : TypeId} {size n : Nat} {v : Value} {xs : List Value} (h : W.ownsRow base e size v n xs) {k : Nat} (hk : v.ownBlock = some k) : k < W.heap.size := by
  rcases h.2 with ⟨rfl, rfl⟩ | ⟨g, cap, cur, rfl, _, hg, _⟩
  · simp [Value.ownBlock] at hk
  · obtain rfl : g = k := by simpa [Value.ownBlock] using hk
    exact (Array.getElem?_eq_some_iff.1 hg).1
/-- What a round of Tree's body keeps. -/
theorem coll_kb {n₀ B : Nat} {W w1 : World} {v v' : Value} {k m : Nat} {xs ys : List Value} {tmp : Obj} (hv : Boxed W B 28 v) (hrow : W.ownsRow n₀ 3 1 v k xs) (hn₀ : n₀ ≤ W.heap.size) (hB : n₀ ≤ B)
    (hown' : w1.ownsRow n₀ 3 1 v' m ys) (hgrow : (W.alloc tmp).grownBy w1 v.ownBlock) (hat : v'.ownBlock = v.ownBlock ∨ v'.ownBlock = some (W.alloc tmp).heap.size) : KB n₀ B W (w1.setCell ⟨B, 0, none⟩ v') := by
  obtain ⟨hv1, hv2, hr2, hk2, hb2⟩ := hv.appended (by decide) hrow hn₀ hB hown' hgrow
  refine ⟨hb2, fun _ u k hu hk => ?_, fun g cs t ht h1 h2 => ⟨?_, fun u hu hk => ?_⟩⟩
  · rw [hv2.cell] at hu
    cases hu
    exact ownsRow_lt hr2 hk
  · have hne : g ≠ B := by
      rintro rfl
      rw [show W.heap[g]? = _ from hv] at h1
      injection h1 with h1
      injection h1 with _ h1
      exact ht h1.symm
    have hlt := (Array.getElem?_eq_some_iff.1 h1).1
    refine (Below.heap_setCell w1 ⟨B, 0, none⟩ v' g hne).trans ((hgrow.block g (by simp; omega) (fun e => h2 v hv.cell e.symm)).trans ?_)
    exact (Below.heap_alloc _ _ _ hlt).trans h1
  · rw [hv2.cell] at hu
    cases hu
    rcases hat with hat | hat
    · exact h2 v hv.cell (hat.symm.trans hk)
    · rw [hat] at hk
      injection hk with hk
      have hlt := (Array.getElem?_eq_some_iff.1 h1).1
      rw [World.size_alloc] at hk
      omega
noncomputable def ast_Tree.f (l0 : List S45) (l1 : List S31) (a1 : Int) : Option (List Int) :=
  (ast_right.f l0 l1 a1).bind fun b => some (if b = true then (treeAll (a1.toNat + 1) l1 a1).take 100000 else [])
set_option maxHeartbeats 8000000 in
set_option maxRecDepth 100000 in
theorem ast_Tree.calls (A0_0 : Option Addr) (c0_0 : Nat) (l0_0 : List S45) (A0_1 : Option Addr) (c0_1 : Nat) (l0_1 : List S31) (a1 : Int) (r : List Int) (w : World) (hr0_0 : Kd.C k45 w A0_0 l0_0.length l0_0) (hc0_0 : l0_0.length ≤ c0_0) (hr0_1 : Kd.C k31 w A0_1 l0_1.length l0_1) (hc0_1 : l0_1.length ≤ c0_1) (h : ast_Tree.f l0_0 l0_1 a1 = some r) :
    Calls Try.prog 14 #[.agg #[.slice A0_0 l0_0.length c0_0, .slice A0_1 l0_1.length c0_1], .int .i64 a1] w fun e w' => ∃ v0_ : Value, e = .returned (v0_) ∧ Kd.R (Kd.int .i64) 3 w' w.heap.size (fun _ => True) v0_ r ∧ Below w.heap.size w w' := by
  unfold ast_Tree.f at h
  obtain ⟨b, hb, h⟩ := Option.bind_eq_some_iff.1 h
  obtain rfl := Option.some.inj h
  clear h
  refine (callsIn_wide (n := 6)).1 ?_
  have hro : Fence.wide.round = none := rfl
  have h16 : 1 ≤ 6 := by omega
  have hB1 : Below w.heap.size w (w.alloc (Obj.cells #[.slice A0_0 l0_0.length c0_0, .slice A0_1 l0_1.length c0_1] 25)) := (Below.refl _ _).alloc (Nat.le_refl _) _
  have hk : (w.alloc (Obj.cells #[.slice A0_0 l0_0.length c0_0, .slice A0_1 l0_1.length c0_1] 25)).heap[w.heap.size]? = some (.cells #[.slice A0_0 l0_0.length c0_0, .slice A0_1 l0_1.length c0_1] 25 (0, 0)) := blk_new w _
  have HD := Aside0.mk hr0_0
  have HDc := Aside0.mk hc0_0
  have HE := Aside0.mk hr0_1
  have HEc := Aside0.mk hc0_1
  have HRT := Aside0.mk hb
  clear hr0_0 hc0_0 hr0_1 hc0_1 hb
  refine callsIn_of_wp_marks Try.func14 rfl trivial ?_ hro
  simp only [Try.ntmps14, List.size_toArray, List.length_cons, List.length_nil, Nat.reduceAdd, Nat.reduceSub, Array.replicate_succ, Array.replicate_zero, List.push_toArray, List.append_toArray, List.nil_append, List.cons_append]
  gi_upto_region 1 with (fail)
  obtain ⟨W, hW⟩ : ∃ W, W = (w.alloc (Obj.cells #[.slice A0_0 l0_0.length c0_0, .slice A0_1 l0_1.length c0_1] 25)) := ⟨_, rfl⟩
  rw [← hW] at hB1 hk ⊢
  clear hW
  have y0 := (blk_cell hk 0).trans rfl
  have y1 := (blk_cell hk 1).trans rfl
  have HB := Aside0.mk hB1
  have HK := Aside0.mk hk
  have KR := Aside0.mk (ast_right.calls A0_0 c0_0 l0_0 A0_1 c0_1 l0_1 a1 b W (Kd.C_below HD.out hB1) HDc.out (Kd.C_below HE.out hB1) HEc.out HRT.out)
  clear hB1 hk
  cases b with
  | false =>
    gi_wp2_with (refine ⟨trivial, ?_⟩; gi_at_call 33; refine (callsIn_wide.2 KR.out).mono ?_; rintro e w' ⟨rfl, hbb⟩; have HB2 := Aside0.mk hbb; clear hbb)
    refine ⟨.slice none 0 0, by simp [results, Try.f14, go_sem], _, rfl, Kd.R_nil _ _ _ _ _, HB.out.trans (HB2.out.mono HB.out.size)⟩
  | true =>
    gi_upto_region 3 with (refine ⟨trivial, ?_⟩; gi_at_call 33; refine (callsIn_wide.2 KR.out).mono ?_; rintro e w' ⟨rfl, hbb⟩; have HB2 := Aside0.mk (HB.out.trans (hbb.mono HB.out.size)); have HK2 := Aside0.mk (blk_below HK.out hbb); clear hbb)
    have HRr := Aside0.mk (right_true HRT.out)
    obtain ⟨p0, q0, _, _, _⟩ := HRr.out
    clear y0 y1 KR
    gi_upto_region 4 with (fail)
    obtain ⟨V, hV⟩ : ∃ V, V = w'.alloc (Obj.cells #[.slice none 0 0] 28) := ⟨_, rfl⟩
    have hbV : Below w'.heap.size w' V := by rw [hV]; exact (Below.refl _ _).alloc (Nat.le_refl _) _
    have hxV : Boxed V w'.heap.size 28 (.slice none 0 0) := by rw [hV]; exact Boxed.new _ _ _
    rw [← hV]
    have HKV := Aside0.mk (blk_below HK2.out hbV)
    have HBV := Aside0.mk (HB2.out.trans (hbV.mono HB2.out.size))
    obtain ⟨B, hB⟩ : ∃ B, B = w'.heap.size := ⟨_, rfl⟩
    have hle : w.heap.size ≤ B := by rw [hB]; exact HB2.out.size
    rw [← hB] at hxV ⊢
    clear hV hbV hB
    have ky0 : V.cell? ⟨w.heap.size, 0, none⟩ = some (.slice A0_0 l0_0.length c0_0) := (blk_cell HKV.out 0).trans rfl
    have ky1 : V.cell? ⟨w.heap.size, 1, none⟩ = some (.slice A0_1 l0_1.length c0_1) := (blk_cell HKV.out 1).trans rfl
    have HX := Aside0.mk hxV
    clear hxV
    gi_wp2_with (refine ⟨trivial, ?_⟩; gi_at_call 34; refine (walk_in _ _ _ _ _).mono ?_; rintro e w4 ⟨rfl, rfl⟩)
    obtain ⟨W0, hW0⟩ : ∃ V0, V0 = (V.alloc (.cells #[.slice A0_0 l0_0.length c0_0, .slice A0_1 l0_1.length c0_1] 25)).alloc (.cells #[.int .i64 a1] 3) := ⟨_, rfl⟩
    have hb0 : Below V.heap.size V W0 := by rw [hW0]; exact (((Below.refl _ _).alloc (Nat.le_refl _) _).alloc (by simp) _)
    have hp0 : W0.heap[V.heap.size]? = some (.cells #[.slice A0_0 l0_0.length c0_0, .slice A0_1 l0_1.length c0_1] 25 (0, 0)) := by
      rw [hW0]
      exact blk_below (blk_new V _) ((Below.refl _ _).alloc (Nat.le_refl _) _)
    have he0 : W0.heap[V.heap.size + 1]? = some (.cells #[.int .i64 a1] 3 (0, 0)) := by
      rw [hW0]
      have h9 := blk_new (V.alloc (.cells #[.slice A0_0 l0_0.length c0_0, .slice A0_1 l0_1.length c0_1] 25)) (.cells #[.int .i64 a1] 3)
      rw [World.size_alloc] at h9
      exact h9
    have hx0 : Boxed W0 B 28 (.slice none 0 0) := (hb0.block _ HX.out.lt).trans HX.out
    have hbw : Below w.heap.size w W0 := HBV.out.trans (hb0.mono HBV.out.size)
    rw [← hW0]
    have hcon := walk1_stops B V.heap.size (V.heap.size + 1) A0_0 l0_0.length c0_0 A0_1 c0_1 l0_1 w W0 a1 p0 q0 HE.out HEc.out HRr.out.2.2.2.2 (may_par HRr.out.2.2.1) hbw hx0.lt hx0.cell hp0 he0
    obtain ⟨T, hT⟩ : ∃ T, treeAll (a1.toNat + 1) l0_1 a1 = T := ⟨_, rfl⟩
    rw [hT] at hcon
    clear ky0 ky1 hW0 hp0 he0 hb0
    obtain ⟨i0, hi, hz0, hz1, hz2⟩ := info_parts info3
    refine wpIn_rangeFunc_ownG hro h16 (gf := 55) (lb := #[.pointer (some ⟨V.heap.size, 0, none⟩), .pointer (some ⟨V.heap.size + 1, 0, none⟩)]) (by first | rfl | simp [go_sem]) trivial (enters_of Try.func55 (by kernel_rfl) rfl)
      hcon KB.trans (fun W l o o' hl h hc hw => KB.put hx0.lt (Nat.le_trans hle (Nat.le_of_lt hx0.lt)) W l o o' hl h hc hw) (Below.refl _ _) (fun _ => rfl)
      (fun pre W => Coll w.heap.size B pre W ∧ Below w.heap.size w W)
      (fun c pre W => (c = .exit 0 ∧ ∃ out y, pre = out ++ [y] ∧ out.length = 100000 ∧ Coll w.heap.size B out W) ∧ Below w.heap.size w W)
      (OwnFrom.and (Own.from (coll_own _ _) _) (ownFrom_below (Nat.le_refl _) hbw.size))
      (fun c => OwnFrom.and (Own.from (fun s A B' row hs hg hr => by obtain ⟨hc, out, y, e1, e2, h3⟩ := hs; exact ⟨hc, out, y, e1, e2, coll_own _ _ out A B' row h3 hg hr⟩) _) (ownFrom_below (Nat.le_refl _) hbw.size))
      ⟨⟨_, hx0, ⟨rfl, .inl ⟨rfl, rfl⟩⟩, by simp⟩, hbw⟩
      (fun x => { tmps := #[.agg #[.slice A0_0 l0_0.length c0_0, .slice A0_1 l0_1.length c0_1], .int .i64 a1, .pointer (some ⟨w.heap.size, 0, none⟩), undef, .slice none 0 0, .pointer (some ⟨B, 0, none⟩), .int .i64 x, .agg #[.slice A0_0 l0_0.length c0_0, .slice A0_1 l0_1.length c0_1], .int .i64 a1, .bool true, .bool false, .agg #[.slice A0_0 l0_0.length c0_0, .slice A0_1 l0_1.length c0_1], .int .i64 a1, .func (.func 55) #[] #[.pointer (some ⟨V.heap.size, 0, none⟩), .pointer (some ⟨V.heap.size + 1, 0, none⟩)], .int .i64 x, undef, undef, undef, undef, undef, undef, undef, undef], defers := [] }) ?assign ?body ?done ?stop
    case assign =>
      intro l x W K hK
      gi_wp2
      exact hK
    case body =>
      rintro l pre x W ⟨⟨v, hv, hrow, hlen⟩, hB⟩ _
      obtain ⟨Av, cv, rfl⟩ := ownsRow_form hrow
      have hc0 := hv.cell
      have hf0 := hv.frozen
      by_cases h9 : pre.length = 100000
      · have h9' : ((pre.length : Int) == 100000) = true := by rw [h9]; rfl
        gi_wp2
        exact ⟨KeepsFrom.refl _ _, ⟨rfl, pre, x, rfl, h9, _, hv, hrow, hlen⟩, hB⟩
      · have h9' : ((pre.length : Int) == 100000) = false := by simp; omega
        gi_wp2_with (gi_at_builtin; refine wpListIn_append_own_at _ rfl _ _ 28 rfl w.heap.size 3 i0 (.int .i64 0) 1 8 Try.underlying28 hi hz0 hz1 hz2 rfl (by decide) _ _ _ rfl (hrow.alloc _) ⟨W.heap.size, 0, none⟩ 1 1 [encI x] rfl rfl (cell_one_new _ _ _) (by simp [Value.oneCell', encI]) (by have : maxLen = 9223372036854775807 := rfl; omega) (by omega) (by have := hB.size; simp; omega) ?_; intro v' w1 hown' hgrow _ hat; obtain ⟨g', cap', rfl⟩ := ownsRow_succ hown'; obtain ⟨hv1, hv2, hr2, hk2, hb2⟩ := hv.appended (by decide) hrow hB.size hle hown' hgrow; have hc1 := hv1.cell; have hf1 := hv1.frozen)
        refine ⟨hk2.from _, coll_kb hv hrow hB.size hle hown' hgrow hat, ⟨_, hv2, ?_, ?_⟩, hB.trans hb2⟩
        · rw [List.length_append, encs_append]; exact hr2
        · rw [List.length_append]; simp; omega
    case done =>
      rintro D ys W hD rfl ⟨⟨v, hv, hrow, hlen⟩, hB⟩ hK
      have hc0 := hv.cell
      gi_wp2
      refine ⟨by simp, .inl ⟨_, _, rfl, run_takeDeferred hK, ?_⟩⟩
      refine ⟨v, by simp [results, Try.f14, go_sem], v, rfl, ?_, hB.trans (belowK_b (w := W0) hbw.size W D _ _ hD hK rfl rfl)⟩
      rw [List.take_of_length_le hlen]
      refine Kd.R_of_own (hrow.kept (grownBy_putObj' W D (.deferred none)) (.inr (fun e => ?_))) (fun _ _ => trivial)
      rcases hrow.2 with ⟨rfl, _⟩ | ⟨g, cap, cur, rfl, _, hgb, _⟩
      · simp [Value.ownBlock] at e
      · obtain rfl : g = D := by simpa [Value.ownBlock] using e
        rw [hK] at hgb
        cases hgb
    case stop =>
      rintro D c pre W hD hpre ⟨⟨rfl, out, y, rfl, h100, v, hv, hrow, hlen⟩, hB⟩ hK
      have hc0 := hv.cell
      gi_wp2
      refine ⟨by simp, .inl ⟨_, _, rfl, run_takeDeferred hK, ?_⟩⟩
      refine ⟨v, by simp [results, Try.f14, go_sem], v, rfl, ?_, hB.trans (belowK_b (w := W0) hbw.size W D _ _ hD hK rfl rfl)⟩
      obtain ⟨zs, hzs⟩ := hpre
      have e9 : T.take 100000 = out := by
        rw [← hzs, List.append_assoc, ← h100]
        exact List.take_left
      rw [e9]
      refine Kd.R_of_own (hrow.kept (grownBy_putObj' W D (.deferred none)) (.inr (fun e => ?_))) (fun _ _ => trivial)
      rcases hrow.2 with ⟨rfl, _⟩ | ⟨g, cap, cur, rfl, _, hgb, _⟩
      · simp [Value.ownBlock] at e
      · obtain rfl : g = D := by simpa [Value.ownBlock] using e
        rw [hK] at hgb
        cases hgb
end Go.Proofs.Ytediidkiedifcaa.Q
