/- number[int] and list[int] onto bytes that a constant string gave. -/
import Derived.Test.YtccolpkjgjjipaaCNum
import Derived.ArgAppend
namespace Go.Proofs.Ytccolpkjgjjipaa.K
open Go.RowKit Go.Proofs.YtccolpkjgjjipaaW.PrintWords Go.Proofs.YtccolpkjgjjipaaW.PrintLast Go.Proofs.YtccolpkjgjjipaaW.PrintMore
attribute [local go_sem] max2_int min2_int max_two min_two max_three min_three max_four min_four
set_option linter.unusedVariables false
set_option linter.unusedSimpArgs false
/-- A row of the call's own, or one that a constant string gave: it is full. -/
def RS (W : World) (base : Nat) (ok : Nat → Prop) (v : Value) (xs : List Int) : Prop :=
  (Kd.int .u8).R 5 W base ok v xs ∨ ∃ (g : Nat) (fr : Nat × Nat), v = .slice (some ⟨g, 0, none⟩) xs.length xs.length ∧ base ≤ g ∧ ok g ∧ W.heap[g]? = some (.cells (nums .u8 xs).toArray 5 fr)
section
variable {W : World} {base : Nat} {ok ok' : Nat → Prop} {v : Value} {xs : List Int}
theorem RS_mono (h : RS W base ok v xs) (hok : ∀ k, ok k → ok' k) : RS W base ok' v xs := by
  rcases h with h | ⟨g, fr, e, hb, ho, hc⟩
  · exact .inl (Kd.R_mono h hok)
  · exact .inr ⟨g, fr, e, hb, hok g ho, hc⟩
theorem RS_slice (h : RS W base ok v xs) : ∃ A c, v = .slice A xs.length c := by
  rcases h with h | ⟨g, fr, e, hb, ho, hc⟩
  · exact Kd.R_slice h
  · exact ⟨_, _, e⟩
theorem RS_drew (h : RS W base ok v xs) : RS W.drew base ok v xs := by
  rcases h with h | ⟨g, fr, e, hb, ho, hc⟩
  · exact .inl (Kd.R_drew h)
  · exact .inr ⟨g, fr, e, hb, ho, hc⟩
theorem RS_tight (h : RS W base ok v xs) : RS W base (fun k => some k = v.ownBlock) v xs := by
  rcases h with h | ⟨g, fr, e, hb, ho, hc⟩
  · exact .inl (Kd.R_tight rfl h)
  · exact .inr ⟨g, fr, e, hb, by rw [e]; rfl, hc⟩
theorem RS_ok (h : RS W base ok v xs) (k : Nat) (hk : v.ownBlock = some k) : ok k := by
  rcases h with h | ⟨g, fr, e, hb, ho, hc⟩
  · exact h.1 k hk
  · rw [e] at hk
    obtain rfl : g = k := by simpa [Value.ownBlock] using hk
    exact ho
theorem RS_base (h : RS W base ok v xs) (k : Nat) (hk : v.ownBlock = some k) : base ≤ k := by
  rcases h with h | ⟨g, fr, e, hb, ho, hc⟩
  · exact Kd.R_base h k hk
  · rw [e] at hk
    obtain rfl : g = k := by simpa [Value.ownBlock] using hk
    exact hb
theorem blk_alloc_at {W : World} {i : Nat} {o : Obj} (hi : i < W.heap.size) : (W.alloc o).heap[i]? = W.heap[i]? := by
  show (W.heap.push o)[i]? = W.heap[i]?
  rw [Array.getElem?_push, if_neg (by omega)]
theorem reps_nums (w : World) (base : Nat) (ok : Nat → Prop) (xs : List Int) : Reps ((Kd.int .u8).M w base ok) 1 xs (nums .u8 xs) := by
  refine ⟨by simp [nums], fun j p hj => ?_⟩
  show _ = [Value.int .u8 p]
  rw [Nat.mul_one]
  obtain ⟨hlt, he⟩ := List.getElem?_eq_some_iff.1 hj
  rw [nums, ← List.map_drop, List.drop_eq_getElem_cons hlt, he]
  rfl
end
section
variable {P : Program} {ops : Array Oper} {rest : List Oper} {o : Oper} {a : Act} {Q : Exit → Act → World → Prop}
theorem RS_append {w0 W : World} (base : Nat) (hgd : o.guard = none) (s x : Operand) (t e : TypeId) (z : Value) (bytes : Nat)
    (ho : o.op = .call { callee := .builtin .append, args := #[s, x], argTypes := #[t, t] })
    (ht : P.underlying t = some (.slice e)) (hinfo : (P.info? e).map (fun i => (i.zero, i.size, i.bytes)) = some (some z, (Kd.int .u8).sz, bytes)) (hz : z.cells.size = (Kd.int .u8).sz) (hs0 : 0 < (Kd.int .u8).sz) (hb0 : 0 < bytes)
    (v : Value) (xs : List Int) (p : Int) (cs : List Value) (ok okp : Nat → Prop) (hs : a.eval s = v) (hx : a.eval x = .slice (some ⟨W.heap.size, 0, none⟩) 1 1) (hp : (Kd.int .u8).M W base okp p cs) (hokp : ∀ k, okp k → ok k ∧ some k ≠ v.ownBlock) (hfresh : ∀ k, W.heap.size ≤ k → ok k)
    (HO : RS W base ok v xs) (HB : Below base w0 W) (hbase : base ≤ W.heap.size) (hl : (xs.length + 1) * bytes ≤ 140737488355328)
    (h : ∀ v1 w1, (Kd.int .u8).R e w1 base ok v1 (xs ++ [p]) → Below base w0 w1 → W.grownBy w1 v.ownBlock → (v1.ownBlock = v.ownBlock ∨ ∃ b, v1.ownBlock = some b ∧ W.heap.size ≤ b) → wpList P ops Q rest (a.put o.dst v1) w1)
    (he5 : e = 5 := by rfl) : wpList P ops Q (o :: rest) a (W.alloc (.cells cs.toArray e)) := by
  subst he5
  rcases HO with HO | ⟨g, fr, rfl, hbg, hog, hc⟩
  · exact Kd.R_append (Kd.int .u8) base hgd s x t 5 z bytes ho ht hinfo hz hs0 hb0 v xs p cs ok okp hs hx hp hokp hfresh HO HB hbase hl h
  · obtain ⟨i0, hi, hz0, hz1, hz2⟩ := info_parts hinfo
    have hp' : cs = [.int .u8 p] := hp
    subst hp'
    have hlt := (Array.getElem?_eq_some_iff.1 hc).1
    have hc' : (W.alloc (.cells (#[.int .u8 p] : Array Value) 5)).heap[g]? = some (.cells (nums .u8 xs).toArray 5 fr) := blk_alloc hc _
    have hn' : (W.alloc (.cells (#[.int .u8 p] : Array Value) 5)).heap[W.heap.size]? = some (.cells #[.int .u8 p] 5 (0, 0)) := blk_new W _
    have hmx : xs.length + 1 ≤ maxLen := by
      have h1 : 140737488355328 ≤ maxLen := by decide
      have h2 := Nat.le_mul_of_pos_right (xs.length + 1) hb0
      omega
    refine wpList_append_grows _ hgd s x t ho 5 i0 z 1 bytes ht hi hz0 hz1 hz2 hz (by decide) (some ⟨g, 0, none⟩) xs.length xs.length (nums .u8 xs) hs (fun e => by cases e) (by simp [nums]) (fun b hb j u hj => ?_) ⟨W.heap.size, 0, none⟩ 1 1 [.int .u8 p] hx rfl (fun j u hj => ?_) (by simp [Value.oneCell']) (by omega) hmx hl ?_
    · cases hb
      rw [Addr.add_lit, Nat.zero_add]
      unfold World.cell?
      rw [hc']
      simpa using hj
    · rw [Addr.add_lit, Nat.zero_add]
      unfold World.cell?
      rw [hn']
      simpa using hj
    · intro v1 w1 hown hgrow
      have hsz : (W.alloc (.cells (#[.int .u8 p] : Array Value) 5)).heap.size = W.heap.size + 1 := by simp
      rw [hsz] at hown
      refine h v1 w1 ?_ ?_ ?_ ?_
      · refine ⟨fun k hk => hfresh k ?_, nums .u8 (xs ++ [p]), ?_, reps_nums _ _ _ _⟩
        · have := own_base hown k hk; omega
        · rw [nums_append, List.length_append]
          exact own_weaken hown (by omega)
      · exact (HB.alloc hbase _).grown hgrow (by rw [hsz]; omega) (fun k e => by cases e)
      · exact ⟨hgrow.os.trans rfl, hgrow.tape.trans rfl, hgrow.output.trans rfl, by have := hgrow.size; omega, fun i hi _ => (hgrow.block i (by omega) (fun e => by cases e)).trans (blk_alloc_at hi)⟩
      · right
        rcases hown.2 with ⟨_, h0⟩ | ⟨k, cap, cur, rfl, hk, _⟩
        · omega
        · exact ⟨k, rfl, by omega⟩
end
set_option maxHeartbeats 8000000 in
set_option maxRecDepth 100000 in
theorem code_number_int.callsS (k : Nat) (P0_ : Nat → Prop) (u9000_ : Value) (l0 : List Int) (a1 : Int) (r : List Int) (w0 w : World) (hB : Below w0.heap.size w0 w) (ho0 : RS w w0.heap.size P0_ u9000_ l0) (h : code_number_int.f k l0 a1 = some r) :
    Calls Try.prog 44 #[u9000_, .int .i64 a1] w fun e w' => ∃ v0_ : Value, e = .returned (v0_) ∧ Kd.R (Kd.int .u8) 5 w' w0.heap.size (fun k_ => (P0_ k_ ∨ w.heap.size ≤ k_)) v0_ r ∧ Below w0.heap.size w0 w' ∧ Kept w w' (fun k_ => P0_ k_) := by
  have HO0 := Aside0.mk (show RS w w0.heap.size (fun k_ => (P0_ k_ ∨ w.heap.size ≤ k_)) u9000_ l0 from RS_mono ho0 (fun k_ hk => (.inl hk)))
  have HK := Aside0.mk (Kept.refl w (fun k_ => P0_ k_))
  have HW0 := Aside0.mk hB.size
  have HB := Aside0.mk hB
  clear hB
  have H : (code_number_int.l0 k l0 (Go.bits .xor .u64 (IntKind.u64.wrap (wrap64 (a1 * 2))) (IntKind.u64.wrap (a1 / 9223372036854775808)))) = some r := h
  clear h
  have H' := Aside0.mk H
  clear H
  go_enter Try.func44, Try.ntmps44
  go_wp2
  go_loopg [0, 6] k (fun kq v0 v6 w' => ∃ (x0_1 : List Int) (x6_1 : Int), v6 = .int .u64 x6_1 ∧ Aside0 (code_number_int.l0 kq x0_1 x6_1 = some r) ∧ Aside0 (kq ≤ k) ∧ Aside0 (RS w' w0.heap.size (fun k_ => (P0_ k_ ∨ w.heap.size ≤ k_)) v0 x0_1) ∧ Aside0 (Kept w w' (fun k_ => P0_ k_)) ∧ Aside0 (Below w0.heap.size w0 w'))
  case atStart => exact ⟨(l0), (Go.bits .xor .u64 (IntKind.u64.wrap (wrap64 (a1 * 2))) (IntKind.u64.wrap (a1 / 9223372036854775808))), (by first | rfl | (simp; done) | (simp [*]; done)), H', ⟨Nat.le_refl _⟩, ⟨by exact HO0.out⟩, ⟨by repeat (first | (with_reducible first | exact HK.out | apply Kept.alloc | apply Kept.drewN | apply Kept.drew) | exact HK.out)⟩, ⟨by repeat (first | (with_reducible first | exact HB.out | apply below_alloc | apply pw_below_drewN | apply below_drew1) | exact HB.out)⟩⟩
  case round =>
    clear H'
    try clear p2
    obtain ⟨x0_1, x6_1, rfl, HA, HK1, HO_0, HK, HB⟩ := hrel
    cases gk with
    | zero => exact absurd HA.out (by simp [code_number_int.l0])
    | succ k1 =>
      have H := HA.out
      clear HA
      simp only [code_number_int.l0] at H
      by_cases c3 : x6_1 ≥ 128
      · rw [if_pos c3] at H
        have c3b0 : decide (128 ≤ x6_1) = true := decide_eq_true c3
        clear c3
        by_cases c4 : x0_1.length < 140737488355328
        · rw [if_pos c4] at H
          have LMc4 := Aside0.mk c4
          clear c4
          obtain ⟨y101, hy101⟩ : ∃ y_ : List Int, y_ = (x0_1 ++ [Go.bits .or .u8 ((x6_1) % 256) 128]) := ⟨_, rfl⟩
          replace H : (code_number_int.l0 k1 y101 (x6_1 / 128)) = some r := by first | (rw [hy101]; with_reducible exact H) | (have H2_ := (Option.bind_some _ _).symm.trans H; rw [hy101]; with_reducible exact H2_) | (have H2_ := (Option.bind_some _ _).symm.trans H; with_reducible exact H2_) | with_reducible exact H | (rw [hy101]; exact H) | exact H
          have Ny101 := Aside0.mk hy101
          clear hy101
          have H' := Aside0.mk H
          clear H
          go_wp2_with (first | ((with_reducible refine gate_builtin (b := .append) (xs := #[.tmp 19, .tmp 23]) rfl ?_); at_builtin; refine RS_append (w0 := w0) w0.heap.size rfl (.tmp 19) (.tmp 23) 22 5 (.int .u8 0) 1 rfl Try.underlying22 info5 rfl (by decide) (by omega) u0 x0_1 (Go.bits .or .u8 ((x6_1) % 256) 128) [.int .u8 (Go.bits .or .u8 ((x6_1) % 256) 128)] (fun k_ => (P0_ k_ ∨ w.heap.size ≤ k_)) (fun _ => False) rfl rfl ?aP (fun _ hk => hk.elim) ?aF ?aO ?aB ?aS ?aL ?_; (case aP => exact rfl); (case aB => exact (by repeat (first | (with_reducible first | exact HB.out | apply below_alloc | apply pw_below_drewN | apply below_drew1) | exact HB.out))); (case aF => exact (fun k_ hk => (.inr (Nat.le_trans (by first | exact HK.out.1 | exact (show Kept w _ (fun k_ => P0_ k_) from by repeat (first | (with_reducible first | exact HK.out | apply Kept.alloc | apply Kept.drewN | apply Kept.drew) | exact HK.out)).1) hk)))); (case aO => exact HO_0.out); (case aS => exact (below_size (by repeat (first | (with_reducible first | exact HB.out | apply below_alloc | apply pw_below_drewN | apply below_drew1) | exact HB.out)))); (case aL => have := LMc4.out; omega); intro v102 w5 ho hb hg hat; rw [← Ny101.out] at ho; have n0_ := Aside0.mk (hb); have n1_ := Aside0.mk (Kept.of_grown (S := (fun k_ => P0_ k_)) hg (by repeat (first | (with_reducible first | exact HK.out | apply Kept.alloc | apply Kept.drewN | apply Kept.drew) | exact HK.out)) (fun k_ e_ => (RS_ok HO_0.out k_ e_))); have n2_ := Aside0.mk (ho); clear HB; clear HK; clear HO_0; have HB := n0_; have HK := n1_; have HO103 := n2_; clear n0_ n1_ n2_; clear ho hb hg hat))
          go_roundg k1
          case measure => have := HK1.out; omega
          case rel => exact ⟨(y101), (x6_1 / 128), (by first | rfl | (simp; done) | (simp [*]; done)), H', ⟨by have := HK1.out; omega⟩, ⟨Or.inl (by (with_reducible repeat (first | apply Kd.R_alloc | apply Kd.R_drewN | apply Kd.R_drew)); exact HO103.out)⟩, ⟨by repeat (first | (with_reducible first | exact HK.out | apply Kept.alloc | apply Kept.drewN | apply Kept.drew) | exact HK.out)⟩, ⟨by repeat (first | (with_reducible first | exact HB.out | apply below_alloc | apply pw_below_drewN | apply below_drew1) | exact HB.out)⟩⟩
        · rw [if_neg c4] at H
          exact absurd H (by simp)
      · rw [if_neg c3] at H
        have c3b0 : decide (128 ≤ x6_1) = false := decide_eq_false c3
        clear c3
        by_cases c6 : x0_1.length < 140737488355328
        · rw [if_pos c6] at H
          have LMc6 := Aside0.mk c6
          clear c6
          obtain ⟨y104, hy104⟩ : ∃ y_ : List Int, y_ = (x0_1 ++ [(x6_1) % 256]) := ⟨_, rfl⟩
          replace H : (some y104) = some r := by first | (rw [hy104]; with_reducible exact H) | (have H2_ := (Option.bind_some _ _).symm.trans H; rw [hy104]; with_reducible exact H2_) | (have H2_ := (Option.bind_some _ _).symm.trans H; with_reducible exact H2_) | with_reducible exact H | (rw [hy104]; exact H) | exact H
          have Ny104 := Aside0.mk hy104
          clear hy104
          obtain rfl := Option.some.inj H
          go_wp2_with (first | ((with_reducible refine gate_builtin (b := .append) (xs := #[.tmp 25, .tmp 28]) rfl ?_); at_builtin; refine RS_append (w0 := w0) w0.heap.size rfl (.tmp 25) (.tmp 28) 22 5 (.int .u8 0) 1 rfl Try.underlying22 info5 rfl (by decide) (by omega) u0 x0_1 ((x6_1) % 256) [.int .u8 ((x6_1) % 256)] (fun k_ => (P0_ k_ ∨ w.heap.size ≤ k_)) (fun _ => False) rfl rfl ?aP (fun _ hk => hk.elim) ?aF ?aO ?aB ?aS ?aL ?_; (case aP => exact rfl); (case aB => exact (by repeat (first | (with_reducible first | exact HB.out | apply below_alloc | apply pw_below_drewN | apply below_drew1) | exact HB.out))); (case aF => exact (fun k_ hk => (.inr (Nat.le_trans (by first | exact HK.out.1 | exact (show Kept w _ (fun k_ => P0_ k_) from by repeat (first | (with_reducible first | exact HK.out | apply Kept.alloc | apply Kept.drewN | apply Kept.drew) | exact HK.out)).1) hk)))); (case aO => exact HO_0.out); (case aS => exact (below_size (by repeat (first | (with_reducible first | exact HB.out | apply below_alloc | apply pw_below_drewN | apply below_drew1) | exact HB.out)))); (case aL => have := LMc6.out; omega); intro v105 w7 ho hb hg hat; rw [← Ny104.out] at ho; have n0_ := Aside0.mk (hb); have n1_ := Aside0.mk (Kept.of_grown (S := (fun k_ => P0_ k_)) hg (by repeat (first | (with_reducible first | exact HK.out | apply Kept.alloc | apply Kept.drewN | apply Kept.drew) | exact HK.out)) (fun k_ e_ => (RS_ok HO_0.out k_ e_))); have n2_ := Aside0.mk (ho); clear HB; clear HK; clear HO_0; have HB := n0_; have HK := n1_; have HO106 := n2_; clear n0_ n1_ n2_; clear ho hb hg hat))
          go_ret
          exact ⟨_, by first | rfl | (simp [errW_none, errW_some] <;> rfl) | (simp [*, errW_none, errW_some] <;> rfl), by (with_reducible repeat (first | apply Kd.R_alloc | apply Kd.R_drewN | apply Kd.R_drew)); exact HO106.out, by repeat (first | (with_reducible first | exact HB.out | apply below_alloc | apply pw_below_drewN | apply below_drew1) | exact HB.out), by repeat (first | (with_reducible first | exact HK.out | apply Kept.alloc | apply Kept.drewN | apply Kept.drew) | exact HK.out)⟩
        · rw [if_neg c6] at H
          exact absurd H (by simp)

set_option maxHeartbeats 8000000 in
set_option maxRecDepth 100000 in
theorem code_list_int.callsS (k : Nat) (P0_ : Nat → Prop) (u9000_ : Value) (l0 : List Int) (A1 : Option Addr) (c1 : Nat) (l1 : List Int) (r : List Int) (w0 w : World) (hB : Below w0.heap.size w0 w) (ho0 : RS w w0.heap.size P0_ u9000_ l0) (hr1 : ∀ W_, Kept w W_ (fun k_ => P0_ k_) → Kd.C (Kd.int .i64) W_ A1 l1.length l1) (hc1 : l1.length ≤ c1) (h : code_list_int.f k l0 l1 = some r) :
    Calls Try.prog 42 #[u9000_, .slice A1 l1.length c1] w fun e w' => ∃ v0_ : Value, e = .returned (v0_) ∧ Kd.R (Kd.int .u8) 5 w' w0.heap.size (fun k_ => (P0_ k_ ∨ w.heap.size ≤ k_)) v0_ r ∧ Below w0.heap.size w0 w' ∧ Kept w w' (fun k_ => P0_ k_) := by
  have HO0 := Aside0.mk (show RS w w0.heap.size (fun k_ => (P0_ k_ ∨ w.heap.size ≤ k_)) u9000_ l0 from RS_mono ho0 (fun k_ hk => (.inl hk)))
  have HR1 := Aside0.mk hr1
  have HC1 := Aside0.mk hc1
  clear hr1 hc1
  have HK := Aside0.mk (Kept.refl w (fun k_ => P0_ k_))
  have HW0 := Aside0.mk hB.size
  have HB := Aside0.mk hB
  clear hB
  have H : ((code_number_int.f k l0 (l1.length : Int)).bind fun t113 => (code_list_int.l0 k t113 l1 (l1.length : Int) 0)) = some r := h
  clear h
  replace H := Option.bind_eq_some_iff.mp H
  obtain ⟨t113, A30, H⟩ := H
  replace H : (code_list_int.l0 k t113 l1 (l1.length : Int) 0) = some r := H
  have A3 := Aside0.mk A30
  clear A30
  have H' := Aside0.mk H
  clear H
  obtain ⟨Ao4, co4, eo4⟩ := RS_slice HO0.out
  subst eo4
  go_enter Try.func42, Try.ntmps42
  go_wp2_with (first | ((with_reducible refine gate_callee (f := 44) rfl ?_); refine goesL_ (some 10) rfl rfl Try.func44 (by kernel_rfl) rfl #[.slice Ao4 l0.length co4, .int .i64 (l1.length : Int)] rfl (by (try simp only [List.map_toArray, List.map_cons, List.map_nil]); first | done | rfl | (simp only [List.length_drop, List.length_take]; rfl)) ?_; (with_reducible refine (code_number_int.callsS k (fun k_ => some k_ = (.slice Ao4 l0.length co4 : Value).ownBlock) (.slice Ao4 l0.length co4) l0 (l1.length : Int) t113 w0 _ ?side1 ?side2 A3.out).mono ?_); (case side1 => repeat (first | (with_reducible first | exact HB.out | apply below_alloc | apply pw_below_drewN | apply below_drew1) | exact HB.out)); (case side2 => exact RS_tight HO0.out); rintro e w5 ⟨v114, rfl, ho0, hb, hkp⟩; refine ⟨_, rfl, ?_⟩; have n0_ := Aside0.mk (Kd.R_mono (ok' := fun k_ => (P0_ k_ ∨ w.heap.size ≤ k_)) ho0 (fun k_ hk_ => Or.elim hk_ (fun hs_ => (RS_ok HO0.out k_ (hs_).symm)) (fun hn_ => (.inr (Nat.le_trans (by first | exact HK.out.1 | exact (show Kept w _ (fun k_ => P0_ k_) from by repeat (first | (with_reducible first | exact HK.out | apply Kept.alloc | apply Kept.drewN | apply Kept.drew) | exact HK.out)).1) hn_))))); have n1_ := Aside0.mk (Kept.then_ (S := (fun k_ => P0_ k_)) (by repeat (first | (with_reducible first | exact HK.out | apply Kept.alloc | apply Kept.drewN | apply Kept.drew) | exact HK.out)) hkp (fun k_ hs_ => (fun e_ => (RS_ok HO0.out k_ e_.symm)) hs_)); have n2_ := Aside0.mk (hb); clear HK; clear HB; clear HO0; have HO115 := n0_; have HK := n1_; have HB := n2_; clear n0_ n1_ n2_; (try clear hb); (try clear hkp); (try clear ho0)))
  go_loopg [0, 13] k (fun kq v0 v13 w' => ∃ (x0_1 : List Int) (x13_1 : Int), v13 = .int .i64 x13_1 ∧ Aside0 (code_list_int.l0 kq x0_1 l1 (l1.length : Int) x13_1 = some r) ∧ Aside0 (kq ≤ k) ∧ Aside0 (Kd.R (Kd.int .u8) 5 w' w0.heap.size (fun k_ => (P0_ k_ ∨ w.heap.size ≤ k_)) v0 x0_1) ∧ Aside0 (Kept w w' (fun k_ => P0_ k_)) ∧ Aside0 (Below w0.heap.size w0 w'))
  case atStart => exact ⟨(t113), (0), (by first | rfl | (simp; done) | (simp [*]; done)), H', ⟨Nat.le_refl _⟩, ⟨by (with_reducible repeat (first | apply Kd.R_alloc | apply Kd.R_drewN | apply Kd.R_drew)); exact HO115.out⟩, ⟨by repeat (first | (with_reducible first | exact HK.out | apply Kept.alloc | apply Kept.drewN | apply Kept.drew) | exact HK.out)⟩, ⟨by repeat (first | (with_reducible first | exact HB.out | apply below_alloc | apply pw_below_drewN | apply below_drew1) | exact HB.out)⟩⟩
  case round =>
    clear H'
    try clear c1
    try clear p2
    try clear c4
    obtain ⟨x0_1, x13_1, rfl, HA, HK1, HO_0, HK, HB⟩ := hrel
    cases gk with
    | zero => exact absurd HA.out (by simp [code_list_int.l0])
    | succ k1 =>
      have H := HA.out
      clear HA
      simp only [code_list_int.l0] at H
      by_cases c6 : x13_1 < (l1.length : Int)
      · rw [if_pos c6] at H
        have c6b0 : decide (x13_1 < (l1.length : Int)) = true := decide_eq_true c6
        clear c6
        by_cases c7 : 0 ≤ x13_1
        · rw [if_pos c7] at H
          have c7b0 : decide (0 ≤ x13_1) = true := decide_eq_true c7
          clear c7
          by_cases c8 : x13_1 < (l1.length : Int)
          · rw [if_pos c8] at H
            have c8b0 : decide (x13_1 < (l1.length : Int)) = true := decide_eq_true c8
            clear c8
            replace H := Option.bind_eq_some_iff.mp H
            obtain ⟨t117, A90, H⟩ := H
            replace H : (code_list_int.l0 k1 t117 l1 (l1.length : Int) (wrap64 (x13_1 + 1))) = some r := H
            have A9 := Aside0.mk A90
            clear A90
            have H' := Aside0.mk H
            clear H
            have p116 : 0 ≤ (x13_1 : Int) := of_decide_eq_true (by first | (with_reducible assumption) | assumption)
            have q116 : x13_1 < (l1.length : Int) := of_decide_eq_true (by first | (with_reducible assumption) | assumption)
            obtain ⟨ad116, e116, hx116_0⟩ := Kd.at_int (Kd.C_kept_now HR1.out HK.out) x13_1 p116 q116
            cases e116
            replace p116 := eq_true p116
            replace q116 := eq_true q116
            obtain ⟨Ao10, co10, eo10⟩ := Kd.R_slice HO_0.out
            subst eo10
            go_wp2_with (first | ((with_reducible refine gate_callee (f := 44) rfl ?_); refine goesL_ (some 19) rfl rfl Try.func44 (by kernel_rfl) rfl #[.slice Ao10 x0_1.length co10, .int .i64 (rd l1 x13_1)] rfl (by (try simp only [List.map_toArray, List.map_cons, List.map_nil]); first | done | rfl | (simp only [List.length_drop, List.length_take]; rfl)) ?_; (with_reducible refine (code_number_int.calls k1 (fun k_ => some k_ = (.slice Ao10 x0_1.length co10 : Value).ownBlock) (.slice Ao10 x0_1.length co10) x0_1 (rd l1 x13_1) t117 w0 _ ?side1 ?side2 A9.out).mono ?_); (case side1 => repeat (first | (with_reducible first | exact HB.out | apply below_alloc | apply pw_below_drewN | apply below_drew1) | exact HB.out)); (case side2 => exact Kd.R_tight rfl HO_0.out); rintro e w11 ⟨v118, rfl, ho0, hb, hkp⟩; refine ⟨_, rfl, ?_⟩; have n0_ := Aside0.mk (Kd.R_mono (ok' := fun k_ => (P0_ k_ ∨ w.heap.size ≤ k_)) ho0 (fun k_ hk_ => Or.elim hk_ (fun hs_ => (HO_0.out.1 k_ (hs_).symm)) (fun hn_ => (.inr (Nat.le_trans (by first | exact HK.out.1 | exact (show Kept w _ (fun k_ => P0_ k_) from by repeat (first | (with_reducible first | exact HK.out | apply Kept.alloc | apply Kept.drewN | apply Kept.drew) | exact HK.out)).1) hn_))))); have n1_ := Aside0.mk (Kept.then_ (S := (fun k_ => P0_ k_)) (by repeat (first | (with_reducible first | exact HK.out | apply Kept.alloc | apply Kept.drewN | apply Kept.drew) | exact HK.out)) hkp (fun k_ hs_ => (fun e_ => (HO_0.out.1 k_ e_.symm)) hs_)); have n2_ := Aside0.mk (hb); clear HK; clear HB; clear HO_0; have HO119 := n0_; have HK := n1_; have HB := n2_; clear n0_ n1_ n2_; (try clear hb); (try clear hkp); (try clear ho0)))
            go_roundg k1
            case measure => have := HK1.out; omega
            case rel => exact ⟨(t117), (wrap64 (x13_1 + 1)), (by first | rfl | (simp; done) | (simp [*]; done)), H', ⟨by have := HK1.out; omega⟩, ⟨by (with_reducible repeat (first | apply Kd.R_alloc | apply Kd.R_drewN | apply Kd.R_drew)); exact HO119.out⟩, ⟨by repeat (first | (with_reducible first | exact HK.out | apply Kept.alloc | apply Kept.drewN | apply Kept.drew) | exact HK.out)⟩, ⟨by repeat (first | (with_reducible first | exact HB.out | apply below_alloc | apply pw_below_drewN | apply below_drew1) | exact HB.out)⟩⟩
          · rw [if_neg c8] at H
            exact absurd H (by simp)
        · rw [if_neg c7] at H
          exact absurd H (by simp)
      · rw [if_neg c6] at H
        have c6b0 : decide (x13_1 < (l1.length : Int)) = false := decide_eq_false c6
        clear c6
        obtain rfl := Option.some.inj H
        go_wp2
        go_ret
        exact ⟨_, by first | rfl | (simp [errW_none, errW_some] <;> rfl) | (simp [*, errW_none, errW_some] <;> rfl), by (with_reducible repeat (first | apply Kd.R_alloc | apply Kd.R_drewN | apply Kd.R_drew)); exact HO_0.out, by repeat (first | (with_reducible first | exact HB.out | apply below_alloc | apply pw_below_drewN | apply below_drew1) | exact HB.out), by repeat (first | (with_reducible first | exact HK.out | apply Kept.alloc | apply Kept.drewN | apply Kept.drew) | exact HK.out)⟩

theorem made_keptS {w0 w w' : World} {v : Value} {l0 : List Int} (ho : RS w w0.heap.size (fun _ => True) v l0) (hk : Kept w w' (fun k_ => some k_ = v.ownBlock)) : ∀ (g : Nat) (cs : Array Value) (t : Nat), 5 ≠ t → w.heap[g]? = some (Obj.cells cs t (0, 0)) → w'.heap[g]? = some (Obj.cells cs t (0, 0)) := by
  rcases ho with ho | ⟨g0, fr, rfl, _, _, hc⟩
  · exact made_kept ho hk
  · intro g cs t ht hg
    refine blk_kept hg hk (fun hs => ?_)
    obtain rfl : g = g0 := by simpa [Value.ownBlock] using hs
    rw [hc] at hg
    injection hg with hg
    injection hg with _ h2 _
    exact ht h2
theorem list_anyS {w0 w : World} {v : Value} {l0 : List Int} (A : Option Addr) (c : Nat) (l : List Int) (hB : Below w0.heap.size w0 w) (ho : RS w w0.heap.size (fun _ => True) v l0) (hr : Kd.C (Kd.int .i64) w0 A l.length l) (hc : l.length ≤ c) (hl : l0.length + (listB l).length + 10 < 140737488355328) :
    Calls Try.prog 42 #[v, .slice A l.length c] w (Made w0 w (l0 ++ listB l)) :=
  (code_list_int.callsS (l.length + 12) (fun k_ => some k_ = v.ownBlock) v l0 A c l _ w0 w hB (RS_tight ho) (Kd.C_kept_came (Kd.heap_int .i64) hr hB (fun k_ hs_ => RS_base ho k_ hs_.symm)) hc (list_int_f l0 l hl (by have := listB_ge l; omega))).mono fun e w' ⟨v', he, hR, hB', hk⟩ =>
    ⟨v', he, Kd.R_mono hR (fun _ _ => trivial), hB', made_keptS ho hk⟩
theorem RS_lit (W : World) (xs : List Int) (base : Nat) (hb : base ≤ W.heap.size) (fr : Nat × Nat) (n c : Nat) (hn : n = xs.length) (hc : c = xs.length) : RS (W.alloc (Obj.cells (nums .u8 xs).toArray 5 fr)) base (fun _ => True) (.slice (some ⟨W.heap.size, 0, none⟩) n c) xs := by
  subst hn; subst hc
  exact .inr ⟨W.heap.size, fr, rfl, hb, trivial, blk_new W _⟩
end Go.Proofs.Ytccolpkjgjjipaa.K
