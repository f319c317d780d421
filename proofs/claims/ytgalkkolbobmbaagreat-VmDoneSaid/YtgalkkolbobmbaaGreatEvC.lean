/- What the evaluator is told of the program; a remembered call. -/
import Derived.Test.YtgalkkolbobmbaaGreatEvB
import Derived.Test.YtgalkkolbobmbaaGreatProg
import Derived.RangeFuncWrites
import Derived.TacticsInMore
import Derived.LoopNIn
import Derived.LoopIn
import Derived.WalkKit
import Derived.Laws.Rows
import Derived.Shelf.Abstract
import Derived.KernelRfl

/- The evaluator: the one range over a function (verify.Wrong), where nothing is yielded. -/
namespace Go.Proofs.YtgalkkolbobmbaaGreat.Abs
set_option linter.unusedVariables false
set_option linter.unusedSimpArgs false
open Go Go.RowKit
attribute [local go_sem] Oper.semAt_some
section
variable {base : Nat} {σ σ' : Nm} {M : Mem} {w w0 w1 w2 w' : World} {s s' : St}
theorem MemR.keep (h : MemR base σ M w) (hk : ∀ n, Named M σ n → w'.heap[n]? = w.heap[n]?) (hs : w.heap.size ≤ w'.heap.size) : MemR base σ M w' :=
 ⟨fun b x hx => let ⟨n, cur, e1, e2, e3⟩ := h.blk b x hx; ⟨n, cur, e1, (hk n ⟨b, _, by rw [hx]; simp, e1⟩).trans e2, e3⟩, h.inj, h.rng, Nat.le_trans h.bs hs⟩
theorem MemR.lt {n : Nat} (h : MemR base σ M w) (hn : Named M σ n) : n < w.heap.size := by
 obtain ⟨b, S, hb, e⟩ := hn
 cases hx : M b with
 | none => exact absurd hx hb
 | some x =>
  obtain ⟨n', cur, e1, e2, -⟩ := h.blk b x hx
  rw [e] at e1
  obtain ⟨rfl, -⟩ := Prod.mk.inj (Option.some.inj e1)
  exact (Array.getElem?_eq_some_iff.1 e2).1
theorem MemR.fresh (h : MemR base σ M w) (B : Below w.heap.size w w') : MemR base σ M w' := h.keep (fun n hn => B.block n (h.lt hn)) B.size
/-- Some blocks stand. -/
structure Part (X : Nat → Prop) (w w' : World) : Prop where
 os : w'.os = w.os
 tape : w'.tape = w.tape
 output : w'.output = w.output
 size : w.heap.size ≤ w'.heap.size
 block : ∀ k, X k → w'.heap[k]? = w.heap[k]?
theorem Part.refl (X : Nat → Prop) (w : World) : Part X w w := ⟨rfl, rfl, rfl, Nat.le_refl _, fun _ _ => rfl⟩
theorem Part.setCell {X : Nat → Prop} (h : Part X w w') {p : Addr} (hp : ¬ X p.block) (u : Value) : Part X w (w'.setCell p u) := by
 have B := (Below.refl 0 w').setCell (p := p) (Nat.zero_le _) u
 exact ⟨B.os.trans h.os, B.tape.trans h.tape, B.output.trans h.output, Nat.le_trans h.size B.size, fun k hk => (Below.heap_setCell w' p u k (fun e => hp (e ▸ hk))).trans (h.block k hk)⟩
theorem Part.putObj {X : Nat → Prop} (h : Part X w w') {l : Nat} (hp : ¬ X l) (o : Obj) : Part X w (w'.putObj l o) := by
 have B := (Below.refl 0 w').grown (grownBy_putObj' w' l o) (Nat.zero_le _) (fun _ _ => Nat.zero_le _)
 exact ⟨B.os.trans h.os, B.tape.trans h.tape, B.output.trans h.output, Nat.le_trans h.size B.size, fun k hk => (World.putObj_heap_other (fun e => hp (by rw [← e]; exact hk))).trans (h.block k hk)⟩
theorem Post.post (q : Post base s s' M σ w σ' w1) (p : Part (fun k => k < base ∨ k < w.heap.size ∨ Named (after s' M) σ' k) w1 w2) : Post base s s' M σ w σ' w2 :=
 ⟨q.ext, q.mem.keep (fun n hn => p.block n (.inr (.inr hn))) p.size, q.below.trans ⟨p.os, p.tape, p.output, p.size, fun k hk => p.block k (.inl hk)⟩, fun n hn hnm hx => (p.block n (.inr (.inl hn))).trans (q.keep n hn hnm hx), q.src⟩
theorem Post.pre (b : Below w.heap.size w w0) (hM : MemR base σ M w) (q : Post base s s' M σ w0 σ' w') : Post base s s' M σ w σ' w' :=
 ⟨q.ext, q.mem, (b.mono hM.bs).trans q.below, fun n hn hnm hx => (q.keep n (Nat.lt_of_lt_of_le hn b.size) hnm hx).trans (b.block n hn), fun n hn h => q.src n (Nat.lt_of_lt_of_le hn b.size) h⟩
end
/-- A range over a function that yields nothing. -/
theorem wpIn_rangeNone {P : Program} {F : Fence} {n : Nat} {g : Operand} {ps : Array Tmp} {assign body : Code} {Q : Exit → Act → World → Prop} {a : Act} {w : World}
 (hro : F.round = none) (h1 : 1 ≤ n) {gf : Nat} {lb : Array Value} (hg : a.eval g = .func (.func gf) #[] lb) (hFg : F.fn gf) (eg : ∀ args w, (callFunc gf args).run P w = .ok (.enter gf args) w)
 (h : ∀ W2, Below w.heap.size w W2 → W2.heap.size = w.heap.size + 2 → CallsIn F (n - 1) P gf (#[.func (.yield (w.heap.size + 1)) #[] #[]] ++ lb) W2 fun e W3 => (∃ v, e = .returned v) ∧ W3.heap[w.heap.size + 1]? = W2.heap[w.heap.size + 1]? ∧ W3.heap[w.heap.size]? = W2.heap[w.heap.size]? ∧
  ∀ x, (W3.putObj (w.heap.size + 1) x).heap[w.heap.size]? = some (.deferred (some [])) → Q .normal { a with defers := { target := .collected w.heap.size, args := #[] } :: a.defers } (W3.putObj (w.heap.size + 1) x)) :
 (Code.rangeFunc g ps assign body).wpIn F n P Q a w := by
 refine wpIn_rangeFunc ?_
 intro fn hfn
 rw [hro]
 obtain ⟨rec, hrec⟩ : ∃ rec : Loop, rec = { state := .ready, pending := none, fn, tmps := a.tmps, params := ps, assign, body, defers := w.heap.size } := ⟨_, rfl⟩
 obtain ⟨W1, hW1⟩ : ∃ W1, (w.alloc (.deferred (some []))).alloc (.loop rec) = W1 := ⟨_, rfl⟩
 have hL1 : W1.heap[w.heap.size + 1]? = some (.loop rec) := by
  rw [← hW1]; have := World.alloc_heap_new (w.alloc (.deferred (some []))) (.loop rec); rwa [World.size_alloc] at this
 have hK1 : W1.heap[w.heap.size]? = some (.deferred (some [])) := by
  rw [← hW1]; exact (Below.heap_alloc _ _ _ (by simp)).trans (World.alloc_heap_new w _)
 refine ⟨w.heap.size + 1, [{ target := .collected w.heap.size, args := #[] }], W1, { target := .fn (.func gf) lb, args := #[.func (.yield (w.heap.size + 1)) #[] #[]] }, W1, gf,
  #[.func (.yield (w.heap.size + 1)) #[] #[]] ++ lb, W1, ?_, ?_, ?_, ?_, fun _ => h1, ?_⟩
 · rw [← hW1, hrec]; exact run_enterLoop_outer _ _ _ _ _
 · simp only [resolve, hg]
   simp [go_sem]
 · intro f' hf'; simp [Target.leads] at hf'; subst hf'; exact hFg
 · simp [invoke, go_sem, eg]
 · refine (h W1 (by rw [← hW1]; exact ((Below.refl _ w).alloc (Nat.le_refl _) _).alloc (by simp) _) (by rw [← hW1]; simp)).mono ?_
   rintro e W3 ⟨⟨v, rfl⟩, e1, e2, hq⟩
   rw [hL1] at e1
   rw [hK1] at e2
   have hend := run_endLoop (P := P) e1 (by rw [hrec]; simp)
   have hp : rec.pending = none := by rw [hrec]
   rw [hp] at hend
   exact ⟨none, _, hend, hq _ ((World.putObj_heap_other (by omega)).trans e2)⟩
noncomputable def wrong2 : Option (AR × St) → Option (AR × St)
 | some (_, s2) => some (.tup [.one (.lit (.int .i64 0)), .one (.lit (.int .i64 0)), .one (.lit (.bool false))], s2)
 | none => none
noncomputable def wrong1 (call : CallF) : Option (AR × St) → Option (AR × St)
 | some (.val (.one (.clo g [(b, o)])), s1) => if g = 205 then wrong2 (call 205 [.val (.one .opq), .val (.one (.ptr b o))] s1) else none
 | _ => none
noncomputable def wrong0 (call : CallF) (s : St) : List AR → Option (AR × St)
 | [.val (.agg cs)] => if cs.length = 10 then wrong1 call (call 180 [.val (.agg cs)] s) else none
 | _ => none
noncomputable def wrongF (call : CallF) : CallF := fun f args s => if f = 106 then wrong0 call s args else none
theorem three_set (W : World) (g : Nat) (a b c : Value) {o1 o2 o3 : Value} (c1 : W.cell? ⟨g + 1, 0, none⟩ = some o1) (c2 : W.cell? ⟨g + 1 + 1, 0, none⟩ = some o2) (c3 : W.cell? ⟨g + 1 + 1 + 1, 0, none⟩ = some o3) :
 (((W.setCell ⟨g + 1, 0, none⟩ a).setCell ⟨g + 1 + 1, 0, none⟩ b).setCell ⟨g + 1 + 1 + 1, 0, none⟩ c).cell? ⟨g + 1, 0, none⟩ = some a ∧ (((W.setCell ⟨g + 1, 0, none⟩ a).setCell ⟨g + 1 + 1, 0, none⟩ b).setCell ⟨g + 1 + 1 + 1, 0, none⟩ c).cell? ⟨g + 1 + 1, 0, none⟩ = some b ∧ (((W.setCell ⟨g + 1, 0, none⟩ a).setCell ⟨g + 1 + 1, 0, none⟩ b).setCell ⟨g + 1 + 1 + 1, 0, none⟩ c).cell? ⟨g + 1 + 1 + 1, 0, none⟩ = some c := by
 refine ⟨?_, ?_, ?_⟩ <;> simp [go_sem, c1, c2, c3]
theorem wrongF_some {call : CallF} {f : FuncId} {args : List AR} {s s' : St} {r : AR} (h : wrongF call f args s = some (r, s')) :
 f = 106 ∧ ∃ cs b o s1 r2, args = [.val (.agg cs)] ∧ cs.length = 10 ∧ call 180 [.val (.agg cs)] s = some (.val (.one (.clo 205 [(b, o)])), s1) ∧ call 205 [.val (.one .opq), .val (.one (.ptr b o))] s1 = some (r2, s') ∧ r = .tup [.one (.lit (.int .i64 0)), .one (.lit (.int .i64 0)), .one (.lit (.bool false))] := by
 unfold wrongF at h
 split at h
 · rename_i hf
   refine ⟨hf, ?_⟩
   unfold wrong0 at h
   split at h
   · rename_i cs
     split at h
     · rename_i hl
       cases e1 : call 180 [.val (.agg cs)] s with
       | none => rw [e1] at h; cases h
       | some x =>
        obtain ⟨r1, s1⟩ := x
        rw [e1] at h
        unfold wrong1 at h
        split at h
        · rename_i g b o s1' he
          obtain ⟨rfl, rfl⟩ := Prod.mk.inj (Option.some.inj he)
          split at h
          · rename_i hg
            subst hg
            cases e2 : call 205 [.val (.one .opq), .val (.one (.ptr b o))] s1 with
            | none => rw [e2] at h; cases h
            | some y =>
             obtain ⟨r2, s2⟩ := y
             rw [e2] at h
             simp only [wrong2, Option.some.injEq, Prod.mk.injEq] at h
             obtain ⟨rfl, rfl⟩ := h
             exact ⟨cs, b, o, s1, r2, rfl, hl, e1, e2, rfl⟩
          · cases h
        · cases h
     · cases h
   · cases h
 · cases h
set_option maxRecDepth 100000 in
set_option maxHeartbeats 4000000 in
theorem wrongF_ok {base : Nat} {call : CallF} (hc : CallOK Tryz.prog base call) : CallOK Tryz.prog base (wrongF call) := by
 intro f args s r s' h hw
 obtain ⟨rfl, cs, b, o, s1, r2, rfl, hl, e1, e2, rfl⟩ := wrongF_some h
 obtain ⟨-, m1, k1⟩ := hc 180 _ s _ s1 e1 hw
 obtain ⟨-, m2, k2⟩ := hc 205 _ s1 _ s' e2 m1.wf
 refine ⟨⟨_, Tryz.func106, rfl⟩, m1.trans m2, fun M σ w vs hp hM ha => ?_⟩
 obtain ⟨a0, a1, a2, a3, a4, a5, a6, a7, a8, a9, rfl⟩ : ∃ a0 a1 a2 a3 a4 a5 a6 a7 a8 a9 : Value, vs = [.agg #[a0, a1, a2, a3, a4, a5, a6, a7, a8, a9]] := by
  match vs, ha with
  | [v], ⟨⟨l, hv, hcs⟩, _⟩ =>
   have hl2 := cellsR_length hcs
   rw [hl] at hl2
   match l, hl2 with
   | [a0, a1, a2, a3, a4, a5, a6, a7, a8, a9], _ => exact ⟨a0, a1, a2, a3, a4, a5, a6, a7, a8, a9, by rw [hv]⟩
 refine (callsIn_wide (n := 6)).1 ?_
 have hro : Fence.wide.round = none := rfl
 have h1 : 1 ≤ 6 := by omega
 refine callsIn_of_wp_marks Tryz.func106 rfl trivial ?_ hro
 simp only [Tryz.ntmps106, List.size_toArray, List.length_cons, List.length_nil, Nat.reduceAdd, Nat.reduceSub, Array.replicate_succ, Array.replicate_zero, List.push_toArray, List.append_toArray, List.nil_append, List.cons_append]
 gi_wp2_with (refine ⟨trivial, ?_⟩; gi_at_call 180; refine (callsIn_wide.2 (k1 M σ _ _ (hp.first m2) (hM.fresh (((((Below.refl _ _).alloc (Nat.le_refl _) _).alloc (by simp) _).alloc (by simp; omega) _).alloc (by simp; omega) _)) ha)).mono ?_; rintro e w1 ⟨v, σ1, rfl, q1, hr1⟩)
 obtain ⟨ws, rfl, hps⟩ := hr1
 obtain ⟨nb, S, hnb, rfl⟩ : ∃ nb S, σ1 b = some (nb, S) ∧ ws = [.pointer (some ⟨nb, o, none⟩)] := by
  match ws, hps with
  | [p], ⟨⟨nb, S, h1, h2⟩, _⟩ => exact ⟨nb, S, h1, by rw [h2]⟩
 obtain ⟨A, hA⟩ : ∃ A, A = Obj.cells #[a0, a1, a2, a3, a4, a5, a6, a7, a8, a9] 26 := ⟨_, rfl⟩
 rw [← hA] at q1
 clear hA
 obtain ⟨W0, hW0⟩ : ∃ W0, W0 = (((w.alloc A).alloc (Obj.cells #[.int .i64 0] 3)).alloc (Obj.cells #[.int .i64 0] 3)).alloc (Obj.cells #[.bool false] 4) := ⟨_, rfl⟩
 have hsz : W0.heap.size = w.heap.size + 4 := by rw [hW0]; simp
 have hB0 : Below w.heap.size w W0 := by rw [hW0]; exact ((((Below.refl _ _).alloc (Nat.le_refl _) _).alloc (by simp) _).alloc (by simp; omega) _).alloc (by simp; omega) _
 have fr : ∀ (X : World) (o : Obj), (X.alloc o).heap[X.heap.size]? = some o := fun X o => World.alloc_heap_new X o
 have el : ∀ (X : World) (o : Obj) (k : Nat), k < X.heap.size → (X.alloc o).heap[k]? = X.heap[k]? := fun X o k h => Below.heap_alloc X o k h
 have hb1 : W0.heap[w.heap.size + 1]? = some (.cells #[.int .i64 0] 3 (0, 0)) := by
  rw [hW0, el _ _ _ (by simp), el _ _ _ (by simp)]
  have := fr (w.alloc A) (Obj.cells #[.int .i64 0] 3)
  rwa [World.size_alloc] at this
 have hb2 : W0.heap[w.heap.size + 1 + 1]? = some (.cells #[.int .i64 0] 3 (0, 0)) := by
  rw [hW0, el _ _ _ (by simp)]
  have := fr ((w.alloc A).alloc (Obj.cells #[.int .i64 0] 3)) (Obj.cells #[.int .i64 0] 3)
  rwa [World.size_alloc, World.size_alloc] at this
 have hb3 : W0.heap[w.heap.size + 1 + 1 + 1]? = some (.cells #[.bool false] 4 (0, 0)) := by
  rw [hW0]
  have := fr (((w.alloc A).alloc (Obj.cells #[.int .i64 0] 3)).alloc (Obj.cells #[.int .i64 0] 3)) (Obj.cells #[.bool false] 4)
  rwa [World.size_alloc, World.size_alloc, World.size_alloc] at this
 rw [← hW0] at q1
 clear hW0 fr el
 have hM0 : MemR base σ M W0 := hM.fresh hB0
 have n1 : ∀ n, w.heap.size ≤ n → n < W0.heap.size → ¬ Named (after s1 M) σ1 n := fun n h1 h2 h3 => (q1.src n h2 h3).elim (fun h => absurd (hM.lt h) (by omega)) id
 have c1 : ∀ n, w.heap.size ≤ n → n < W0.heap.size → w1.heap[n]? = W0.heap[n]? := fun n h1 h2 => q1.keep n h2 (fun h => absurd (hM.lt h) (by omega)) id
 have s01 := q1.below.size
 refine wpIn_rangeNone hro h1 (gf := 205) (lb := #[.pointer (some ⟨nb, o, none⟩)]) rfl trivial (enters_of Tryz.func205 (by kernel_rfl) rfl) ?_
 intro W2 hB2 hsz2
 have hM1 := q1.mem
 have hM2 := hM1.fresh hB2
 refine (callsIn_wide.2 (k2 (after s1 M) σ1 W2 [.func (.yield (w1.heap.size + 1)) #[] #[], .pointer (some ⟨nb, o, none⟩)] (hp.second m1 m2 q1.ext) hM2 ⟨rfl, ⟨nb, S, hnb, rfl⟩, trivial⟩)).mono ?_
 rintro e W3 ⟨v, σ2, rfl, q2, -⟩
 have s12 := hB2.size
 have s23 := q2.below.size
 have keep2 : ∀ n, w1.heap.size ≤ n → n < W2.heap.size → W3.heap[n]? = W2.heap[n]? := fun n h1 h2 => q2.keep n h2 (fun h => absurd (hM1.lt h) (by omega)) id
 have no2 : ∀ n, w1.heap.size ≤ n → n < W2.heap.size → ¬ Named (after s' M) σ2 n := fun n h1 h2 h3 => by
  rw [← after_after m2] at h3
  exact (q2.src n h2 h3).elim (fun h => absurd (hM1.lt h) (by omega)) id
 have no1 : ∀ n, w.heap.size ≤ n → n < W0.heap.size → ¬ Named (after s' M) σ2 n := fun n h1 h2 h3 => by
  rw [← after_after m2] at h3
  exact (q2.src n (by omega) h3).elim (fun h => n1 n h1 h2 h) id
 have c3 : ∀ n, w.heap.size ≤ n → n < W0.heap.size → W3.heap[n]? = W0.heap[n]? := fun n h1 h2 => (q2.keep n (by omega) (n1 n h1 h2) id).trans ((hB2.block n (by omega)).trans (c1 n h1 h2))
 refine ⟨⟨v, rfl⟩, keep2 _ (by omega) (by omega), keep2 _ (by omega) (by omega), fun x hD => ?_⟩
 have Q : Post base s s' M σ w σ2 W3 := Post.pre hB0 hM (q1.trans (Post.pre hB2 hM1 q2) m1 m2)
 have hbs := hM.bs
 have P1 : Part (fun k => k < base ∨ k < w.heap.size ∨ Named (after s' M) σ2 k) W3 (W3.putObj (w1.heap.size + 1) x) := (Part.refl _ _).putObj (by rintro (h | h | h); omega; omega; exact no2 _ (by omega) (by omega) h) x
 obtain ⟨W4, hW4⟩ : ∃ W4, W4 = W3.putObj (w1.heap.size + 1) x := ⟨_, rfl⟩
 have c4 : ∀ n, w.heap.size ≤ n → n < W0.heap.size → W4.heap[n]? = W0.heap[n]? := fun n h1 h2 => by rw [hW4]; exact (World.putObj_heap_other (by omega)).trans (c3 n h1 h2)
 rw [← hW4] at P1 hD ⊢
 have q1' := cell_of_row W4 _ 0 _ _ _ ((c4 _ (by omega) (by omega)).trans hb1)
 have q2' := cell_of_row W4 _ 0 _ _ _ ((c4 _ (by omega) (by omega)).trans hb2)
 have q3' := cell_of_row W4 _ 0 _ _ _ ((c4 _ (by omega) (by omega)).trans hb3)
 have r1 := frozen_of_row W4 _ 0 _ _ ((c4 _ (by omega) (by omega)).trans hb1)
 have r2 := frozen_of_row W4 _ 0 _ _ ((c4 _ (by omega) (by omega)).trans hb2)
 have r3 := frozen_of_row W4 _ 0 _ _ ((c4 _ (by omega) (by omega)).trans hb3)
 simp only [List.getElem?_toArray, List.getElem?_cons_zero] at q1' q2' q3'
 clear hW4 c4 c3
 gi_wp2
 obtain ⟨d1, d2, d3⟩ := three_set W4 w.heap.size (.int .i64 0) (.int .i64 0) (.bool false) q1' q2' q3'
 have hK' : (((W4.setCell ⟨w.heap.size + 1, 0, none⟩ (.int .i64 0)).setCell ⟨w.heap.size + 1 + 1, 0, none⟩ (.int .i64 0)).setCell ⟨w.heap.size + 1 + 1 + 1, 0, none⟩ (.bool false)).heap[w1.heap.size]? = some (.deferred (some [])) := by
  rw [Below.heap_setCell _ _ _ _ (by simp; omega), Below.heap_setCell _ _ _ _ (by simp; omega), Below.heap_setCell _ _ _ _ (by simp; omega)]
  exact hD
 have no : ∀ n, w.heap.size ≤ n → n < W0.heap.size → ¬ (n < base ∨ n < w.heap.size ∨ Named (after s' M) σ2 n) := fun n h1 h2 => by
  rintro (h | h | h)
  · omega
  · omega
  · exact no1 n h1 h2 h
 have P5 := (((P1.setCell (p := ⟨w.heap.size + 1, 0, none⟩) (no _ (by simp) (by simp; omega)) (.int .i64 0)).setCell (p := ⟨w.heap.size + 1 + 1, 0, none⟩) (no _ (by simp; omega) (by simp; omega)) (.int .i64 0)).setCell (p := ⟨w.heap.size + 1 + 1 + 1, 0, none⟩) (no _ (by simp; omega) (by simp; omega)) (.bool false)).putObj (l := w1.heap.size) (by rintro (h | h | h); omega; omega; exact no2 _ (by omega) (by omega) h) (.deferred none)
 refine ⟨by simp, .inl ⟨_, _, rfl, run_takeDeferred hK', ?_⟩⟩
 have e1 := (World.cell?_of_block (World.putObj_heap_other (o := .deferred none) (show (⟨w.heap.size + 1, 0, none⟩ : Addr).block ≠ w1.heap.size by simp; omega))).trans d1
 have e2 := (World.cell?_of_block (World.putObj_heap_other (o := .deferred none) (show (⟨w.heap.size + 1 + 1, 0, none⟩ : Addr).block ≠ w1.heap.size by simp; omega))).trans d2
 have e3 := (World.cell?_of_block (World.putObj_heap_other (o := .deferred none) (show (⟨w.heap.size + 1 + 1 + 1, 0, none⟩ : Addr).block ≠ w1.heap.size by simp; omega))).trans d3
 refine ⟨.tuple #[.int .i64 0, .int .i64 0, .bool false], ?_, _, σ2, rfl, Q.post P5, ⟨[.int .i64 0, .int .i64 0, .bool false], rfl, ⟨rfl, rfl⟩, ⟨rfl, rfl⟩, ⟨rfl, rfl⟩, trivial⟩⟩
 simp [results, Tryz.f106, go_sem, e1, e2, e3]
end Go.Proofs.YtgalkkolbobmbaaGreat.Abs
/- The evaluator at this program: its two facts; natives joined. -/
namespace Go.Proofs.YtgalkkolbobmbaaGreat.Abs
set_option linter.unusedVariables false
open Go Go.RowKit
theorem names_all : (Tryz.prog.funcs.toList.all fun fn => !(fn.name == "runtime.NumGoroutine")) = true := by decide +kernel
theorem HN (f : FuncId) (fn : Func) (h : Tryz.prog.funcs[f]? = some fn) : (fn.name == "runtime.NumGoroutine") = false := by
 have := List.all_eq_true.1 names_all fn (by
  obtain ⟨h1, h2⟩ := Array.getElem?_eq_some_iff.1 h
  rw [← h2]; simp)
 simpa using this
theorem hmix : Tryz.prog.follows .mixedOrders = true := by kernel_rfl
noncomputable def orF (a b : CallF) : CallF := fun f args s => orElseA (a f args s) (b f args s)
theorem orF_ok {P : Program} {base : Nat} {a b : CallF} (ha : CallOK P base a) (hb : CallOK P base b) : CallOK P base (orF a b) := by
 intro f args s r s' h hw
 have h' : orElseA (a f args s) (b f args s) = some (r, s') := h
 unfold orElseA at h'
 split at h'
 · rename_i x hx
   exact ha f args s r s' (hx.trans h') hw
 · exact hb f args s r s' h' hw
noncomputable def plainF : CallF := evCallN Tryz.prog (fun _ _ _ => none) 1000 60
theorem plainF_ok (base : Nat) : CallOK Tryz.prog base plainF := evCallN_ok HN hmix noneF_ok 1000 60
noncomputable def rightF : CallF := wrongF plainF
theorem rightF_ok (base : Nat) : CallOK Tryz.prog base rightF := wrongF_ok (plainF_ok base)
theorem one_good {P : Program} {base : Nat} {m : Memo} (h : m.Good P base) : ∀ x ∈ [m], x.Good P base := fun x hx => by rw [List.mem_singleton.1 hx]; exact h
end Go.Proofs.YtgalkkolbobmbaaGreat.Abs
/- A remembered call, from a world of whatever blocks. -/
namespace Go.Proofs.YtgalkkolbobmbaaGreat.Abs
set_option linter.unusedVariables false
open Go Go.RowKit
/-- A call of a closed kind, from a world of whatever blocks. -/
theorem Memo.Good.runs {P : Program} {m : Memo} {w : World} {vs : List Value} {b : Bool} (h : m.Good P w.heap.size) (hp : m.pre = []) (hr : m.res = .val (.one (.lit (.bool b)))) (ha : argsR (fun _ => none) m.args vs) :
 Calls P m.f vs.toArray w fun e w' => e = .returned (.bool b) ∧ Below w.heap.size w w' := by
 refine (h.calls (fun _ => none) (fun _ => none) w vs (fun b x hx => (by rw [hp] at hx; cases hx)) (fun _ _ _ => ⟨rfl, rfl⟩) ⟨fun _ _ hx => (by cases hx), fun _ _ _ _ _ _ hx => absurd rfl hx, fun _ _ _ hx => (by cases hx), Nat.le_refl _⟩ ha).mono fun e w' ⟨v, σ', e1, _, _, hb, _, _, hv⟩ => ?_
 rw [hr] at hv
 have hv' : v = .bool b ∧ _ := hv
 exact ⟨by rw [e1, hv'.1], hb⟩
end Go.Proofs.YtgalkkolbobmbaaGreat.Abs
