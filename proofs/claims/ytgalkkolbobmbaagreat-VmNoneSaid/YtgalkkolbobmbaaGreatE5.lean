/- The evaluator's soundness, 5: append, slices, calls; every operation. -/
import Derived.Test.YtgalkkolbobmbaaGreatE4
import Derived.Deep.AppendLies
namespace Go.Proofs.YtgalkkolbobmbaaGreat.Abs
set_option linter.unusedVariables false
set_option linter.unusedSimpArgs false
open Go Go.RowKit
section
variable {P : Program} {base : Nat} {s s' : St} {M : Mem} {σ : Nm} {w : World} {fr : Fr} {o : Oper} {r : AR}
/-- The new cells of an append, as they lie. -/
theorem news_ok {b2 o2 n2 S : Nat} {blk : AB} {news : List AC} {k : Nat} (hM : MemR base σ M w) (hb : M b2 = some blk) (hσ : σ b2 = some (n2, S)) (hc : cut blk.cells o2 k = some news) :
    ∃ l : List Value, l.length = k ∧ cellsR σ news l ∧ ∀ j u, l[j]? = some u → w.cell? ((⟨n2, o2, none⟩ : Addr).add j) = some u := by
  obtain ⟨rfl, hcl⟩ := cut_some hc
  obtain ⟨m, cur, g1, g2, g3, g4⟩ := hM.blk b2 blk hb
  rw [hσ] at g1
  obtain ⟨rfl, rfl⟩ := Prod.mk.inj (Option.some.inj g1)
  have hr : cellsR σ ((blk.cells.drop o2).take k) (((cur.toList.take blk.cells.length).drop o2).take k) := cellsR_take k (cellsR_drop o2 g4)
  have hl := cellsR_length hr
  rw [hcl] at hl
  refine ⟨_, hl.symm, hr, fun j u hj => ?_⟩
  rw [add_at, cell_of_row w n2 (o2 + j) cur _ _ g2]
  rw [List.getElem?_take] at hj
  split at hj
  · rw [List.getElem?_drop, List.getElem?_take] at hj
    split at hj
    · simpa using hj
    · cases hj
  · cases hj
theorem look_two {b b2 : Nat} {x x2 : AB} (hp : Pre s s' M σ) (hw : WF s) (h1 : s'.foot.testBit b = true) (hb : s.mem.get b = some x) : M b = some x := by rw [hp.1 b (hw.lt hb) h1, hb]
theorem append_exec {x y : Operand} {t : TypeId} {a : Act} (ho : o.op = .call { callee := .builtin .append, args := #[x, y], argTypes := #[t, t] }) {u v z : Value} (hx : a.eval x = u) (hy : a.eval y = v) {w w' : World}
    (h : (Builtin.append_ #[t, t] o.type #[u, v]).run P w = .ok z w') : (execOp a.eval o).run P w = .ok (.value z) w' := by
  unfold execOp
  simp only [ho, resolve, invoke, builtin, Sem.run_bind, Sem.run_pure, Result.andThen_ok, List.map_toArray, List.map_cons, List.map_nil, hx, hy, h]
/-- Something is appended: to nothing, or to a row that is dropped (D: what stands without it). -/
theorem append_core {x y : Operand} {t e : TypeId} {a : Act} {i : TypeInfo} {z : Value} {s1 : St} {M1 : Mem} {o2 n2 cap2 m n : Nat} {xs : List Value} {v : Value} {oldc news : List AC} {l : List Value}
    (ho : o.op = .call { callee := .builtin .append, args := #[x, y], argTypes := #[t, t] }) (ht : P.underlying t = some (.slice e)) (hi : P.info? e = some i) (hz : i.zero = some z) (hzs : z.cells.size = i.size) (h0 : 0 < i.size)
    (hxe : a.eval x = v) (hye : a.eval y = .slice (some ⟨n2, o2, none⟩) m cap2) (hM : MemR base σ M w) (hown : w.ownsRow base e i.size v n xs) (hl : l.length = m * i.size) (hlr : cellsR σ news l) (hlc : ∀ j u, l[j]? = some u → w.cell? ((⟨n2, o2, none⟩ : Addr).add j) = some u)
    (hxs : cellsR σ oldc xs) (hm : 0 < m) (hnm : n + m ≤ 1000000000) (hby : (n + m) * i.bytes ≤ 1000000000) (hw : WF s1) (hp : Pre s1 (s1.new ⟨oldc ++ news, e⟩) M1 σ) (hM1 : MemR base σ M1 w)
    (hd : ∀ g, v.ownBlock = some g → ∀ j y S, M1 j = some y → σ j ≠ some (g, S)) :
    ∃ v' σ' w', (execOp a.eval o).run P w = .ok (.value v') w' ∧ PostX base s1 (s1.new ⟨oldc ++ news, e⟩) M1 σ w σ' w' (fun n => v.ownBlock = some n) ∧ resR σ' (one (.sl s1.next 0 (n + m) (some i.size))) v' := by
  obtain ⟨g, cap, w', hr, h2, h3, h4, h5⟩ := run_append_lies (P := P) w t o.type base e i z i.size i.bytes ht hi hz rfl rfl hzs h0 v n xs hown ⟨n2, o2, none⟩ m cap2 l hl hlc (cellsR_one hlr) hm (by simp [maxLen]; omega) (by omega) hM.bs _ rfl
  have hrun := append_exec ho hxe hye hr
  rcases h2.2 with ⟨e1, _⟩ | ⟨g', cap', cur, e1, k1, k2, k3, k4, k5, k6⟩
  · cases e1
  · cases e1
    have hcr : cellsR σ (oldc ++ news) (xs ++ l) := cellsR_append hxs hlr
    have hlen := cellsR_length hcr
    have hxl : (xs ++ l).length = (n + m) * i.size := h2.1
    have hle : (n + m) * i.size ≤ cap * i.size := Nat.mul_le_mul_right _ k3
    have hrow : ∀ k, v.ownBlock = some k → base ≤ k := fun k hk => (hown.lt k hk).1
    have hbel : Below base w w' := ⟨h3.os, h3.tape, h3.output, h3.size, fun k hk => h3.block k (Nat.lt_of_lt_of_le hk hM.bs) (fun e => by have := hrow k e.symm; omega)⟩
    have hf : ∀ j y S, M1 j = some y → σ j ≠ some (g, S) := fun j y S hj e => by
      rcases h4 with h4 | h4
      · exact hd g h4 j y S hj e
      · have := hM1.live hj e
        omega
    have hpost := name_ok (X := fun n => v.ownBlock = some n) (g := g) (cur := cur) (w1 := w') hw hp hM1 k1 hf k2 (by show (oldc ++ news).length ≤ _; rw [hlen, hxl, k5]; exact hle) (by show cellsR σ (oldc ++ news) (cur.toList.take (oldc ++ news).length); rw [hlen, hxl, k6]; exact hcr)
      (fun j y k S hj e => h3.block k (hM1.live hj e) (fun e2 => hd k e2.symm j y S hj e)) hbel (fun k hk hX => h3.block k hk (fun e2 => hX e2.symm)) (fun e => h4.elim id (fun e2 => by omega))
    refine ⟨_, _, w', hrun, hpost, slR (S := cur.size) ?_ k3 k5.symm k4⟩
    unfold upS
    rw [if_pos rfl]
theorem ok_append (x y : Operand) (t : TypeId) (u v : AC) (ho : o.op = .call { callee := .builtin .append, args := #[x, y], argTypes := #[t, t] }) (hw : WF s) (hu : oneOf (fr.eval x) = some u) (hv : oneOf (fr.eval y) = some v) (h : evAppend P t u v s = some (r, s')) : OpOK P base o fr s r s' := by
  unfold evAppend at h
  split at h
  · rename_i e ht
    split at h
    · rename_i i zero hi hz
      rw [Bool.cond_eq_ite] at h
      split at h
      · rename_i hc0
        simp only [Bool.and_eq_true, Nat.beq_eq, Nat.blt_eq] at hc0
        have hzz : ∃ z, i.zero = some z ∧ z.cells.size = i.size := by
          obtain ⟨z, hz1, hz2⟩ := zero_ok (σ := fun _ => none) hz
          obtain ⟨it, hit, hz3⟩ := Option.bind_eq_some_iff.1 hz1
          rw [hi] at hit
          obtain rfl := Option.some.inj hit
          have hzl := cellsR_length hz2
          simp only [Array.length_toList] at hzl
          exact ⟨z, hz3, by omega⟩
        obtain ⟨z, hz1, hz2⟩ := hzz
        split at h
        · have hnil : ∀ {v0 : Value} {n c : Nat} {ba : Option Addr} {w : World}, v0 = .slice ba n c → n ≤ c → (Builtin.append_ #[t, t] o.type #[v0, .slice none 0 0]).run P w = .ok v0 w := by
            intro v0 n c ba w e hle
            subst e
            cases ba with
            | none => simp [Builtin.append_, run_underlying ht, sizeOf, typeInfo, hi, Builtin.lenOf, Builtin.firstCells, hle]
            | some ad => simp [Builtin.append_, run_underlying ht, sizeOf, typeInfo, hi, Builtin.lenOf, Builtin.firstCells, hle, storeCells]
          split at h
          · simp only [Option.some.injEq, Prod.mk.injEq] at h
            obtain ⟨rfl, rfl⟩ := h
            refine .pure hw fun σ w a _ hf => ?_
            have hxe : a.eval x = .slice none 0 0 := (oneR_inv (hf.eval (by simp [ho, Op.operands, Call.operands]) (oneOf_some hu))).1.1
            have hye : a.eval y = .slice none 0 0 := (oneR_inv (hf.eval (by simp [ho, Op.operands, Call.operands]) (oneOf_some hv))).1.1
            exact ⟨_, append_exec ho hxe hye (hnil rfl (Nat.le_refl _)), oneR ⟨rfl, rfl⟩⟩
          · rename_i b off n wh
            simp only [Option.some.injEq, Prod.mk.injEq] at h
            obtain ⟨rfl, rfl⟩ := h
            refine .pure hw fun σ w a _ hf => ?_
            obtain ⟨nb, S, cap, g0, hxe, hle, hwh⟩ := sl_eval hu hf (by simp [ho, Op.operands, Call.operands])
            have hye : a.eval y = .slice none 0 0 := (oneR_inv (hf.eval (by simp [ho, Op.operands, Call.operands]) (oneOf_some hv))).1.1
            exact ⟨_, append_exec ho hxe hye (hnil rfl hle), oneR ⟨nb, S, cap, g0, rfl, hle, hwh⟩⟩
          · cases h
        · rename_i b2 o2 m wh2
          split at h
          · rename_i blk2 hb2
            split at h
            · rename_i news hnews
              have hm1 : Mono s (s.look b2) := Mono.look hw b2
              split at h
              · rw [Bool.cond_eq_ite] at h
                split at h
                · rename_i hm
                  have hm0 : m = 0 := by simpa [Nat.beq_eq] using hm
                  subst hm0
                  simp only [Option.some.injEq, Prod.mk.injEq] at h
                  obtain ⟨rfl, rfl⟩ := h
                  refine .of hm1 fun M σ w a hp hM hf => ?_
                  have hxe : a.eval x = .slice none 0 0 := (oneR_inv (hf.eval (by simp [ho, Op.operands, Call.operands]) (oneOf_some hu))).1.1
                  obtain ⟨n2, S2, cap2, g1, hye, _⟩ := sl_eval hv hf (by simp [ho, Op.operands, Call.operands])
                  have hr : (Builtin.append_ #[t, t] o.type #[.slice none 0 0, .slice (some ⟨n2, o2, none⟩) 0 cap2]).run P w = .ok (.slice none 0 0) w := by
                    simp [Builtin.append_, run_underlying ht, sizeOf, typeInfo, hi, Builtin.lenOf, Builtin.firstCells, loadCells, loadCellsFrom]
                  exact ⟨_, σ, w, append_exec ho hxe hye hr, Post.quiet hp hw rfl rfl (fun _ h => bit_old h) hM, oneR ⟨rfl, rfl⟩⟩
                · rename_i hm
                  have hmp : 0 < m := by rcases Nat.eq_zero_or_pos m with e | e; (· subst e; exact absurd rfl hm); exact e
                  rw [Bool.cond_eq_ite] at h
                  split at h
                  · rename_i hc
                    simp only [Bool.and_eq_true, Nat.ble_eq] at hc
                    simp only [Option.some.injEq, Prod.mk.injEq] at h
                    obtain ⟨rfl, rfl⟩ := h
                    have hm2 : Mono (s.look b2) ((s.look b2).new ⟨news, e⟩) := Mono.new hm1.wf _
                    refine .of (hm1.trans hm2) fun M σ w a hp hM hf => ?_
                    have hp1 := hp.first hm2
                    have hxe : a.eval x = .slice none 0 0 := (oneR_inv (hf.eval (by simp [ho, Op.operands, Call.operands]) (oneOf_some hu))).1.1
                    obtain ⟨n2, S2, cap2, g1, hye, _⟩ := sl_eval hv hf (by simp [ho, Op.operands, Call.operands])
                    obtain ⟨l, hl, hlr, hlc⟩ := news_ok hM (by rw [hp1.look hw hb2, hb2]) g1 hnews
                    have q1 : Post base s (s.look b2) M σ w σ w := Post.quiet hp1 hw rfl rfl (fun _ h => bit_old h) hM
                    have hp2 := hp.second hm1 hm2 q1.ext
                    obtain ⟨v', σ', w', k1, k2, k3⟩ := append_core (s1 := s.look b2) (oldc := []) (xs := []) (n := 0) ho ht hi hz1 hz2 hc0.1 hxe hye hM (World.ownsRow_nil _ _ _ _) hl hlr hlc trivial hmp (by omega) (by rw [Nat.zero_add]; exact hc.1) hm1.wf hp2 q1.mem (fun g hg => by simp [Value.ownBlock] at hg)
                    rw [Nat.zero_add] at k3
                    exact ⟨v', σ', w', k1, PostX.then_ q1 k2 hm1 hm2 (fun n e => by simp [Value.ownBlock] at e), k3⟩
                  · cases h
              · rename_i b n zz
                split at h
                · rename_i blk hb
                  rw [Bool.cond_eq_ite] at h
                  split at h
                  · rename_i hc
                    simp only [Bool.and_eq_true, Nat.ble_eq, Nat.beq_eq, Bool.not_eq_true'] at hc
                    obtain ⟨⟨⟨⟨⟨c1, c2⟩, c3⟩, c4⟩, c5⟩, c6⟩ := hc
                    have hbb : b ≠ b2 := fun e => by subst e; simp [Nat.beq_refl] at c3
                    subst c1
                    have hown : ∀ {σ : Nm} {M : Mem} {w : World} {nb S cap : Nat}, MemR base σ M w → M b = some blk → σ b = some (nb, S) → n ≤ cap → cap * i.size = S → cap ≤ maxLen → ∃ xs, w.ownsRow base e i.size (.slice (some ⟨nb, 0, none⟩) n cap) n xs ∧ cellsR σ (blk.cells.take (n * i.size)) xs := by
                      intro σ M w nb S cap hM hMb g1 h1 h2 h3
                      obtain ⟨m', cur, j1, j2, j3, j4⟩ := hM.blk b blk hMb
                      rw [g1] at j1
                      obtain ⟨rfl, rfl⟩ := Prod.mk.inj (Option.some.inj j1)
                      have hr := cellsR_take (n * i.size) j4
                      rw [List.take_take, Nat.min_eq_left c4] at hr
                      refine ⟨cur.toList.take (n * i.size), ⟨?_, .inr ⟨nb, cap, cur, rfl, hM.rng b nb _ g1, by rw [← c2]; exact j2, h1, h3, h2.symm, rfl⟩⟩, hr⟩
                      rw [List.length_take, Array.length_toList]
                      omega
                    rw [Bool.cond_eq_ite] at h
                    split at h
                    · rename_i hm
                      have hm0 : m = 0 := by simpa [Nat.beq_eq] using hm
                      subst hm0
                      simp only [Option.some.injEq, Prod.mk.injEq] at h
                      obtain ⟨rfl, rfl⟩ := h
                      have hm2 : Mono (s.look b2) ((s.look b2).look b) := Mono.look hm1.wf b
                      refine .of (hm1.trans hm2) fun M σ w a hp hM hf => ?_
                      obtain ⟨nb, S, cap, g0, hxe, hle, hwh⟩ := sl_eval hu hf (by simp [ho, Op.operands, Call.operands])
                      obtain ⟨n2, S2, cap2, g1, hye, _⟩ := sl_eval hv hf (by simp [ho, Op.operands, Call.operands])
                      have hr : (Builtin.append_ #[t, t] o.type #[.slice (some ⟨nb, 0, none⟩) n cap, .slice (some ⟨n2, o2, none⟩) 0 cap2]).run P w = .ok (.slice (some ⟨nb, 0, none⟩) n cap) w := by
                        simp [Builtin.append_, run_underlying ht, sizeOf, typeInfo, hi, Builtin.lenOf, Builtin.firstCells, loadCells, loadCellsFrom, storeCells, hle]
                      exact ⟨_, σ, w, append_exec ho hxe hye hr, Post.quiet hp hw rfl rfl (fun _ h => bit_old (bit_old h)) hM, oneR ⟨nb, S, cap, g0, rfl, hle, hwh⟩⟩
                    · rename_i hm
                      have hmp : 0 < m := by rcases Nat.eq_zero_or_pos m with e | e; (· subst e; exact absurd rfl hm); exact e
                      simp only [Option.some.injEq, Prod.mk.injEq] at h
                      obtain ⟨rfl, rfl⟩ := h
                      have hbl : b < s.next := hw.lt hb
                      have hm2 : Mono (s.look b2) ((s.look b2).write b none) := Mono.write hm1.wf hbl _
                      have hm3 : Mono ((s.look b2).write b none) (((s.look b2).write b none).new ⟨blk.cells.take (n * i.size) ++ news, e⟩) := Mono.new hm2.wf _
                      refine .of (hm1.trans (hm2.trans hm3)) fun M σ w a hp hM hf => ?_
                      have hp1 := hp.first (hm2.trans hm3)
                      obtain ⟨nb, S, cap, g0, hxe, hle, hwh⟩ := sl_eval hu hf (by simp [ho, Op.operands, Call.operands])
                      obtain ⟨n2, S2, cap2, g1, hye, _⟩ := sl_eval hv hf (by simp [ho, Op.operands, Call.operands])
                      obtain ⟨l, hl, hlr, hlc⟩ := news_ok hM (by rw [hp1.look hw hb2, hb2]) g1 hnews
                      have q1 : Post base s (s.look b2) M σ w σ w := Post.quiet hp1 hw rfl rfl (fun _ h => bit_old h) hM
                      have hp2 := hp.second hm1 (hm2.trans hm3) q1.ext
                      have hp2a := hp2.first hm3
                      have hMb : after (s.look b2) M b = some blk := by rw [hp2a.1 b hbl (bit_self _ _)]; exact hb
                      have q2 := drop_ok (w := w) (base := base) hm1.wf hp2a q1.mem
                      have hp3 := hp2.second hm2 hm3 q2.ext
                      obtain ⟨xs, hown1, hxs⟩ := hown q1.mem hMb g0 hle (hwh _ rfl).2.1 (hwh _ rfl).2.2
                      obtain ⟨v', σ', w', k1, k2, k3⟩ := append_core (s1 := (s.look b2).write b none) (oldc := blk.cells.take (n * i.size)) (xs := xs) (n := n) ho ht hi hz1 hz2 hc0.1 hxe hye hM hown1 hl hlr hlc hxs hmp c6 c5 hm2.wf hp3 q2.mem (fun g hg j y S' hj e => by
                        simp only [Value.ownBlock, Option.some.injEq] at hg
                        subst hg
                        rw [after_write hp2a hm1.wf] at hj
                        unfold upM at hj
                        split at hj
                        · cases hj
                        · rename_i hjb
                          exact hjb (q1.mem.inj j b nb S' nb S (by rw [hj]; simp) (by rw [hMb]; simp) e g0 rfl))
                      have q23 := PostX.then_ q2 k2 hm2 hm3 (fun n e => by simp only [Value.ownBlock, Option.some.injEq] at e; exact ⟨b, S, by rw [hMb]; simp, by rw [g0, e]⟩)
                      exact ⟨v', σ', w', k1, q1.trans q23 hm1 (hm2.trans hm3), k3⟩
                  · cases h
                · cases h
              · cases h
            · cases h
          · cases h
        · cases h
      · cases h
    · cases h
  · cases h
theorem optInt_ok {a : Act} (hf : FrO σ fr o a) {x : Option Operand} {n : Option Int} (hm : ∀ y, x = some y → y ∈ o.op.operands) (h : optInt fr x = some n) : (x = none ∧ n = none) ∨ ∃ y k m, x = some y ∧ n = some m ∧ a.eval y = .int k m := by
  cases x with
  | none => simp only [optInt, Option.some.injEq] at h; exact .inl ⟨rfl, h.symm⟩
  | some y =>
    simp only [optInt] at h
    split at h
    · rename_i m hmm
      obtain rfl := Option.some.inj h
      obtain ⟨k, hk⟩ := hf.int (hm y rfl) hmm
      exact .inr ⟨y, k, m, rfl, rfl, hk⟩
    · cases h
theorem run_bound {k : IntKind} {i : Int} {y : Nat} {c : BoundsCode} (h0 : 0 ≤ i) (h1 : i ≤ y) (w : World) : (Instr.sliceBound (.int k i) y c).run P w = .ok i.toNat w := by
  simp [Instr.sliceBound, asIntOf, h0, h1]
theorem ok_slice (t : TypeId) (x : Operand) (lo hi : Option Operand) (ho : o.op = .slice t x lo hi none) (hw : WF s) (h : opSlice P o fr s t lo hi (oneOf (fr.eval x)) = some (r, s')) : OpOK P base o fr s r s' := by
  unfold opSlice at h
  split at h
  · rename_i b off len wh hx
    split at h
    · rename_i lo' hi' hlo hhi
      obtain ⟨hs, rfl⟩ := withS_some h
      refine .pure hw fun σ w a _ hf => ?_
      obtain ⟨nb, S, cap, g0, hxe, hle, hwh⟩ := sl_eval hx hf (by simp [ho, Op.operands])
      have L0 := optInt_ok hf (fun y e => by rw [e] at ho; simp [ho, Op.operands]) hlo
      have H0 := optInt_ok hf (fun y e => by rw [e] at ho; simp [ho, Op.operands]) hhi
      unfold evSlice at hs
      split at hs
      · rename_i e b' off' len' wh' hu heq
        cases heq
        split at hs
        · rename_i n hn
          dsimp only at hs
          rw [Bool.cond_eq_ite] at hs
          split at hs
          · rename_i hc
            simp only [Bool.and_eq_true, decide_eq_true_eq] at hc
            have hb : ∀ w : World, (Instr.sliceBounds true len cap (lo.map a.eval) (hi.map a.eval) none).run P w = .ok ((lo'.getD 0).toNat, (hi'.getD (len : Int)).toNat, cap) w := by
              intro w
              rcases H0 with ⟨e1, e2⟩ | ⟨y, k, m, e1, e2, e3⟩
              · subst e1; subst e2
                rcases L0 with ⟨d1, d2⟩ | ⟨z, k', m', d1, d2, d3⟩
                · subst d1; subst d2
                  simp [Instr.sliceBounds]
                · subst d1; subst d2
                  have hq := fun c => run_bound (P := P) (k := k') (i := m') (y := len) (c := c) (by simp at hc; omega) (by simp at hc; omega) w
                  simp [Instr.sliceBounds, d3, hq]
              · subst e1; subst e2
                have hp := fun c => run_bound (P := P) (k := k) (i := m) (y := cap) (c := c) (by simp at hc; omega) (by simp at hc; omega) w
                rcases L0 with ⟨d1, d2⟩ | ⟨z, k', m', d1, d2, d3⟩
                · subst d1; subst d2
                  simp [Instr.sliceBounds, e3, hp]
                · subst d1; subst d2
                  have hq := fun c => run_bound (P := P) (k := k') (i := m') (y := m.toNat) (c := c) (by simp at hc; omega) (by simp at hc; omega) w
                  simp [Instr.sliceBounds, e3, d3, hp, hq]
            have hrun : (Instr.sliceAt t (a.eval x) (lo.map a.eval) (hi.map a.eval) none).run P w = .ok (.slice (if cap = (lo'.getD 0).toNat then some ⟨nb, off, none⟩ else some ⟨nb, off + (lo'.getD 0).toNat * n, none⟩) ((hi'.getD (len : Int)).toNat - (lo'.getD 0).toNat) (cap - (lo'.getD 0).toNat)) w := by
              simp only [Instr.sliceAt, Sem.run_bind, run_underlying hu, Result.andThen_ok, Instr.slice, hxe, hb, run_sizeIn hn, Sem.run_pure, Option.map_some, add_at]
            have hex : (execOp a.eval o).run P w = .ok (.value (.slice (if cap = (lo'.getD 0).toNat then some ⟨nb, off, none⟩ else some ⟨nb, off + (lo'.getD 0).toNat * n, none⟩) ((hi'.getD (len : Int)).toNat - (lo'.getD 0).toNat) (cap - (lo'.getD 0).toNat))) w := by
              simp only [execOp, ho, Option.map_none, Sem.run_bind, hrun, Result.andThen_ok, Sem.run_pure]
            rw [Bool.cond_eq_ite] at hs
            split at hs
            · rename_i hl0
              have hl0' : lo'.getD 0 = 0 := of_decide_eq_true hl0
              obtain rfl := Option.some.inj hs
              refine ⟨_, hex, ?_⟩
              rw [hl0', Int.toNat_zero, Nat.sub_zero, Nat.sub_zero, Nat.zero_mul, Nat.add_zero, ite_self]
              exact oneR ⟨nb, S, cap, g0, rfl, by omega, hwh⟩
            · rw [Bool.cond_eq_ite] at hs
              split at hs
              · rename_i hl0 hl1
                have hl1' : lo'.getD 0 < hi'.getD (len : Int) := of_decide_eq_true hl1
                obtain rfl := Option.some.inj hs
                refine ⟨_, hex, ?_⟩
                rw [if_neg (by omega)]
                exact oneR ⟨nb, S, _, g0, rfl, by omega, fun z e => by cases e⟩
              · cases hs
          · cases hs
        · cases hs
      · cases hs
    · cases h
  · obtain ⟨hx, rfl⟩ := withS_some h
    exact evClosed_ok hw hx
theorem ok_len (c : Call) (x : Operand) (t : TypeId) (ho : o.op = .call c) (hc : c.callee = .builtin .len) (hx : c.args.toList = [x]) (ht : c.argTypes.toList = [t]) (hw : WF s) (h : opLen P o fr s x t = some (r, s')) : OpOK P base o fr s r s' := by
  have hx' : c.args = #[x] := by cases hca : c.args; rw [hca] at hx; simp at hx; rw [hx]
  have ht' : c.argTypes = #[t] := by cases hca : c.argTypes; rw [hca] at ht; simp at ht; rw [ht]
  have hmem : x ∈ o.op.operands := by simp [ho, Op.operands, Call.operands, hx']
  have hex : ∀ {a : Act} {v z : Value} {w : World}, a.eval x = v → (Builtin.len_ #[t] o.type #[v]).run P w = .ok z w → (execOp a.eval o).run P w = .ok (.value z) w := by
    intro a v z w he h
    unfold execOp
    simp only [ho, resolve, hc, hx', ht', invoke, builtin, Sem.run_bind, Sem.run_pure, Result.andThen_ok, List.map_toArray, List.map_cons, List.map_nil, he, h]
  unfold opLen at h
  split at h
  · rename_i b off len wh e hxx hu
    simp only [Option.some.injEq, Prod.mk.injEq] at h
    obtain ⟨rfl, rfl⟩ := h
    refine .pure hw fun σ w a _ hf => ?_
    obtain ⟨nb, S, cap, g0, hxe, _⟩ := sl_eval hxx hf hmem
    exact ⟨.int .i64 len, hex hxe (by simp [Builtin.len_, run_underlying hu, goInt]), oneR ⟨rfl, rfl⟩⟩
  · rename_i u hxx hu
    simp only [Option.some.injEq, Prod.mk.injEq] at h
    obtain ⟨rfl, rfl⟩ := h
    refine .pure hw fun σ w a _ hf => ?_
    have hxe : a.eval x = .string u := (oneR_inv (hf.eval hmem (oneOf_some hxx))).1.1
    refine ⟨.int .i64 (u.size : Int), hex hxe (by simp [Builtin.len_, run_underlying hu, goInt]), oneR ⟨?_, rfl⟩⟩
    congr 1
  · obtain ⟨hx, rfl⟩ := withS_some h
    exact evClosed_ok hw hx
theorem argsA_ok {a : Act} (hf : FrO σ fr o a) : ∀ {l : List Operand} {rs : List AR}, (∀ x ∈ l, x ∈ o.op.operands) → argsA fr l = some rs → argsR σ rs (l.map a.eval)
  | [], rs, _, h => by simp [argsA] at h; subst h; trivial
  | x :: xs, rs, hm, h => by
    simp only [argsA] at h
    split at h
    · rename_i r rs' hr hrs
      obtain rfl := Option.some.inj h
      exact ⟨hf.eval (hm x List.mem_cons_self) hr, argsA_ok hf (fun y hy => hm y (List.mem_cons_of_mem _ hy)) hrs⟩
    · cases h
theorem ptrs_args {σ : Nm} : ∀ {ps : List (Nat × Nat)} {vs : List Value}, ptrsR σ ps vs → argsR σ (ptrs ps) vs
  | [], [], _ => trivial
  | (_, _) :: _, _ :: _, ⟨⟨n, S, e, r⟩, b⟩ => ⟨by rw [r]; exact ptrR e, ptrs_args b⟩
  | [], _ :: _, e => e.elim
  | (_, _) :: _, [], e => e.elim
theorem ptrsOf_ok {σ : Nm} : ∀ {rs : List AR} {ps : List (Nat × Nat)} {vs : List Value}, ptrsOf rs = some ps → argsR σ rs vs → ptrsR σ ps vs
  | [], ps, [], h, _ => by simp [ptrsOf] at h; subst h; trivial
  | r :: rs, ps, v :: vs, h, ⟨a, b⟩ => by
    simp only [ptrsOf] at h
    split at h
    · rename_i b1 o1 ps1 h1 h2
      obtain rfl := Option.some.inj h
      have h3 := oneOf_some h1
      obtain rfl := Option.some.inj h3
      exact ⟨(oneR_inv a).1, ptrsOf_ok h2 b⟩
    · cases h
  | [], _, _ :: _, _, e => e.elim
  | _ :: _, _, [], _, e => e.elim
theorem argsR_append {σ : Nm} : ∀ {as bs : List AR} {us vs : List Value}, argsR σ as us → argsR σ bs vs → argsR σ (as ++ bs) (us ++ vs)
  | [], _, [], _, _, h => h
  | _ :: _, _, _ :: _, _, ⟨a, b⟩, h => ⟨a, argsR_append b h⟩
  | [], _, _ :: _, _, e, _ => e.elim
  | _ :: _, _, [], _, e, _ => e.elim
theorem ok_func (f : FuncId) (first cap : Array Operand) (ho : o.op = .makeFunc (.func f) first cap) (hw : WF s) (h : opFunc s f first.toList (argsA fr cap.toList) = some (r, s')) : OpOK P base o fr s r s' := by
  unfold opFunc at h
  split at h
  · cases h
  · rename_i l hl
    split at h
    · rename_i ps hfirst hps
      simp only [Option.some.injEq, Prod.mk.injEq] at h
      obtain ⟨rfl, rfl⟩ := h
      refine .pure hw fun σ w a _ hf => ?_
      have hr := argsA_ok hf (fun x hx => by simp only [ho, Op.operands]; exact Array.mem_append.2 (.inr (by simpa using hx))) hl
      refine ⟨.func (.func f) #[] (cap.map a.eval), ?_, oneR ⟨cap.toList.map a.eval, ?_, ptrsOf_ok hps hr⟩⟩
      · have : first = #[] := by cases first; simp at hfirst; rw [hfirst]
        subst this
        simp [execOp, ho, Instr.makeFunc]
      · congr 1
        apply Array.ext'
        simp
    · cases h
theorem ok_enter (HN : ∀ (f : FuncId) (fn : Func), P.funcs[f]? = some fn → (fn.name == "runtime.NumGoroutine") = false) {call : CallF} (hcall : CallOK P base call) {f : FuncId} {args : List AR} (hw : WF s) (h : call f args s = some (r, s'))
    (he : ∀ (σ : Nm) (a : Act), FrO σ fr o a → ∃ vs : List Value, argsR σ args vs ∧ ∀ w : World, (callFunc f vs.toArray).run P w = .ok (.enter f vs.toArray) w → (execOp a.eval o).run P w = .ok (.enter f vs.toArray) w) : OpOK P base o fr s r s' := by
  obtain ⟨⟨fn, hfn, hbody⟩, hm, hk⟩ := hcall f args s r s' h hw
  refine ⟨hm, fun M σ w a hp hM hf K Q hK => ?_⟩
  obtain ⟨vs, hr, hx⟩ := he σ a hf
  have hcalls := hk M σ w _ hp hM hr
  have h2 : (callFunc f vs.toArray).run P w = .ok (.enter f vs.toArray) w := by
    have h1 : ¬ fn.name = "runtime.NumGoroutine" := by simpa using HN f fn hfn
    have h2 : ¬ fn.body = none := fun e => by rw [e] at hbody; cases hbody
    simp [callFunc, hfn, h1, h2]
  unfold Oper.wp
  rw [hx w h2]
  exact hcalls.mono fun e w' ⟨v, σ', e1, e2, e3⟩ => by subst e1; exact hK v σ' w' e2 e3
theorem ok_call (HN : ∀ (f : FuncId) (fn : Func), P.funcs[f]? = some fn → (fn.name == "runtime.NumGoroutine") = false) {call : CallF} (hcall : CallOK P base call) (c : Call) (ho : o.op = .call c) (hw : WF s) (h : opCall P call o fr s c = some (r, s')) : OpOK P base o fr s r s' := by
  have hargs : ∀ {x : Operand}, c.callee = .value x → ∀ {args : List AR} {σ : Nm} {a : Act}, argsA fr c.args.toList = some args → FrO σ fr o a → argsR σ args (c.args.toList.map a.eval) := fun hc args σ a hargs hf => argsA_ok hf (fun x hx => by
    simp only [ho, Op.operands, Call.operands, hc]
    exact Array.mem_append.2 (.inr (by simpa using hx))) hargs
  have hex : ∀ {x : Operand} {f : FuncId} {cap : Array Value} {a : Act}, c.callee = .value x → a.eval x = .func (.func f) #[] cap → ∀ w : World, (callFunc f ((c.args.toList.map a.eval) ++ cap.toList).toArray).run P w = .ok (.enter f ((c.args.toList.map a.eval) ++ cap.toList).toArray) w → (execOp a.eval o).run P w = .ok (.enter f ((c.args.toList.map a.eval) ++ cap.toList).toArray) w := by
    intro x f cap a hc hv w h2
    have h3 : ((c.args.toList.map a.eval) ++ cap.toList).toArray = c.args.map a.eval ++ cap := by apply Array.ext'; simp
    rw [h3] at h2 ⊢
    unfold execOp
    simp only [ho, resolve, hc, hv, Deferred.ofValue, Sem.run_bind, Sem.run_pure, Result.andThen_ok, invoke, Array.empty_append]
    exact h2
  unfold opCall at h
  split at h
  · rename_i f hc
    unfold opEnter at h
    split at h
    · rename_i args ha
      refine ok_enter HN hcall hw h fun σ a hf => ⟨c.args.toList.map a.eval, hargs hc ha hf, fun w h2 => ?_⟩
      have := hex (f := f) (cap := #[]) (a := a) hc rfl w
      simp only [List.append_nil] at this
      exact this h2
    · cases h
  · rename_i x hne hc
    unfold opValue at h
    split at h
    · rename_i f ps hx
      split at h
      · rename_i args ha
        refine ok_enter HN hcall hw h fun σ a hf => ?_
        obtain ⟨vs, e1, e2⟩ := (oneR_inv (hf.eval (by simp [ho, Op.operands, Call.operands, hc]) (oneOf_some hx))).1
        refine ⟨c.args.toList.map a.eval ++ vs, argsR_append (hargs hc ha hf) (ptrs_args e2), fun w h2 => ?_⟩
        have := hex (f := f) (cap := vs.toArray) (a := a) hc e1 w
        exact this h2
      · cases h
    · rename_i f ar br hx
      rw [Bool.cond_eq_ite] at h
      split at h
      case isFalse => cases h
      rename_i hemp
      rw [Bool.and_eq_true, List.isEmpty_iff, List.isEmpty_iff] at hemp
      obtain rfl : ar = #[] := by cases ar; simp at hemp; rw [hemp.1]
      obtain rfl : br = #[] := by cases br; simp at hemp; rw [hemp]
      unfold opEnter at h
      split at h
      · rename_i args ha
        refine ok_enter HN hcall hw h fun σ a hf => ⟨c.args.toList.map a.eval, hargs hc ha hf, fun w h2 => ?_⟩
        have e1 : a.eval x = .func (.func f) #[] #[] := (oneR_inv (hf.eval (by simp [ho, Op.operands, Call.operands, hc]) (oneOf_some hx))).1.1
        have := hex (f := f) (cap := #[]) (a := a) hc e1 w
        simp only [List.append_nil] at this
        exact this h2
      · cases h
    · cases h
  · rename_i hc
    split at h
    · rename_i x t hx ht
      exact ok_len c x t ho hc hx ht hw h
    · cases h
  · rename_i hc
    split at h
    · rename_i x y t t' hx ht
      have hx' : c.args = #[x, y] := by cases hca : c.args; rw [hca] at hx; simp at hx; rw [hx]
      have ht' : c.argTypes = #[t, t'] := by cases hca : c.argTypes; rw [hca] at ht; simp at ht; rw [ht]
      unfold opAppend at h
      split at h
      · rename_i u v hu hv
        rw [Bool.cond_eq_ite] at h
        split at h
        · rename_i htt
          have htt' : t = t' := by simpa [Nat.beq_eq] using htt
          subst htt'
          refine ok_append x y t u v ?_ hw hu hv h
          rw [ho]
          obtain ⟨c1, c2, c3⟩ := c
          dsimp only at hc hx' ht'
          rw [hc, hx', ht']
        · cases h
      · cases h
    · cases h
  · obtain ⟨hx, rfl⟩ := withS_some h
    exact evClosed_ok hw hx
/-- Every operation. -/
theorem evOp_ok (HN : ∀ (f : FuncId) (fn : Func), P.funcs[f]? = some fn → (fn.name == "runtime.NumGoroutine") = false) {call : CallF} (hcall : CallOK P base call) (hw : WF s) (h : evOp P call o fr s = some (r, s')) : OpOK P base o fr s r s' := by
  unfold evOp at h
  split at h
  · rename_i x ho; exact ok_move x (.inl ho) hw h
  · rename_i x ho; exact ok_move x (.inr ho) hw h
  · rename_i c x y ho; exact ok_pick c x y ho hw h
  · rename_i op t x y t' ho; exact ok_bin op t t' x y ho hw h
  · rename_i f first cap ho; exact ok_func f first cap ho hw h
  · rename_i op t x ho; exact ok_un op t x ho hw h
  · rename_i t ho; exact ok_alloc t ho hw h
  · rename_i t x ho; exact ok_box t x ho hw h
  · rename_i t x ho; exact ok_load t x ho hw h
  · rename_i t x y ho; exact ok_store t x y ho hw h
  · rename_i x ho; exact ok_nil x ho hw h
  · rename_i t x f ho; exact ok_fieldAddr t x f ho hw h
  · rename_i t x ix ho; exact ok_indexAddr t x ix ho hw h
  · rename_i t x f ho; exact ok_field t x f ho hw h
  · rename_i t x ix ho; exact ok_index t x ix ho hw h
  · rename_i x i ho; exact ok_extract x i ho hw h
  · rename_i t ps ho; exact ok_build t ps ho hw h
  · rename_i t len ps ho; exact ok_buildSlice t len ps ho hw h
  · rename_i t l c ho; exact ok_makeSlice t l c ho hw h
  · rename_i t x lo hi ho; exact ok_slice t x lo hi ho hw h
  · rename_i c ho; exact ok_call HN hcall c ho hw h
  · obtain ⟨hx, rfl⟩ := withS_some h
    exact evClosed_ok hw hx
end
end Go.Proofs.YtgalkkolbobmbaaGreat.Abs
