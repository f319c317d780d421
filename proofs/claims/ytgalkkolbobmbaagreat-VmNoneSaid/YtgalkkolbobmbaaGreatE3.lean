/- The evaluator's soundness, 3: the operations. -/
import Derived.Test.YtgalkkolbobmbaaGreatE2
import Derived.Laws.Strings
namespace Go.Proofs.YtgalkkolbobmbaaGreat.Abs
set_option linter.unusedVariables false
set_option linter.unusedSimpArgs false
open Go Go.RowKit
def CallOK (P : Program) (base : Nat) (call : CallF) : Prop := ∀ (f : FuncId) (args : List AR) (s : St) (r : AR) (s' : St), call f args s = some (r, s') → WF s →
  (∃ fn, P.funcs[f]? = some fn ∧ fn.body.isNone = false) ∧ Mono s s' ∧ ∀ (M : Mem) (σ : Nm) (w : World) (vs : List Value), Pre s s' M σ → MemR base σ M w → argsR σ args vs → Calls P f vs.toArray w fun e w' => ∃ v σ', e = .returned v ∧ Post base s s' M σ w σ' w' ∧ resR σ' r v
section
variable {P : Program} {base : Nat} {s s' : St} {M : Mem} {σ : Nm} {w : World} {fr : Fr} {o : Oper} {r : AR}
theorem ptr_eval {x : Operand} {b off : Nat} {a : Act} (h : oneOf (fr.eval x) = some (.ptr b off)) (hf : FrO σ fr o a) (hm : x ∈ o.op.operands) : ∃ n S, σ b = some (n, S) ∧ a.eval x = .pointer (some ⟨n, off, none⟩) := by
  have := hf.eval hm (oneOf_some h)
  exact (oneR_inv this).1
theorem sl_eval {x : Operand} {b off len : Nat} {wh : Option Nat} {a : Act} (h : oneOf (fr.eval x) = some (.sl b off len wh)) (hf : FrO σ fr o a) (hm : x ∈ o.op.operands) : ∃ n S cap, σ b = some (n, S) ∧ a.eval x = .slice (some ⟨n, off, none⟩) len cap ∧ len ≤ cap ∧ ∀ z, wh = some z → off = 0 ∧ cap * z = S ∧ cap ≤ maxLen := by
  have := hf.eval hm (oneOf_some h)
  exact (oneR_inv this).1
theorem ok_move (x : Operand) (ho : o.op = .move x ∨ o.op = .assign x) (hw : WF s) (h : withS (fr.eval x) s = some (r, s')) : OpOK P base o fr s r s' := by
  obtain ⟨hx, rfl⟩ := withS_some h
  rcases ho with ho | ho <;> exact .pure hw fun σ w a _ hf => ⟨a.eval x, by simp only [execOp, ho]; rfl, hf.eval (by simp [ho, Op.operands]) hx⟩
theorem ok_pick (c x y : Operand) (ho : o.op = .pick c x y) (hw : WF s) (h : opPick fr s c x y = some (r, s')) : OpOK P base o fr s r s' := by
  unfold opPick at h
  split at h
  · rename_i hb
    obtain ⟨hx, rfl⟩ := withS_some h
    refine .pure hw fun σ w a _ hf => ⟨a.eval x, ?_, hf.eval (by simp [ho, Op.operands]) hx⟩
    simp [execOp, ho, hf.bool (by simp [ho, Op.operands]) hb, asBool]
  · rename_i hb
    obtain ⟨hx, rfl⟩ := withS_some h
    refine .pure hw fun σ w a _ hf => ⟨a.eval y, ?_, hf.eval (by simp [ho, Op.operands]) hx⟩
    simp [execOp, ho, hf.bool (by simp [ho, Op.operands]) hb, asBool]
  · cases h
theorem run_zero {t : Nat} {z : Value} (h : (P.info? t).bind (·.zero) = some z) (w : World) : (zeroValue t).run P w = .ok z w := by
  obtain ⟨i, hi, hz⟩ := Option.bind_eq_some_iff.1 h
  simp [zeroValue, typeInfo, hi, hz]
theorem ok_alloc (t : TypeId) (ho : o.op = .alloc t) (hw : WF s) (h : evAlloc P t s = some (r, s')) : OpOK P base o fr s r s' := by
  unfold evAlloc at h
  split at h
  · rename_i z hz
    split at h
    · rename_i v hv
      simp only [Option.some.injEq, Prod.mk.injEq] at h
      obtain ⟨rfl, rfl⟩ := h
      refine .of (Mono.new hw _) fun M σ w a hp hM hf => ?_
      have hr := take_all (valR_cells (σ := σ) (aval_of hv))
      refine ⟨.pointer (some ⟨w.heap.size, 0, none⟩), _, w.alloc (.cells z.cells t), ?_, new_ok hw hp hM (alloc_heap w _) hr.1 hr.2 (below_alloc1 w _), ptrR (S := z.cells.size) ?_⟩
      · simp [execOp, ho, Instr.alloc, run_zero hz, run_newVar]
      · unfold upS; rw [if_pos rfl]
    · cases h
  · cases h
theorem ok_box (t : TypeId) (x : Operand) (ho : o.op = .box t x) (hw : WF s) (h : opBox t s (fr.eval x) = some (r, s')) : OpOK P base o fr s r s' := by
  unfold opBox at h
  split at h
  · rename_i v hv
    simp only [Option.some.injEq, Prod.mk.injEq] at h
    obtain ⟨rfl, rfl⟩ := h
    refine .of (Mono.new hw _) fun M σ w a hp hM hf => ?_
    have hr := take_all (valR_cells (hf.eval (by simp [ho, Op.operands]) hv))
    refine ⟨.pointer (some ⟨w.heap.size, 0, none⟩), _, w.alloc (.cells (a.eval x).cells t), ?_, new_ok hw hp hM (alloc_heap w _) hr.1 hr.2 (below_alloc1 w _), ptrR (S := (a.eval x).cells.size) ?_⟩
    · simp [execOp, ho, Instr.box, run_newVar]
    · unfold upS; rw [if_pos rfl]
  · cases h
theorem load_mem {t b off : Nat} {v : AV} (h : evLoad P t b off s = some v) : ∃ x, s.mem.get b = some x := by
  unfold evLoad at h
  split at h
  · rename_i hb _ _; exact ⟨_, hb⟩
  · rename_i hb _ _; exact ⟨_, hb⟩
  · cases h
theorem Pre.look {b : Nat} {x : AB} (hp : Pre s (s.look b) M σ) (hw : WF s) (h : s.mem.get b = some x) : M b = s.mem.get b := hp.1 b (hw.lt h) (bit_self _ _)
theorem ok_load (t : TypeId) (x : Operand) (ho : o.op = .load t x) (hw : WF s) (h : opLoad P t s (oneOf (fr.eval x)) = some (r, s')) : OpOK P base o fr s r s' := by
  unfold opLoad at h
  split at h
  · rename_i b off hx
    split at h
    · rename_i v hv
      simp only [Option.some.injEq, Prod.mk.injEq] at h
      obtain ⟨rfl, rfl⟩ := h
      refine .of (Mono.look hw b) fun M σ w a hp hM hf => ?_
      obtain ⟨y, hy⟩ := load_mem hv
      obtain ⟨n, S, g1, u, g2, g3⟩ := run_evLoad hv (hp.look hw hy) hM
      obtain ⟨n', S', g1', he⟩ := ptr_eval hx hf (by simp [ho, Op.operands])
      rw [g1] at g1'
      obtain ⟨rfl, rfl⟩ := Prod.mk.inj (Option.some.inj g1')
      refine ⟨u, σ, w, ?_, Post.quiet hp hw rfl rfl (fun _ h => bit_old h) hM, g3⟩
      simp [execOp, ho, Instr.loadAt, he, Instr.sureAddr, g2]
    · cases h
  · cases h
theorem take_put {α : Type} (l u : List α) (off k : Nat) (h1 : off + u.length ≤ k) (h2 : k ≤ l.length) : (l.take off ++ u ++ l.drop (off + u.length)).take k = (l.take k).take off ++ (u ++ (l.take k).drop (off + u.length)) := by
  have e1 : (l.take off).length = off := by rw [List.length_take]; omega
  have e2 : (l.take off).take k = (l.take k).take off := by rw [List.take_take, List.take_take, Nat.min_comm]
  rw [List.append_assoc, List.take_append, e1, List.take_append, e2, List.take_of_length_le (l := u) (by omega), List.drop_take]
  congr 3
  omega
theorem putCells_length {l c : List AC} {off : Nat} (h : off + c.length ≤ l.length) : (putCells l off c).length = l.length := by
  unfold putCells
  simp only [List.length_append, List.length_take, List.length_drop]
  omega
theorem cellsR_put {l c : List AC} {vs us : List Value} {off : Nat} (h : cellsR σ l vs) (k : cellsR σ c us) : cellsR σ (putCells l off c) (vs.take off ++ (us ++ vs.drop (off + us.length))) := by
  unfold putCells
  rw [cellsR_length k]
  exact cellsR_append (cellsR_take off h) (cellsR_append k (cellsR_drop _ h))
theorem ok_store (t : TypeId) (x y : Operand) (ho : o.op = .store t x y) (hw : WF s) (h : opStore P t s (oneOf (fr.eval x)) (fr.eval y) = some (r, s')) : OpOK P base o fr s r s' := by
  unfold opStore at h
  split at h
  · rename_i b off v hx hy
    split at h
    · rename_i s1 hs
      simp only [Option.some.injEq, Prod.mk.injEq] at h
      obtain ⟨rfl, rfl⟩ := h
      unfold evStore at hs
      split at hs
      · rename_i blk n hb hn
        rw [Bool.cond_eq_ite] at hs
        split at hs
        · rename_i hc
          simp only [Bool.and_eq_true, Nat.beq_eq, Nat.ble_eq] at hc
          obtain rfl := Option.some.inj hs
          refine .ofSkip (Mono.write hw (hw.lt hb) _) fun M σ w a hp hM hf => ?_
          obtain ⟨m, S, g1, he⟩ := ptr_eval hx hf (by simp [ho, Op.operands])
          have hv := hf.eval (by simp [ho, Op.operands]) hy
          have hMb : M b = some blk := by rw [hp.1 b (hw.lt hb) (bit_self _ _), hb]
          obtain ⟨m', cur, k1, k2, k3, k4⟩ := hM.blk b blk hMb
          rw [g1] at k1
          obtain ⟨rfl, rfl⟩ := Prod.mk.inj (Option.some.inj k1)
          have hcs := valR_cells hv
          have hl := cellsR_length hcs
          have hsz : (a.eval y).cells.size = n := by simp at hl; omega
          have hfit : off + 0 + (a.eval y).cells.toList.length ≤ cur.size := by rw [← hl]; omega
          have hst := run_storeCells_at P m off blk.elem (a.eval y).cells.toList 0 cur w k2 hfit (cellsR_one hcs)
          rw [Nat.add_zero] at hst
          refine ⟨σ, w.setRow m (cur.toList.take off ++ (a.eval y).cells.toList ++ cur.toList.drop (off + (a.eval y).cells.toList.length)).toArray, ?_, ⟨Ext.refl _ _ _, ?_, ?_, fun n _ hn _ => setRow_other w m n _ (fun e => hn ⟨b, cur.size, by rw [hMb]; simp, by rw [e]; exact g1⟩), fun n _ hn => .inl ?_⟩⟩
          · simp only [execOp, ho, Instr.storeAt, he, Instr.sureAddr, Sem.run_bind, Sem.run_pure, Result.andThen_ok, storeVar, run_sizeIn hn, hsz, ne_eq, not_true, if_false, hst]
          · rw [after_write hp hw]
            have hlen : (putCells blk.cells off v.cs).length = blk.cells.length := putCells_length (by omega)
            refine hM.store (cur := cur) (n := m) hMb g1 (setRow_heap w m cur _ _ _ k2) ?_ (by rw [hlen]; exact k3) ?_ (by simp [World.setRow]) (fun k hk _ => setRow_other w m k _ hk)
            · simp only [List.size_toArray, List.length_append, List.length_take, List.length_drop, Array.length_toList]
              simp only [Array.length_toList] at hl
              omega
            · rw [hlen]
              have := cellsR_put (off := off) k4 hcs
              have e : ((cur.toList.take off ++ (a.eval y).cells.toList ++ cur.toList.drop (off + (a.eval y).cells.toList.length)).toArray.toList).take blk.cells.length = (cur.toList.take blk.cells.length).take off ++ ((a.eval y).cells.toList ++ (cur.toList.take blk.cells.length).drop (off + (a.eval y).cells.toList.length)) := by
                exact take_put _ _ _ _ (by rw [← hl]; omega) (by rw [Array.length_toList]; omega)
              rw [e]
              exact this
          · refine ⟨rfl, rfl, rfl, by simp [World.setRow], fun k hk => setRow_other w m k _ (fun e => ?_)⟩
            have := hM.rng b m _ g1
            omega
          · rw [after_write hp hw] at hn
            obtain ⟨j, S, q1, q2⟩ := hn
            refine ⟨j, S, fun e => q1 ?_, q2⟩
            unfold upM
            rw [if_neg (fun e2 => by rw [e2, hMb] at e; cases e)]
            exact e
        · cases hs
      · cases hs
    · cases h
  · cases h
theorem ok_nil (x : Operand) (ho : o.op = .nilCheck x) (hw : WF s) (h : opNil s (oneOf (fr.eval x)) = some (r, s')) : OpOK P base o fr s r s' := by
  unfold opNil at h
  split at h
  · rename_i b off hx
    simp only [Option.some.injEq, Prod.mk.injEq] at h
    obtain ⟨rfl, rfl⟩ := h
    refine .pure hw fun σ w a _ hf => ?_
    obtain ⟨m, S, g1, he⟩ := ptr_eval hx hf (by simp [ho, Op.operands])
    refine ⟨_, ?_, ptrR g1⟩
    simp only [execOp, ho, he]
    rfl
  · cases h
theorem fieldPlace_run {a : Addr} {f : Field} {n : Nat} (h : sizeIn P f.type = some (n + 1)) (w : World) : (fieldPlace a f).run P w = .ok (a.add f.offset) w := by
  simp [fieldPlace, run_sizeIn h]
theorem ok_fieldAddr (t : TypeId) (x : Operand) (f : Nat) (ho : o.op = .fieldAddr t x f) (hw : WF s) (h : opFieldAddr P t f s (oneOf (fr.eval x)) = some (r, s')) : OpOK P base o fr s r s' := by
  unfold opFieldAddr at h
  split at h
  · rename_i b off fields hx hu
    split at h
    · rename_i fd hfd
      split at h
      · rename_i n hn
        simp only [Option.some.injEq, Prod.mk.injEq] at h
        obtain ⟨rfl, rfl⟩ := h
        refine .pure hw fun σ w a _ hf => ?_
        obtain ⟨m, S, g1, he⟩ := ptr_eval hx hf (by simp [ho, Op.operands])
        refine ⟨_, ?_, ptrR g1⟩
        simp [execOp, ho, he, Instr.fieldAt, run_underlying hu, hfd, Instr.sureAddr, fieldPlace_run hn, add_at]
      · cases h
    · cases h
  · cases h
theorem ok_indexAddr (t : TypeId) (x ix : Operand) (ho : o.op = .indexAddr t x ix) (hw : WF s)
    (h : opIndexAddr P t s (oneOf (fr.eval x)) (fr.int ix) = some (r, s')) : OpOK P base o fr s r s' := by
  unfold opIndexAddr at h
  split at h
  · rename_i b off len wh i e hx hi hu
    unfold idxAt at h
    split at h
    · rename_i n hn
      rw [Bool.cond_eq_ite] at h
      split at h
      · rename_i hc
        simp only [Bool.and_eq_true, decide_eq_true_eq] at hc
        simp only [Option.some.injEq, Prod.mk.injEq] at h
        obtain ⟨rfl, rfl⟩ := h
        refine .pure hw fun σ w a _ hf => ?_
        obtain ⟨m, S, cap, g1, he, _⟩ := sl_eval hx hf (by simp [ho, Op.operands])
        obtain ⟨k, hk⟩ := hf.int (by simp [ho, Op.operands]) hi
        refine ⟨_, ?_, ptrR g1⟩
        simp [execOp, ho, he, hk, Instr.indexAt, asIntOf, run_underlying hu, hc.1, hc.2, run_sizeIn hn, add_at]
      · cases h
    · cases h
  · rename_i b off i len e hx hi hu
    unfold idxAt at h
    split at h
    · rename_i n hn
      rw [Bool.cond_eq_ite] at h
      split at h
      · rename_i hc
        simp only [Bool.and_eq_true, decide_eq_true_eq] at hc
        simp only [Option.some.injEq, Prod.mk.injEq] at h
        obtain ⟨rfl, rfl⟩ := h
        refine .pure hw fun σ w a _ hf => ?_
        obtain ⟨m, S, g1, he⟩ := ptr_eval hx hf (by simp [ho, Op.operands])
        obtain ⟨k, hk⟩ := hf.int (by simp [ho, Op.operands]) hi
        refine ⟨_, ?_, ptrR g1⟩
        simp [execOp, ho, he, hk, Instr.indexAt, asIntOf, run_underlying hu, hc.1, hc.2, run_sizeIn hn, add_at, Instr.sureAddr]
      · cases h
    · cases h
  · cases h
theorem run_partA {t off : Nat} {cs : List AC} {l : List Value} {v : AV} (h : partA P t cs off = some v) (hr : cellsR σ cs l) (w : World) : ∃ u, (part t l.toArray off).run P w = .ok u w ∧ valR σ v u := by
  unfold partA at h
  split at h
  · rename_i n ha hn
    obtain ⟨c, hc, rfl⟩ := Option.map_eq_some_iff.1 h
    obtain ⟨rfl, hcl⟩ := cut_some hc
    refine ⟨.agg ((l.drop off).take n).toArray, ?_, valR_agg (cellsR_take n (cellsR_drop off hr))⟩
    simp only [part, Sem.run_bind, run_isAggIn ha, Result.andThen_ok, if_true, run_sizeIn hn, Sem.run_pure]
    congr 2
    apply Array.ext'
    simp [List.extract_eq_take_drop]
  · rename_i ha
    obtain ⟨c, hc, rfl⟩ := Option.map_eq_some_iff.1 h
    obtain ⟨u, hu, hcu⟩ := cellsR_get hr hc
    refine ⟨u, ?_, valR_one hcu⟩
    simp [part, run_isAggIn ha, hu]
  · cases h
theorem ok_field (t : TypeId) (x : Operand) (f : Nat) (ho : o.op = .field t x f) (hw : WF s)
    (h : opField P t f s (fr.eval x) = some (r, s')) : OpOK P base o fr s r s' := by
  unfold opField at h
  split at h
  · rename_i cs fields hx hu
    split at h
    · rename_i fd hfd
      split at h
      · rename_i v hv
        simp only [Option.some.injEq, Prod.mk.injEq] at h
        obtain ⟨rfl, rfl⟩ := h
        refine .pure hw fun σ w a _ hf => ?_
        obtain ⟨l, he, hl⟩ := valR_agg_inv (hf.eval (by simp [ho, Op.operands]) hx)
        obtain ⟨u, g1, g2⟩ := run_partA hv hl w
        refine ⟨u, ?_, g2⟩
        simp [execOp, ho, he, Instr.field, run_underlying hu, hfd, asAgg, g1]
      · cases h
    · cases h
  · cases h
theorem ok_index (t : TypeId) (x ix : Operand) (ho : o.op = .index t x ix) (hw : WF s)
    (h : opIndex P o fr s t x ix = some (r, s')) : OpOK P base o fr s r s' := by
  unfold opIndex at h
  split at h
  · rename_i cs i len e hx hi hu
    unfold idxIn at h
    split at h
    · rename_i n hn
      rw [Bool.cond_eq_ite] at h
      split at h
      · rename_i hc
        simp only [Bool.and_eq_true, decide_eq_true_eq] at hc
        split at h
        · rename_i v hv
          simp only [Option.some.injEq, Prod.mk.injEq] at h
          obtain ⟨rfl, rfl⟩ := h
          refine .pure hw fun σ w a _ hf => ?_
          obtain ⟨l, he, hl⟩ := valR_agg_inv (hf.eval (by simp [ho, Op.operands]) hx)
          obtain ⟨u, g1, g2⟩ := run_partA hv hl w
          obtain ⟨k, hk⟩ := hf.int (by simp [ho, Op.operands]) hi
          refine ⟨u, ?_, g2⟩
          simp [execOp, ho, he, hk, Instr.index, asIntOf, run_underlying hu, hc.1, hc.2, run_sizeIn hn, g1]
        · cases h
      · cases h
    · cases h
  · obtain ⟨hx, rfl⟩ := withS_some h
    exact evClosed_ok hw hx
theorem ok_extract (x : Operand) (i : Nat) (ho : o.op = .extract x i) (hw : WF s)
    (h : opExtract i s (fr.eval x) = some (r, s')) : OpOK P base o fr s r s' := by
  unfold opExtract at h
  split at h
  · rename_i vs hx
    split at h
    · rename_i v hv
      simp only [Option.some.injEq, Prod.mk.injEq] at h
      obtain ⟨rfl, rfl⟩ := h
      refine .pure hw fun σ w a _ hf => ?_
      obtain ⟨l, he, hl⟩ := hf.eval (by simp [ho, Op.operands]) hx
      obtain ⟨u, hu, hr⟩ := valsR_get hl hv
      refine ⟨u, ?_, hr⟩
      simp [execOp, ho, he, Instr.extract, hu]
    · cases h
  · cases h
theorem natCmp_run {op : BinOp} {m n : Nat} {v : Value} (h : natCmp op m n = some v) (w : World) : (Op.intCmp op (m : Int) (n : Int)).run P w = .ok v w ∧ v.oneCell' = true := by
  cases op <;> simp only [natCmp, reduceCtorEq, Option.some.injEq] at h <;> subst h <;> refine ⟨?_, rfl⟩ <;> simp only [Op.intCmp, Sem.run_pure] <;> congr 2
  · rw [Bool.eq_iff_iff, beq_iff_eq, Nat.beq_eq]; omega
  · rw [Bool.eq_iff_iff, bne_iff_ne, Bool.not_eq_true', ← Bool.not_eq_true, Nat.beq_eq]; omega
  · rw [Bool.eq_iff_iff]; simp [Nat.blt_eq]
  · rw [Bool.eq_iff_iff]; simp [Nat.ble_eq]
  · rw [Bool.eq_iff_iff]; simp [Nat.blt_eq]
  · rw [Bool.eq_iff_iff]; simp [Nat.ble_eq]
theorem bytesEq_iff : ∀ {a b : List UInt8}, bytesEq a b = (a == b)
  | [], [] => rfl
  | [], _ :: _ => rfl
  | _ :: _, [] => rfl
  | a :: as, b :: bs => by
    rw [bytesEq, bytesEq_iff, Bool.cond_eq_ite]
    by_cases h : a = b
    · subst h; simp [Nat.beq_refl]
    · have : ¬ a.toNat = b.toNat := fun e => h (UInt8.toNat_inj.1 e)
      simp [Nat.beq_eq, this, h]
theorem natBin_run {op : BinOp} {m n : Nat} {v : Value} {t : TypeId} (h : natBin op m n = some v) (w : World) : (binOp op t (.int .i64 (m : Int)) (.int .i64 (n : Int))).run P w = .ok v w ∧ v.oneCell' = true := by
  by_cases ha : op = .add
  · subst ha
    simp only [natBin, Bool.cond_eq_ite, Nat.blt_eq] at h
    split at h
    · rename_i hc
      obtain rfl := Option.some.inj h
      have hc' : m + n < 9223372036854775808 := hc
      have hw : IntKind.i64.wrap ((m : Int) + (n : Int)) = (m : Int) + (n : Int) := by rw [IntKind.wrap_i64]; omega
      refine ⟨?_, rfl⟩
      simp only [binOp, ne_eq, not_true, if_false, Op.intArith, Sem.run_pure, hw]
      rfl
    · cases h
  by_cases hb : op = .sub
  · subst hb
    simp only [natBin, Bool.cond_eq_ite, Bool.and_eq_true, Nat.blt_eq, Nat.ble_eq] at h
    split at h
    · rename_i hc
      obtain rfl := Option.some.inj h
      have hw : IntKind.i64.wrap ((m : Int) - (n : Int)) = ((m - n : Nat) : Int) := by rw [IntKind.wrap_i64]; omega
      refine ⟨?_, rfl⟩
      simp only [binOp, ne_eq, not_true, if_false, Op.intArith, Sem.run_pure, hw]
      rfl
    · cases h
  have hn : natBin op m n = natCmp op m n := by cases op <;> first | rfl | exact absurd rfl ha | exact absurd rfl hb
  rw [hn] at h
  have k := natCmp_run (P := P) h w
  refine ⟨?_, k.2⟩
  cases op <;> first | (simp [natCmp] at h; done) | (simp only [binOp, ne_eq, not_true, if_false]; exact k.1)
theorem equalIn_ptr {t e : TypeId} (hu : P.underlying t = some (.pointer e)) (d : Nat) (a : Addr) (w : World) : (Op.equalIn (d + 1) t (.pointer (some a)) (.pointer none)).run P w = .ok false w := by
  simp [Op.equalIn, run_underlying hu]
theorem equalIn_sl {t e : TypeId} (hu : P.underlying t = some (.slice e)) (d : Nat) (a : Addr) (n c : Nat) (w : World) : (Op.equalIn (d + 1) t (.slice (some a) n c) (.slice none 0 0)).run P w = .ok false w := by
  simp [Op.equalIn, run_underlying hu]
theorem equal_ptr {t e : TypeId} (hu : P.underlying t = some (.pointer e)) (a : Addr) (w : World) : (Op.equal t (.pointer (some a)) (.pointer none)).run P w = .ok false w := equalIn_ptr hu 9999 a w
theorem equal_sl {t e : TypeId} (hu : P.underlying t = some (.slice e)) (a : Addr) (n c : Nat) (w : World) : (Op.equal t (.slice (some a) n c) (.slice none 0 0)).run P w = .ok false w := equalIn_sl hu 9999 a n c w
set_option maxHeartbeats 1000000 in
theorem ok_bin (op : BinOp) (t t' : TypeId) (x y : Operand) (ho : o.op = .binOp op t x y t') (hw : WF s) (h : opBin P o fr s op t x y = some (r, s')) : OpOK P base o fr s r s' := by
  unfold opBin at h
  split at h
  · rename_i v hv
    simp only [Option.some.injEq, Prod.mk.injEq] at h
    obtain ⟨rfl, rfl⟩ := h
    have key : ∀ u u' : Value, fr.closed x = some u → fr.closed y = some u' → (∀ w, (eqGuard op t x y u u').run P w = .ok () w ∧ (binOp op t u u').run P w = .ok v w) ∧ v.oneCell' = true → OpOK P base o fr s (one (.lit v)) s := by
      intro u u' hu hu' hk
      refine .pure hw fun σ w a _ hf => ⟨v, ?_, oneR ⟨rfl, hk.2⟩⟩
      have e1 := hf.closed (by simp [ho, Op.operands]) hu
      have e2 := hf.closed (by simp [ho, Op.operands]) hu'
      simp only [execOp, ho, Sem.run_bind, e1, e2, (hk.1 w).1, (hk.1 w).2, Result.andThen_ok, Sem.run_pure]
    unfold fastBin at hv
    split at hv
    · rename_i m n e1 e2
      exact key _ _ e1 e2 ⟨fun w => ⟨by cases op <;> rfl, (natBin_run (P := P) hv w).1⟩, (natBin_run (P := P) (t := 0) hv default).2⟩
    · rename_i m n e1 e2
      refine key _ _ e1 e2 ⟨fun w => ⟨by cases op <;> rfl, ?_⟩, (natCmp_run (P := P) hv default).2⟩
      have k := (natCmp_run (P := P) hv w).1
      cases op <;> first | (simp [natCmp] at hv; done) | (simp only [binOp, ne_eq, not_true, if_false]; exact k)
    · rename_i c d e1 e2
      have hb : (c.toList == d.toList) = bytesEq c.data.toList d.data.toList := by rw [bytesEq_iff, ByteArray.toList_eq, ByteArray.toList_eq]
      split at hv
      · obtain rfl := Option.some.inj hv
        exact key _ _ e1 e2 ⟨fun w => ⟨rfl, by simp only [binOp, Op.stringOp, hb, Sem.run_pure]⟩, rfl⟩
      · obtain rfl := Option.some.inj hv
        exact key _ _ e1 e2 ⟨fun w => ⟨rfl, by simp only [binOp, Op.stringOp, hb, Sem.run_pure]⟩, rfl⟩
      · cases hv
    · cases hv
  · unfold slowBin at h
    have key : ∀ {u u' : AC} (b : Bool), oneOf (fr.eval x) = some u → oneOf (fr.eval y) = some u' → (∀ σ v v', cellR σ u v → cellR σ u' v' → ∀ w, (eqGuard op t x y v v').run P w = .ok () w ∧ (binOp op t v v').run P w = .ok (.bool b) w) → OpOK P base o fr s (one (.lit (.bool b))) s := by
      intro u u' b hu hu' hk
      refine .pure hw fun σ w a _ hf => ⟨.bool b, ?_, oneR ⟨rfl, rfl⟩⟩
      have e1 := (oneR_inv (hf.eval (by simp [ho, Op.operands]) (oneOf_some hu))).1
      have e2 := (oneR_inv (hf.eval (by simp [ho, Op.operands]) (oneOf_some hu'))).1
      have e3 := hk σ _ _ e1 e2 w
      simp only [execOp, ho, Sem.run_bind, e3.1, e3.2, Result.andThen_ok, Sem.run_pure]
    split at h
    · rename_i e b1 o1 hu h1 h2
      unfold nilBin at h
      split at h
      · simp only [Option.some.injEq, Prod.mk.injEq] at h
        obtain ⟨rfl, rfl⟩ := h
        refine key false h1 h2 (fun σ v v' ⟨n, S, _, e1⟩ ⟨e2, _⟩ w => ?_)
        subst e1; subst e2
        exact ⟨rfl, by simp [binOp, equal_ptr hu]⟩
      · simp only [Option.some.injEq, Prod.mk.injEq] at h
        obtain ⟨rfl, rfl⟩ := h
        refine key true h1 h2 (fun σ v v' ⟨n, S, _, e1⟩ ⟨e2, _⟩ w => ?_)
        subst e1; subst e2
        exact ⟨rfl, by simp [binOp, equal_ptr hu]⟩
      · cases h
    · rename_i e b1 o1 l1 w1 hu h1 h2
      unfold nilBin at h
      split at h
      · simp only [Option.some.injEq, Prod.mk.injEq] at h
        obtain ⟨rfl, rfl⟩ := h
        refine key false h1 h2 (fun σ v v' ⟨n, S, cap, _, e1, _⟩ ⟨e2, _⟩ w => ?_)
        subst e1; subst e2
        exact ⟨rfl, by simp [binOp, equal_sl hu]⟩
      · simp only [Option.some.injEq, Prod.mk.injEq] at h
        obtain ⟨rfl, rfl⟩ := h
        refine key true h1 h2 (fun σ v v' ⟨n, S, cap, _, e1, _⟩ ⟨e2, _⟩ w => ?_)
        subst e1; subst e2
        exact ⟨rfl, by simp [binOp, equal_sl hu]⟩
      · cases h
    · obtain ⟨hx, rfl⟩ := withS_some h
      exact evClosed_ok hw hx
theorem ok_un (op : UnOp) (t : TypeId) (x : Operand) (ho : o.op = .unOp op t x) (hw : WF s) (h : opUn P o fr s op (fr.closed x) = some (r, s')) : OpOK P base o fr s r s' := by
  unfold opUn at h
  split at h
  · rename_i b hb
    simp only [Option.some.injEq, Prod.mk.injEq] at h
    obtain ⟨rfl, rfl⟩ := h
    refine .pure hw fun σ w a _ hf => ⟨.bool (!b), ?_, oneR ⟨rfl, rfl⟩⟩
    have e1 := hf.closed (by simp [ho, Op.operands]) hb
    simp only [execOp, ho, Sem.run_bind, e1, Op.unary, Result.andThen_ok, Sem.run_pure]
  · obtain ⟨hx, rfl⟩ := withS_some h
    exact evClosed_ok hw hx
end
end Go.Proofs.YtgalkkolbobmbaaGreat.Abs
