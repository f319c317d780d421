/- The evaluator's soundness, 4: structs, slices, append, calls; every operation. -/
import Derived.Test.YtgalkkolbobmbaaGreatE3
import Derived.Laws.MakeOwn
import Derived.Laws.Build
namespace Go.Proofs.YtgalkkolbobmbaaGreat.Abs
set_option linter.unusedVariables false
set_option linter.unusedSimpArgs false
open Go Go.RowKit
section
variable {P : Program} {base : Nat} {s s' : St} {M : Mem} {σ : Nm} {w : World} {fr : Fr} {o : Oper} {r : AR}
/-- Parts, with their values. -/
def partsR (σ : Nm) : List (Nat × AR) → List (Nat × Value) → Prop
  | [], [] => True
  | (i, r) :: ps, (j, v) :: qs => i = j ∧ resR σ r v ∧ partsR σ ps qs
  | _, _ => False
theorem partsA_ok {a : Act} (hf : FrO σ fr o a) : ∀ {ps : List (Nat × Operand)} {rs : List (Nat × AR)}, (∀ p ∈ ps, p.2 ∈ o.op.operands) → partsA fr ps = some rs → partsR σ rs (ps.map fun (i, x) => (i, a.eval x))
  | [], rs, _, h => by simp [partsA] at h; subst h; trivial
  | (i, x) :: ps, rs, hm, h => by
    simp only [partsA] at h
    split at h
    · rename_i r rs' hr hrs
      obtain rfl := Option.some.inj h
      exact ⟨rfl, hf.eval (hm _ List.mem_cons_self) hr, partsA_ok hf (fun p hp => hm p (List.mem_cons_of_mem _ hp)) hrs⟩
    · cases h
theorem foldl_put : ∀ (vs : List Value) (cells : Array Value) (off k : Nat), off + k + vs.length ≤ cells.size →
    ((vs.zipIdx k).foldl (fun cs (cj : Value × Nat) => cs.setIfInBounds (off + cj.2) cj.1) cells).toList = cells.toList.take (off + k) ++ (vs ++ cells.toList.drop (off + k + vs.length))
  | [], cells, off, k, h => by simp
  | v :: vs, cells, off, k, h => by
    simp only [List.zipIdx_cons, List.foldl_cons]
    rw [foldl_put vs _ off (k + 1) (by simp at h ⊢; omega)]
    have e := list_seg_step cells.toList (off + k) v vs (by simp at h ⊢; omega)
    simp only [Array.toList_setIfInBounds, List.length_cons] at e ⊢
    rw [← List.append_assoc, ← List.append_assoc]
    simpa [Nat.add_assoc] using e
theorem fillA_ok {place : Nat → Option (Nat × Nat)} : ∀ {ps : List (Nat × AR)} {qs : List (Nat × Value)} {cs cs' : List AC} {l : List Value}, fillA place cs ps = some cs' → partsR σ ps qs → cellsR σ cs l →
    ∃ l' : List Value, Instr.fill place l.toArray qs = some l'.toArray ∧ cellsR σ cs' l'
  | [], [], cs, cs', l, h, _, hr => by simp [fillA] at h; subst h; exact ⟨l, rfl, hr⟩
  | (i, .val v) :: ps, (j, u) :: qs, cs, cs', l, h, ⟨e, hv, hq⟩, hr => by
    subst e
    simp only [fillA] at h
    split at h
    · cases h
    · rename_i off size hp
      rw [Bool.cond_eq_ite] at h
      split at h
      · rename_i hc
        simp only [Bool.and_eq_true, Nat.beq_eq, Nat.ble_eq] at hc
        have hcs := valR_cells (show valR σ v u from hv)
        have hl1 := cellsR_length hcs
        have hl2 := cellsR_length hr
        simp only [Array.length_toList] at hl1
        have hp2 := cellsR_put (off := off) hr hcs
        have hf := foldl_put u.cells.toList l.toArray off 0 (by simp; omega)
        simp only [Nat.add_zero] at hf
        obtain ⟨l', h1, h2⟩ := fillA_ok (l := l.take off ++ (u.cells.toList ++ l.drop (off + u.cells.toList.length))) h hq hp2
        refine ⟨l', ?_, h2⟩
        simp only [Instr.fill, hp]
        rw [if_neg (by simp; omega)]
        have he : (u.cells.zipIdx.foldl (fun cs (x : Value × Nat) => cs.setIfInBounds (off + x.2) x.1) l.toArray) = (l.take off ++ (u.cells.toList ++ l.drop (off + u.cells.toList.length))).toArray := by
          apply Array.ext'
          rw [← Array.foldl_toList, Array.toList_zipIdx]
          exact hf
        exact (congrArg (fun z => Instr.fill place z qs) he).trans h1
      · cases h
  | (i, .tup v) :: ps, _, cs, cs', l, h, _, hr => by simp [fillA] at h
  | [], _ :: _, _, _, _, _, e, _ => e.elim
  | (_, _) :: _, [], _, _, _, _, e, _ => e.elim
theorem zero_ok {t : TypeId} {cs : List AC} (h : zeroCells P t = some cs) : ∃ z, (P.info? t).bind (·.zero) = some z ∧ cellsR σ cs z.cells.toList := by
  unfold zeroCells at h
  split at h
  · rename_i z hz
    obtain ⟨v, hv, rfl⟩ := Option.map_eq_some_iff.1 h
    exact ⟨z, hz, valR_cells (aval_of hv)⟩
  · cases h
theorem placesOf_eq : ∀ {fs : List Field} {pl : List (Nat × Nat)}, placesOf P fs = some pl → fs.mapM (fun f => (P.info? f.type).map fun i => (f.offset, i.size)) = some pl
  | [], pl, h => by simp [placesOf] at h; subst h; rfl
  | f :: fs, pl, h => by
    simp only [placesOf] at h
    split at h
    · rename_i n l hn hl
      obtain rfl := Option.some.inj h
      unfold sizeIn at hn
      obtain ⟨i, hi, rfl⟩ := Option.map_eq_some_iff.1 hn
      simp [List.mapM_cons, hi, placesOf_eq hl]
    · cases h
theorem ok_build (t : TypeId) (ps : Array (Nat × Operand)) (ho : o.op = .build t ps) (hw : WF s) (h : opBuild P t s (partsA fr ps.toList) = some (r, s')) : OpOK P base o fr s r s' := by
  unfold opBuild at h
  split at h
  · rename_i l hl
    obtain ⟨hb, rfl⟩ := withS_some h
    refine .pure hw fun σ w a _ hf => ?_
    have hq := partsA_ok hf (fun p hp => by simp only [ho, Op.operands, List.mem_toArray]; exact List.mem_map.2 ⟨p, hp, rfl⟩) hl
    have key : ∃ l' : List Value, P.built t (ps.map fun (i, x) => (i, a.eval x)).toList = some l'.toArray ∧ ∃ cs, r = .val (.agg cs) ∧ cellsR σ cs l' := by
      unfold evBuild at hb
      split at hb
      · rename_i fields zero hu hz
        obtain ⟨z, hz1, hz2⟩ := zero_ok (σ := σ) hz
        obtain ⟨it, hit, hz3⟩ := Option.bind_eq_some_iff.1 hz1
        split at hb
        · rename_i pl hpl
          split at hb
          · rename_i cs hcs
            obtain rfl := Option.some.inj hb
            obtain ⟨l', g1, g2⟩ := fillA_ok hcs hq hz2
            refine ⟨l', ?_, cs, rfl, g2⟩
            unfold Program.built
            rw [hit, hu]
            simp only [hz3, placesOf_eq hpl]
            simpa using g1
          · cases hb
        · cases hb
      · rename_i n e zero hu hz
        obtain ⟨z, hz1, hz2⟩ := zero_ok (σ := σ) hz
        obtain ⟨it, hit, hz3⟩ := Option.bind_eq_some_iff.1 hz1
        split at hb
        · rename_i n hn
          unfold sizeIn at hn
          obtain ⟨ie, hie, rfl⟩ := Option.map_eq_some_iff.1 hn
          split at hb
          · rename_i cs hcs
            obtain rfl := Option.some.inj hb
            obtain ⟨l', g1, g2⟩ := fillA_ok hcs hq hz2
            refine ⟨l', ?_, cs, rfl, g2⟩
            unfold Program.built
            rw [hit, hu]
            simp only [hz3, hie]
            simpa using g1
          · cases hb
        · cases hb
      · cases hb
    obtain ⟨l', g1, cs, rfl, g2⟩ := key
    refine ⟨.agg l'.toArray, ?_, valR_agg g2⟩
    simp [execOp, ho, run_build w t _ _ g1]
  · cases h
def repv (l : List Value) : Nat → List Value
  | 0 => []
  | n + 1 => l ++ repv l n
theorem reps_ok {l : List AC} {vs : List Value} (h : cellsR σ l vs) : ∀ n, cellsR σ (reps l n) (repv vs n)
  | 0 => trivial
  | n + 1 => cellsR_append h (reps_ok h n)
theorem reps_length (l : List AC) : ∀ n, (reps l n).length = n * l.length
  | 0 => by simp [reps]
  | n + 1 => by rw [reps, List.length_append, reps_length l n, Nat.succ_mul, Nat.add_comm]
theorem repv_length (l : List Value) : ∀ n, (repv l n).length = n * l.length
  | 0 => by simp [repv]
  | n + 1 => by rw [repv, List.length_append, repv_length l n, Nat.succ_mul, Nat.add_comm]
theorem repv_get (l : List Value) (hl : 0 < l.length) : ∀ (n i : Nat), i < n * l.length → (repv l n)[i]? = l[i % l.length]?
  | 0, i, h => by simp at h
  | n + 1, i, h => by
    rw [repv]
    rw [Nat.succ_mul] at h
    by_cases hi : i < l.length
    · rw [List.getElem?_append_left hi, Nat.mod_eq_of_lt hi]
    · rw [List.getElem?_append_right (by omega), repv_get l hl n _ (by omega), Nat.mod_eq_sub_mod (a := i) (by omega)]
theorem made_rep (z : Array Value) (n c : Nat) (hz : z.size = n) (h0 : 0 < n) : (madeCells z (c * n)).toList = repv z.toList c := by
  apply List.ext_getElem?
  intro i
  by_cases hi : i < c * n
  · rw [repv_get z.toList (by simpa [hz] using h0) c i (by simpa [hz] using hi)]
    have hm : i % n < z.size := by rw [hz]; exact Nat.mod_lt _ h0
    simp [madeCells, hi, hz, hm, getElem!_pos z (i % n) hm]
  · rw [List.getElem?_eq_none (by simp [madeCells]; omega), List.getElem?_eq_none (by rw [repv_length]; simp [hz]; omega)]
theorem slR {b len n S cap z : Nat} (h : σ b = some (n, S)) (hl : len ≤ cap) (hz : cap * z = S) (hm : cap ≤ maxLen) : resR σ (one (.sl b 0 len (some z))) (.slice (some ⟨n, 0, none⟩) len cap) :=
  oneR ⟨n, S, cap, h, rfl, hl, fun z' e => by cases e; exact ⟨rfl, hz, hm⟩⟩
theorem ok_buildSlice (t : TypeId) (len : Nat) (ps : Array (Nat × Operand)) (ho : o.op = .buildSlice t len ps) (hw : WF s) (h : opBuildSlice P t len s (partsA fr ps.toList) = some (r, s')) : OpOK P base o fr s r s' := by
  unfold opBuildSlice at h
  split at h
  · rename_i l hl
    unfold evBuildSlice at h
    split at h
    · rename_i e hu
      split at h
      · rename_i n zero hn hz
        rw [Bool.cond_eq_ite] at h
        split at h
        · rename_i hc
          simp only [Bool.and_eq_true, Nat.beq_eq, Nat.ble_eq, Nat.blt_eq] at hc
          split at h
          · rename_i cs hcs
            simp only [Option.some.injEq, Prod.mk.injEq] at h
            obtain ⟨rfl, rfl⟩ := h
            refine .of (Mono.new hw _) fun M σ w a hp hM hf => ?_
            have hq := partsA_ok hf (fun p hp => by simp only [ho, Op.operands, List.mem_toArray]; exact List.mem_map.2 ⟨p, hp, rfl⟩) hl
            obtain ⟨z, hz1, hz2⟩ := zero_ok (σ := σ) hz
            have hzl := cellsR_length hz2
            simp only [Array.length_toList] at hzl
            have hzs : z.cells.size = n := by omega
            have hrep := reps_ok hz2 len
            rw [← made_rep z.cells n len hzs hc.1.1] at hrep
            obtain ⟨l', g1, g2⟩ := fillA_ok hcs hq hrep
            have hlen : cs.length = len * n := by
              have : ∀ {ps : List (Nat × AR)} {cs cs' : List AC}, fillA (fun i => some (i * n, n)) cs ps = some cs' → cs'.length = cs.length := by
                intro ps
                induction ps with
                | nil => intro cs cs' h; simp [fillA] at h; rw [h]
                | cons p ps ih =>
                  intro cs cs' h
                  obtain ⟨i, r⟩ := p
                  cases r with
                  | tup _ => simp [fillA] at h
                  | val v =>
                    simp only [fillA, Bool.cond_eq_ite] at h
                    split at h
                    · rename_i hc
                      simp only [Bool.and_eq_true, Nat.beq_eq, Nat.ble_eq] at hc
                      rw [ih h, putCells_length (by omega)]
                    · cases h
              rw [this hcs, reps_length, hc.1.2]
            have hl' := cellsR_length g2
            have hne : ¬ (len * n > 2 ^ 24) := by have := hc.2; omega
            have hun : upS σ s.next (w.heap.size, l'.toArray.size) s.next = some (w.heap.size, l'.toArray.size) := by unfold upS; rw [if_pos rfl]
            refine ⟨.slice (some ⟨w.heap.size, 0, none⟩) len len, _, w.alloc (.cells l'.toArray e), ?_, new_ok hw hp hM (alloc_heap w _) (by simp; omega) ?_ (below_alloc1 w _), slR (S := l'.toArray.size) hun (Nat.le_refl _) (by simp; omega) ?_⟩
            · have hfill : Instr.fill (fun i => some (i * n, n)) ((Array.range (len * n)).map (fun x => (if len * n = 0 then #[] else z.cells)[x % (if len * n = 0 then (#[] : Array Value) else z.cells).size]!)) (ps.map fun (i, x) => (i, a.eval x)).toList = some l'.toArray := by
                have e1 : ((Array.range (len * n)).map (fun x => (if len * n = 0 then #[] else z.cells)[x % (if len * n = 0 then (#[] : Array Value) else z.cells).size]!)) = (madeCells z.cells (len * n)).toList.toArray := by
                  by_cases h0 : len * n = 0
                  · simp [madeCells, h0]
                  · simp only [h0, if_false, madeCells, Array.toArray_toList]
                rw [e1]
                simpa using g1
              rcases Nat.eq_zero_or_pos len with hz0 | hz0
              · subst hz0
                have hfill0 : Instr.fill (fun i => some (i * n, n)) #[] (ps.map fun (i, x) => (i, a.eval x)).toList = some l'.toArray := by simpa [madeCells, Array.range_zero'] using g1
                have hb : (Instr.buildSlice t 0 (ps.map fun (i, x) => (i, a.eval x))).run P w = .ok (.slice (some ⟨w.heap.size, 0, none⟩) 0 0) (w.alloc (.cells l'.toArray e)) := by
                  simp only [Instr.buildSlice, Sem.run_bind, run_underlying hu, run_sizeIn hn, Result.andThen_ok, Nat.zero_mul, if_true, Sem.run_pure, Array.range_zero', Array.map_empty, hfill0]
                  simp [newRow]
                simp only [execOp, ho, Sem.run_bind, hb, Result.andThen_ok, Sem.run_pure]
              · have h0 : ¬ len * n = 0 := by have := Nat.mul_pos hz0 hc.1.1; omega
                simp only [h0, if_false] at hfill
                have hb : (Instr.buildSlice t len (ps.map fun (i, x) => (i, a.eval x))).run P w = .ok (.slice (some ⟨w.heap.size, 0, none⟩) len len) (w.alloc (.cells l'.toArray e)) := by
                  simp only [Instr.buildSlice, Sem.run_bind, run_underlying hu, run_sizeIn hn, Result.andThen_ok, if_neg hne, if_neg h0, run_zero hz1, Sem.run_pure, hfill]
                  simp [newRow]
                simp only [execOp, ho, Sem.run_bind, hb, Result.andThen_ok, Sem.run_pure]
            · rw [List.take_of_length_le (by simp; omega)]
              exact g2
            · have := hc.1.1
              have := hc.2
              have : len ≤ len * n := Nat.le_mul_of_pos_right len hc.1.1
              simp only [maxLen]
              omega
          · cases h
        · cases h
      · cases h
    · cases h
  · cases h
theorem ok_makeSlice (t : TypeId) (x y : Operand) (ho : o.op = .makeSlice t x y) (hw : WF s) (h : opMakeSlice P t s (fr.int x) (fr.int y) = some (r, s')) : OpOK P base o fr s r s' := by
  unfold opMakeSlice at h
  split at h
  · rename_i l c hl hcc
    unfold evMakeSlice at h
    split at h
    · rename_i e hu
      split at h
      · rename_i i zero hi hz
        rw [Bool.cond_eq_ite] at h
        split at h
        · rename_i hc
          simp only [Bool.and_eq_true, Nat.beq_eq, Nat.ble_eq, Nat.blt_eq, decide_eq_true_eq] at hc
          obtain ⟨⟨⟨⟨⟨c1, c2⟩, c3⟩, c4⟩, c5⟩, c6⟩ := hc
          simp only [Option.some.injEq, Prod.mk.injEq] at h
          obtain ⟨rfl, rfl⟩ := h
          refine .of (Mono.new hw _) fun M σ w a hp hM hf => ?_
          obtain ⟨z, hz1, hz2⟩ := zero_ok (σ := σ) hz
          obtain ⟨it, hit, hz3⟩ := Option.bind_eq_some_iff.1 hz1
          rw [hi] at hit
          obtain rfl := Option.some.inj hit
          have hzl := cellsR_length hz2
          simp only [Array.length_toList] at hzl
          have hzs : z.cells.size = i.size := by omega
          have hrep := reps_ok hz2 c.toNat
          rw [← made_rep z.cells i.size c.toNat hzs c1] at hrep
          have hrl := reps_length zero c.toNat
          obtain ⟨k1, hk1⟩ := hf.int (by simp [ho, Op.operands]) hl
          obtain ⟨k2, hk2⟩ := hf.int (by simp [ho, Op.operands]) hcc
          have hby : (i.bytes : Int) * c ≤ 281474976710656 := by
            have h1 : (i.bytes : Int) ≤ 1000000 := by omega
            have h2 : (i.bytes : Int) * c ≤ 1000000 * 1000000 := Int.mul_le_mul h1 c5 (by omega) (by omega)
            omega
          have hrun := run_make (P := P) w t e i z hu hi hz3 k1 k2 l c c3 c4 hby (by omega)
          have hun : upS σ s.next (w.heap.size, (madeCells z.cells (c.toNat * i.size)).size) s.next = some (w.heap.size, (madeCells z.cells (c.toNat * i.size)).size) := by unfold upS; rw [if_pos rfl]
          refine ⟨.slice (some ⟨w.heap.size, 0, none⟩) l.toNat c.toNat, _, w.alloc (.cells (madeCells z.cells (c.toNat * i.size)) e), ?_, new_ok hw hp hM (alloc_heap w _) (by rw [size_madeCells, hrl, c2]; exact Nat.le_refl _) ?_ (below_alloc1 w _), slR (cap := c.toNat) (S := (madeCells z.cells (c.toNat * i.size)).size) hun (by omega) (by rw [size_madeCells]) ?_⟩
          · simp only [execOp, ho, hk1, hk2, Sem.run_bind, hrun, Result.andThen_ok, Sem.run_pure]
          · rw [List.take_of_length_le (by rw [hrl, c2]; simp [size_madeCells])]
            exact hrep
          · simp only [maxLen]; omega
        · cases h
      · cases h
    · cases h
  · cases h
end
end Go.Proofs.YtgalkkolbobmbaaGreat.Abs
