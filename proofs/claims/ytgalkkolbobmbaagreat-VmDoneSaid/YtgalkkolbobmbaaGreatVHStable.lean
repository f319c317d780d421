/- The Go function verify.rows hands back the table of all Ops' fields. -/
import Derived.Test.YtgalkkolbobmbaaGreatVClone
import Derived.LoopN
import Derived.Laws.Tables
import Derived.Laws.Rows
import Derived.Outline
import Derived.Orders
import Derived.Laws.World

namespace Go.Proofs.YtgalkkolbobmbaaGreat.V
open Go.RowKit Go.Proofs.YtgalkkolbobmbaaGreatW.PrintWords Go.Proofs.YtgalkkolbobmbaaGreatW.PrintLast Go.Proofs.YtgalkkolbobmbaaGreatW.PrintMore

/-- The table's row of an Op: which of its fields D, A, B, C are registers. -/
noncomputable def rowOf (op : Nat) : List Value := [.bool (decide (1 ≤ op) && decide (op ≤ 18)), .bool (decide (6 ≤ op)), .bool (decide (9 ≤ op) && decide (op ≤ 18)), .bool (decide (op = 18))]
noncomputable def rowsVal : Array Value := ((List.range 23).flatMap rowOf).toArray
/-- The array behind k rounds. -/
noncomputable def rowsTo : Nat → Array Value
 | 0 => Tryz.zeroCells205
 | k + 1 => ((((rowsTo k).setIfInBounds (k * 4) (.bool (decide (1 ≤ k) && decide (k ≤ 18)))).setIfInBounds (k * 4 + 1) (.bool (decide (6 ≤ k)))).setIfInBounds (k * 4 + 2) (.bool (decide (9 ≤ k) && decide (k ≤ 18)))).setIfInBounds (k * 4 + 3) (.bool (decide (k = 18)))
theorem rowsTo_all : rowsTo 23 = rowsVal := by kernel_rfl
theorem below_setRow {B : Nat} {w W : World} (h : Below B w W) (g : Nat) (cs : Array Value) (hg : B ≤ g) : Below B w (W.setRow g cs) :=
 ⟨h.os, h.tape, h.output, by simpa [World.setRow] using h.size, fun i hi => by
  rw [← h.block i hi]
  simp [World.setRow, Array.getElem?_modify, show ¬ g = i by omega]⟩
theorem rowsTo_size (k : Nat) : (rowsTo k).size = 92 := by
 induction k with
 | zero => kernel_rfl
 | succ k ih => simp [rowsTo, ih]
theorem rowsTo_eq (k : Nat) {b1 b2 b3 b4 b5 : Bool} (h1 : decide (1 ≤ (k : Int)) = b1) (h2 : decide ((k : Int) ≤ 18) = b2) (h3 : decide (6 ≤ (k : Int)) = b3) (h4 : decide (9 ≤ (k : Int)) = b4) (h5 : ((k : Int) == 18) = b5) :
 rowsTo (k + 1) = ((((rowsTo k).setIfInBounds (k * 4) (.bool (b1 && b2))).setIfInBounds (k * 4 + 1) (.bool b3)).setIfInBounds (k * 4 + 2) (.bool (b4 && b2))).setIfInBounds (k * 4 + 3) (.bool b5) := by
 have e1 : decide (1 ≤ k) = b1 := by rw [← h1]; exact decide_eq_decide.2 (by omega)
 have e2 : decide (k ≤ 18) = b2 := by rw [← h2]; exact decide_eq_decide.2 (by omega)
 have e3 : decide (6 ≤ k) = b3 := by rw [← h3]; exact decide_eq_decide.2 (by omega)
 have e4 : decide (9 ≤ k) = b4 := by rw [← h4]; exact decide_eq_decide.2 (by omega)
 have e5 : decide (k = 18) = b5 := by
  rw [← h5]
  by_cases h : k = 18
  · subst h; rfl
  · rw [decide_eq_false h]; exact (beq_eq_false_iff_ne.2 (by omega)).symm
 rw [rowsTo, e1, e2, e3, e4, e5]
theorem rowsTo_get (k i : Nat) (h : i < 92) : ∃ v, (rowsTo k)[i]? = some v := by
 rw [Array.getElem?_eq_getElem (by rw [rowsTo_size]; exact h)]
 exact ⟨_, rfl⟩
set_option maxHeartbeats 2000000 in
set_option maxRecDepth 100000 in
theorem rows_any (w : World) :
 Calls Tryz.prog 128 #[] w fun e w' => e = .returned (.agg rowsVal) ∧ Below w.heap.size w w' := by
 go_enter Tryz.func128, Tryz.ntmps128
 go_wp2
 go_loopw [2, 3] (fun _ i wr => ∃ k : Nat, k ≤ 23 ∧ i = .int .i64 k ∧ Aside0 (wr = (w.alloc (Obj.cells Tryz.zeroCells205 205)).alloc (Obj.cells (rowsTo k) 205))) (fun _ i _ => 23 - (intOf i).toNat)
 case atStart => exact ⟨0, by omega, rfl, ⟨rfl⟩⟩
 case round =>
  obtain ⟨k, hk, rfl, HR⟩ := hrel
  by_cases hlt : k < 23
  · have HR := HR.out
    subst HR
    obtain ⟨v0, g0⟩ := rowsTo_get k (k * 4) (by omega)
    obtain ⟨v1, g1⟩ := rowsTo_get k (k * 4 + 1) (by omega)
    obtain ⟨v2, g2⟩ := rowsTo_get k (k * 4 + 2) (by omega)
    obtain ⟨v3, g3⟩ := rowsTo_get k (k * 4 + 3) (by omega)
    have hlt' : (k : Int) < 23 := by omega
    obtain ⟨b1, h1⟩ : ∃ b, decide (1 ≤ (k : Int)) = b := ⟨_, rfl⟩
    obtain ⟨b2, h2⟩ : ∃ b, decide ((k : Int) ≤ 18) = b := ⟨_, rfl⟩
    obtain ⟨b3, h3⟩ : ∃ b, decide (6 ≤ (k : Int)) = b := ⟨_, rfl⟩
    obtain ⟨b4, h4⟩ : ∃ b, decide (9 ≤ (k : Int)) = b := ⟨_, rfl⟩
    obtain ⟨b5, h5⟩ : ∃ b, ((k : Int) == 18) = b := ⟨_, rfl⟩
    have H1 := Aside0.mk h1
    have H2 := Aside0.mk h2
    have H3 := Aside0.mk h3
    have H4 := Aside0.mk h4
    have H5 := Aside0.mk h5
    cases b1 <;> cases b4
    all_goals
     have E := Aside0.mk (rowsTo_eq k H1.out H2.out H3.out H4.out H5.out)
     simp only [Bool.true_and, Bool.false_and] at E
     go_wp2
     go_roundw
     case rel => exact ⟨k + 1, by omega, by go_num, ⟨by rw [E.out]⟩⟩
     case measure => simp [intOf]; omega
  · obtain rfl : k = 23 := by omega
    have HR := HR.out
    subst HR
    rw [rowsTo_all]
    have hb1 : ((w.alloc (Obj.cells Tryz.zeroCells205 205)).alloc (Obj.cells rowsVal 205)).heap[w.heap.size + 1]? = some (.cells rowsVal 205 (0, 0)) := by
     have := heap_alloc_new (w.alloc (Obj.cells Tryz.zeroCells205 205)) (Obj.cells rowsVal 205)
     simpa using this
    have hb0 : ((w.alloc (Obj.cells Tryz.zeroCells205 205)).alloc (Obj.cells rowsVal 205)).heap[w.heap.size]? = some (.cells Tryz.zeroCells205 205 (0, 0)) := heap_alloc2_old w _ _
    obtain ⟨w2, hw2⟩ : ∃ w2, w2 = (w.alloc (Obj.cells Tryz.zeroCells205 205)).alloc (Obj.cells rowsVal 205) := ⟨_, rfl⟩
    have HB := Aside0.mk (show Below w.heap.size w w2 by rw [hw2]; exact ((Below.refl _ _).alloc (Nat.le_refl _) _).alloc (by simp) _)
    rw [← hw2] at hb0 hb1 ⊢
    have HB0 := Aside0.mk hb0
    have HB1 := Aside0.mk hb1
    clear hb0 hb1 hw2
    go_wp2_with (first | (refine wpList_load_row rfl 205 _ rfl (w.heap.size + 1) rfl 205 rowsVal (0, 0) _ HB1.out Tryz.underlying205 rfl (by kernel_rfl) ?_) | (refine wpList_store_row rfl 205 _ _ rfl w.heap.size rowsVal rfl rfl 205 _ HB0.out (by kernel_rfl) (by kernel_rfl) (by kernel_rfl) ?_))
    refine bodyPost_ret (results_cell_row rfl _ _ w.heap.size 205 rowsVal (0, 0) _ rfl (setRow_heap _ _ _ _ _ _ HB0.out) Tryz.underlying205 rfl (by kernel_rfl)) rfl ⟨rfl, below_setRow HB.out _ _ (Nat.le_refl _)⟩

def rIf (b : Bool) (n out : Int) : Int := if b = true ∧ out ≤ n then wrap64 (n + 1) else out
def isD (op : Int) : Bool := decide (1 ≤ op) && decide (op ≤ 18)
def isA (op : Int) : Bool := decide (6 ≤ op)
def isB (op : Int) : Bool := decide (9 ≤ op) && decide (op ≤ 18)
def isC (op : Int) : Bool := decide (op = 18)
def regStep (out : Int) (x : S49) : Int := if x.f0 < 1 ∨ x.f0 > 22 then out else rIf (isC x.f0) x.f4 (rIf (isB x.f0) x.f3 (rIf (isA x.f0) x.f2 (rIf (isD x.f0) x.f1 out)))
/-- The registers behind j of an instruction's four fields. -/
def regPart (n0 n1 n2 n3 : Int) (b0 b1 b2 b3 : Bool) (out : Int) : Nat → Int
 | 0 => out
 | 1 => rIf b0 n0 out
 | 2 => rIf b1 n1 (rIf b0 n0 out)
 | 3 => rIf b2 n2 (rIf b1 n1 (rIf b0 n0 out))
 | _ => rIf b3 n3 (rIf b2 n2 (rIf b1 n1 (rIf b0 n0 out)))
theorem regStep_eq (d a b c v out : Int) (o : Nat) (h1 : ¬ (o : Int) < 1) (h2 : ¬ (o : Int) > 22) : regStep out ⟨(o : Int), d, a, b, c, v⟩ = regPart d a b c (isD o) (isA o) (isB o) (isC o) out 4 := by
 unfold regStep
 rw [if_neg (by simp only; omega)]
 rfl
def verify_Registers.f (l0 : List S49) : Option Int := some (l0.foldl regStep 0)
theorem rows_flat (j : Nat) (hj : j < 4) : ∀ (l : List Nat) (i : Nat) (h : i < l.length), (l.flatMap rowOf)[i * 4 + j]? = (rowOf l[i])[j]?
 | a :: l, 0, h => by
  rw [List.flatMap_cons, List.getElem?_append_left (by simp [rowOf]; omega)]
  simp
 | a :: l, i + 1, h => by
  rw [List.flatMap_cons, List.getElem?_append_right (by simp [rowOf]; omega)]
  have : (i + 1) * 4 + j - (rowOf a).length = i * 4 + j := by simp [rowOf]; omega
  rw [this, rows_flat j hj l i (by simpa using h)]
  simp
theorem rows_cell (op j : Nat) (h : op < 23) (hj : j < 4) : rowsVal[op * 4 + j]? = (rowOf op)[j]? := by
 have := rows_flat j hj (List.range 23) op (by simpa using h)
 simpa [rowsVal] using this
theorem row_D (o : Nat) : (rowOf o)[0]? = some (.bool (isD o)) := by
 simp [rowOf, isD]; congr 1 <;> exact decide_eq_decide.2 (by omega)
theorem row_A (o : Nat) : (rowOf o)[1]? = some (.bool (isA o)) := by
 simp [rowOf, isA]; omega
theorem row_B (o : Nat) : (rowOf o)[2]? = some (.bool (isB o)) := by
 simp [rowOf, isB]; congr 1 <;> exact decide_eq_decide.2 (by omega)
theorem row_C (o : Nat) : (rowOf o)[3]? = some (.bool (isC o)) := by
 simp [rowOf, isC]; omega
theorem below_heap {w w' : World} (h : Below w.heap.size w w') {g : Nat} {cs : Array Value} {t : TypeId} {fr : Nat × Nat} (hg : w.heap[g]? = some (.cells cs t fr)) : w'.heap[g]? = some (.cells cs t fr) := by
 rw [h.block g ((Array.getElem?_eq_some_iff.1 hg).1)]; exact hg
theorem rIf_true {n out : Int} (h : out ≤ n) : rIf true n out = wrap64 (n + 1) := by unfold rIf; rw [if_pos ⟨rfl, h⟩]
theorem rIf_not {n out : Int} (h : ¬ out ≤ n) (b : Bool) : rIf b n out = out := by unfold rIf; rw [if_neg (fun z => h z.2)]
theorem rIf_false (n out : Int) : rIf false n out = out := by unfold rIf; rw [if_neg (by simp)]
theorem blk_fresh (W : World) (o : Obj) : (W.alloc o).heap[W.heap.size]? = some o := by
 show (W.heap.push o)[W.heap.size]? = some o
 simp
theorem blk_elder {W : World} {g : Nat} {x : Obj} (h : W.heap[g]? = some x) (o : Obj) : (W.alloc o).heap[g]? = some x := by
 show (W.heap.push o)[g]? = some x
 have := (Array.getElem?_eq_some_iff.1 h).1
 rw [Array.getElem?_push, if_neg (by omega)]; exact h
set_option maxHeartbeats 4000000 in
set_option maxRecDepth 100000 in
theorem verify_Registers.calls (A0 : Option Addr) (c0 : Nat) (l0 : List S49) (r : Int) (w : World) (hr0 : Kd.C k49 w A0 l0.length l0) (hc0 : l0.length ≤ c0) (h : verify_Registers.f l0 = some r) :
 Calls Tryz.prog 66 #[.slice A0 l0.length c0] w fun e w' => e = .returned (.int .i64 r) ∧ Below w.heap.size w w' := by
 have hf : l0.foldl regStep 0 = r := Option.some.inj h
 have HF := Aside0.mk hf
 have HR0 := Aside0.mk hr0
 have HC0 := Aside0.mk hc0
 have hm : l0.length ≤ 9223372036854775807 := hr0.2.1
 clear hf h hr0 hc0
 go_enter Tryz.func66, Tryz.ntmps66
 go_wp2_with fail
 refine (rows_any _).mono ?_
 rintro e w1 ⟨rfl, hb1⟩
 go_wp2_with (first | (refine wpList_store_row rfl 205 _ _ rfl w1.heap.size rowsVal rfl rfl 205 Tryz.zeroCells205 (by exact heap_alloc_new w1 _) (by kernel_rfl) (by kernel_rfl) (by kernel_rfl) ?_))
 obtain ⟨w2, hw2⟩ : ∃ w2, w2 = (w1.alloc (Obj.cells Tryz.zeroCells205 205)).setRow w1.heap.size rowsVal := ⟨_, rfl⟩
 have hsz : w.heap.size ≤ w1.heap.size := hb1.size
 have HB := Aside0.mk (show Below w.heap.size w w2 by rw [hw2]; exact below_setRow (hb1.alloc hsz _) _ _ hsz)
 have HA := Aside0.mk (show w2.heap[w1.heap.size]? = some (.cells rowsVal 205 (0, 0)) by rw [hw2]; exact setRow_heap _ _ _ _ _ _ (heap_alloc_new w1 _))
 rw [← hw2]
 clear hw2 hb1
 obtain ⟨ga, hga⟩ : ∃ ga, ga = w1.heap.size := ⟨_, rfl⟩
 rw [← hga]
 rw [← hga] at HA hsz
 clear hga
 have HS := Aside0.mk hsz
 clear hsz
 go_loopw [3, 14] (fun o i wr => ∃ (k out : Int), 0 ≤ k ∧ k ≤ l0.length ∧ i = .int .i64 k ∧ o = .int .i64 out ∧ Aside0 ((l0.drop k.toNat).foldl regStep out = r) ∧ Aside0 (wr.heap[ga]? = some (.cells rowsVal 205 (0, 0))) ∧ Aside0 (Below w.heap.size w wr)) (fun _ i _ => l0.length - (intOf i).toNat)
 case atStart => exact ⟨0, 0, by omega, by omega, rfl, rfl, HF, HA, HB⟩
 case round =>
  clear HA HB HF
  obtain ⟨k, out, hk0, hk, rfl, rfl, HD, HA, HB⟩ := hrel
  by_cases hlt : k < l0.length
  · obtain ⟨ad, e0, c0_0, c0_1, c0_2, c0_3, c0_4, c0_5⟩ := at_T49 (Kd.C_below HR0.out HB.out) k hk0 hlt
    cases e0
    have hD : (l0.drop k.toNat).foldl regStep out = (l0.drop (k.toNat + 1)).foldl regStep (regStep out (rd_T49 l0 k)) := by
     rw [List.drop_eq_getElem_cons (show k.toNat < l0.length by omega)]
     have : rd_T49 l0 k = l0[k.toNat]'(by omega) := by unfold rd_T49; simp [List.getD_eq_getElem?_getD, List.getElem?_eq_getElem (show k.toNat < l0.length by omega)]
     rw [this]; rfl
    have HD := Aside0.mk (hD.symm.trans HD.out)
    clear hD
    obtain ⟨x, hx⟩ : ∃ x, rd_T49 l0 k = x := ⟨_, rfl⟩
    rw [hx] at c0_0 c0_1 c0_2 c0_3 c0_4 c0_5 HD
    clear hx
    obtain ⟨op, d, a, b, c, v⟩ := x
    dsimp only at c0_0 c0_1 c0_2 c0_3 c0_4 c0_5
    by_cases hop1 : op < 1
    · have hR : regStep out ⟨op, d, a, b, c, v⟩ = out := by unfold regStep; rw [if_pos (.inl hop1)]
      have HR := Aside0.mk hR
      clear hR
      go_wp2
      go_roundw
      case rel => exact ⟨k + 1, out, by omega, by omega, by go_num, rfl, ⟨by rw [show (k + 1).toNat = k.toNat + 1 by omega]; rw [HR.out] at HD; exact HD.out⟩, ⟨blk_elder HA.out _⟩, ⟨HB.out.alloc HB.out.size _⟩⟩
      case measure => simp [intOf]; omega
    · by_cases hop2 : op > 22
      · have hR : regStep out ⟨op, d, a, b, c, v⟩ = out := by unfold regStep; rw [if_pos (.inr hop2)]
        have HR := Aside0.mk hR
        clear hR
        go_wp2
        go_roundw
        case rel => exact ⟨k + 1, out, by omega, by omega, by go_num, rfl, ⟨by rw [show (k + 1).toNat = k.toNat + 1 by omega]; rw [HR.out] at HD; exact HD.out⟩, ⟨blk_elder HA.out _⟩, ⟨HB.out.alloc HB.out.size _⟩⟩
        case measure => simp [intOf]; omega
      · obtain ⟨o, rfl⟩ := Int.eq_ofNat_of_zero_le (show 0 ≤ op by omega)
        obtain ⟨bd, hbd⟩ : ∃ bd, isD o = bd := ⟨_, rfl⟩
        obtain ⟨ba, hba⟩ : ∃ bd, isA o = bd := ⟨_, rfl⟩
        obtain ⟨bb, hbb⟩ : ∃ bd, isB o = bd := ⟨_, rfl⟩
        obtain ⟨bc, hbc⟩ : ∃ bd, isC o = bd := ⟨_, rfl⟩
        have q0 : wr.cell? ⟨ga, o * 4, none⟩ = some (.bool bd) := by
         rw [cell_of_row wr ga _ _ _ _ HA.out, ← hbd]
         exact (rows_cell o 0 (by omega) (by decide)).trans (row_D o)
        have q1 : wr.cell? ⟨ga, o * 4 + 1, none⟩ = some (.bool ba) := by
         rw [cell_of_row wr ga _ _ _ _ HA.out, ← hba]
         exact (rows_cell o 1 (by omega) (by decide)).trans (row_A o)
        have q2 : wr.cell? ⟨ga, o * 4 + 2, none⟩ = some (.bool bb) := by
         rw [cell_of_row wr ga _ _ _ _ HA.out, ← hbb]
         exact (rows_cell o 2 (by omega) (by decide)).trans (row_B o)
        have q3 : wr.cell? ⟨ga, o * 4 + 3, none⟩ = some (.bool bc) := by
         rw [cell_of_row wr ga _ _ _ _ HA.out, ← hbc]
         exact (rows_cell o 3 (by omega) (by decide)).trans (row_C o)
        have hga : ga < wr.heap.size := World.block_lt_of_cell? wr _ q0
        have HX := Aside0.mk (And.intro hbd (And.intro hba (And.intro hbb hbc)))
        clear hbd hba hbb hbc
        go_wp2
        obtain ⟨w3, hw3⟩ : ∃ w3, w3 = ((wr.alloc (Obj.cells #[.int .i64 (o : Int), .int .i64 d, .int .i64 a, .int .i64 b, .int .i64 c, .int .i64 v] 49)).alloc (Obj.cells #[.bool bd, .bool ba, .bool bb, .bool bc] 204)).alloc (Obj.cells #[.bool bd, .bool ba, .bool bb, .bool bc] 4) := ⟨_, rfl⟩
        have hB3 : Below wr.heap.size wr w3 := by rw [hw3]; exact (((Below.refl _ _).alloc (Nat.le_refl _) _).alloc (by simp) _).alloc (by simp; omega) _
        have HX3 := Aside0.mk (show w3.heap[wr.heap.size]? = some (.cells #[.int .i64 (o : Int), .int .i64 d, .int .i64 a, .int .i64 b, .int .i64 c, .int .i64 v] 49 (0, 0)) by
         rw [hw3]; exact blk_elder (blk_elder (blk_fresh wr _) _) _)
        have HS3 := Aside0.mk (show w3.heap[wr.heap.size + 1 + 1]? = some (.cells #[.bool bd, .bool ba, .bool bb, .bool bc] 4 (0, 0)) by
         rw [hw3]; have := blk_fresh ((wr.alloc (Obj.cells #[.int .i64 (o : Int), .int .i64 d, .int .i64 a, .int .i64 b, .int .i64 c, .int .i64 v] 49)).alloc (Obj.cells #[.bool bd, .bool ba, .bool bb, .bool bc] 204)) (Obj.cells #[.bool bd, .bool ba, .bool bb, .bool bc] 4); simpa using this)
        rw [← hw3]
        clear hw3 q0 q1 q2 q3
        have HA3 := Aside0.mk (below_heap hB3 HA.out)
        have HB3 := Aside0.mk (HB.out.trans (hB3.mono HB.out.size))
        clear hB3 HA HB
        obtain ⟨gx, hgx⟩ : ∃ gx, gx = wr.heap.size := ⟨_, rfl⟩
        rw [← hgx]
        rw [← hgx] at HX3 HS3
        clear hgx hga
        go_loopw [3, 8, 9, 10, 40] (fun o3 _ _ _ i3 wq => ∃ (j : Int) (out3 : Int), 0 ≤ j ∧ j ≤ 4 ∧ i3 = .int .i64 j ∧ o3 = .int .i64 out3 ∧ Aside0 (out3 = regPart d a b c bd ba bb bc out j.toNat) ∧ Aside0 (Below w3.heap.size w3 wq)) (fun _ _ _ _ i3 _ => 4 - (intOf i3).toNat)
        case atStart => exact ⟨0, out, by omega, by omega, rfl, rfl, ⟨rfl⟩, ⟨Below.refl _ _⟩⟩
        case round =>
         obtain ⟨j, out3, hj0, hj, rfl, rfl, HO, HB4⟩ := hrel
         have x1 : wr.cell? ⟨gx, 1, none⟩ = some (.int .i64 d) := cell_of_row wr gx 1 _ _ _ (below_heap HB4.out HX3.out)
         have x2 : wr.cell? ⟨gx, 2, none⟩ = some (.int .i64 a) := cell_of_row wr gx 2 _ _ _ (below_heap HB4.out HX3.out)
         have x3 : wr.cell? ⟨gx, 3, none⟩ = some (.int .i64 b) := cell_of_row wr gx 3 _ _ _ (below_heap HB4.out HX3.out)
         have x4 : wr.cell? ⟨gx, 4, none⟩ = some (.int .i64 c) := cell_of_row wr gx 4 _ _ _ (below_heap HB4.out HX3.out)
         have s0 : wr.cell? ⟨gx + 1 + 1, 0, none⟩ = some (.bool bd) := cell_of_row wr _ 0 _ _ _ (below_heap HB4.out HS3.out)
         have s1 : wr.cell? ⟨gx + 1 + 1, 1, none⟩ = some (.bool ba) := cell_of_row wr _ 1 _ _ _ (below_heap HB4.out HS3.out)
         have s2 : wr.cell? ⟨gx + 1 + 1, 2, none⟩ = some (.bool bb) := cell_of_row wr _ 2 _ _ _ (below_heap HB4.out HS3.out)
         have s3 : wr.cell? ⟨gx + 1 + 1, 3, none⟩ = some (.bool bc) := cell_of_row wr _ 3 _ _ _ (below_heap HB4.out HS3.out)
         rcases (by omega : j = 0 ∨ j = 1 ∨ j = 2 ∨ j = 3 ∨ j = 4) with rfl | rfl | rfl | rfl | rfl
         · cases bd with
           | false =>
            go_wp2
            go_roundw
            case rel => exact ⟨1, out3, by omega, by omega, by go_num, rfl, ⟨by rw [HO.out]; exact (rIf_false d (regPart d a b c false ba bb bc out 0)).symm⟩, ⟨HB4.out.alloc HB4.out.size _⟩⟩
            case measure => simp [intOf]
           | true =>
            by_cases hn : out3 ≤ d
            · go_wp2
              go_roundw
              case rel => exact ⟨1, wrap64 (d + 1), by omega, by omega, by go_num, rfl, ⟨by rw [HO.out] at hn; exact (rIf_true hn).symm⟩, ⟨HB4.out.alloc HB4.out.size _⟩⟩
              case measure => simp [intOf]
            · go_wp2
              go_roundw
              case rel => exact ⟨1, out3, by omega, by omega, by go_num, rfl, ⟨by rw [HO.out] at hn ⊢; exact (rIf_not hn true).symm⟩, ⟨HB4.out.alloc HB4.out.size _⟩⟩
              case measure => simp [intOf]
         · cases ba with
           | false =>
            go_wp2
            go_roundw
            case rel => exact ⟨2, out3, by omega, by omega, by go_num, rfl, ⟨by rw [HO.out]; exact (rIf_false a (regPart d a b c bd false bb bc out 1)).symm⟩, ⟨HB4.out.alloc HB4.out.size _⟩⟩
            case measure => simp [intOf]
           | true =>
            by_cases hn : out3 ≤ a
            · go_wp2
              go_roundw
              case rel => exact ⟨2, wrap64 (a + 1), by omega, by omega, by go_num, rfl, ⟨by rw [HO.out] at hn; exact (rIf_true hn).symm⟩, ⟨HB4.out.alloc HB4.out.size _⟩⟩
              case measure => simp [intOf]
            · go_wp2
              go_roundw
              case rel => exact ⟨2, out3, by omega, by omega, by go_num, rfl, ⟨by rw [HO.out] at hn ⊢; exact (rIf_not hn true).symm⟩, ⟨HB4.out.alloc HB4.out.size _⟩⟩
              case measure => simp [intOf]
         · cases bb with
           | false =>
            go_wp2
            go_roundw
            case rel => exact ⟨3, out3, by omega, by omega, by go_num, rfl, ⟨by rw [HO.out]; exact (rIf_false b (regPart d a b c bd ba false bc out 2)).symm⟩, ⟨HB4.out.alloc HB4.out.size _⟩⟩
            case measure => simp [intOf]
           | true =>
            by_cases hn : out3 ≤ b
            · go_wp2
              go_roundw
              case rel => exact ⟨3, wrap64 (b + 1), by omega, by omega, by go_num, rfl, ⟨by rw [HO.out] at hn; exact (rIf_true hn).symm⟩, ⟨HB4.out.alloc HB4.out.size _⟩⟩
              case measure => simp [intOf]
            · go_wp2
              go_roundw
              case rel => exact ⟨3, out3, by omega, by omega, by go_num, rfl, ⟨by rw [HO.out] at hn ⊢; exact (rIf_not hn true).symm⟩, ⟨HB4.out.alloc HB4.out.size _⟩⟩
              case measure => simp [intOf]
         · cases bc with
           | false =>
            go_wp2
            go_roundw
            case rel => exact ⟨4, out3, by omega, by omega, by go_num, rfl, ⟨by rw [HO.out]; exact (rIf_false c (regPart d a b c bd ba bb false out 3)).symm⟩, ⟨HB4.out.alloc HB4.out.size _⟩⟩
            case measure => simp [intOf]
           | true =>
            by_cases hn : out3 ≤ c
            · go_wp2
              go_roundw
              case rel => exact ⟨4, wrap64 (c + 1), by omega, by omega, by go_num, rfl, ⟨by rw [HO.out] at hn; exact (rIf_true hn).symm⟩, ⟨HB4.out.alloc HB4.out.size _⟩⟩
              case measure => simp [intOf]
            · go_wp2
              go_roundw
              case rel => exact ⟨4, out3, by omega, by omega, by go_num, rfl, ⟨by rw [HO.out] at hn ⊢; exact (rIf_not hn true).symm⟩, ⟨HB4.out.alloc HB4.out.size _⟩⟩
              case measure => simp [intOf]
         · have hE := regStep_eq d a b c v out o (by omega) (by omega)
           rw [HX.out.1, HX.out.2.1, HX.out.2.2.1, HX.out.2.2.2] at hE
           have HE := Aside0.mk hE
           clear hE
           go_wp2
           go_roundw
           case rel => exact ⟨k + 1, out3, by omega, by omega, by go_num, rfl, ⟨by rw [HO.out, show (k + 1).toNat = k.toNat + 1 by omega]; rw [HE.out] at HD; exact HD.out⟩, ⟨below_heap HB4.out HA3.out⟩, ⟨HB3.out.trans (HB4.out.mono HB3.out.size)⟩⟩
           case measure => simp [intOf]; omega
  · have hk' : k = l0.length := by omega
    have hD := HD.out
    rw [hk', Int.toNat_natCast, List.drop_length] at hD
    have HD := Aside0.mk (show out = r from hD)
    clear hD hk'
    go_wp2
    go_ret
    exact ⟨by rw [HD.out]; rfl, HB.out⟩

def belowB (n most : Int) : Bool := decide (0 ≤ n) && decide (n < most)
theorem below_any (n most : Int) (w : World) :
 Calls Tryz.prog 104 #[.int .i64 n, .int .i64 most] w fun e w' => e = .returned (.bool (belowB n most)) ∧ w' = w := by
 by_cases h1 : 0 ≤ n
 · by_cases h2 : n < most
   · have E := Aside0.mk (show belowB n most = true by simp [belowB, h1, h2])
     go_enter Tryz.func104, Tryz.ntmps104
     go_wp2
     go_ret
     exact ⟨by rw [E.out]; rfl, rfl⟩
   · have E := Aside0.mk (show belowB n most = false by simp [belowB, h2])
     go_enter Tryz.func104, Tryz.ntmps104
     go_wp2
     go_ret
     exact ⟨by rw [E.out]; rfl, rfl⟩
 · have E := Aside0.mk (show belowB n most = false by simp [belowB, h1])
   go_enter Tryz.func104, Tryz.ntmps104
   go_wp2
   go_ret
   exact ⟨by rw [E.out]; rfl, rfl⟩

/-- No type of what comes in or goes out. -/
def kindB (t : Int) : Bool := t != 1 && t != 2
theorem kind_any (t : Int) (w : World) :
 Calls Tryz.prog 102 #[.int .i64 t] w fun e w' => e = .returned (.bool (kindB t)) ∧ w' = w := by
 by_cases h1 : t = 1
 · subst h1
   go_enter Tryz.func102, Tryz.ntmps102
   go_wp2
   go_ret
   exact ⟨rfl, rfl⟩
 · go_enter Tryz.func102, Tryz.ntmps102
   go_wp2
   go_ret
   exact ⟨rfl, rfl⟩

/-- A field of an instruction. -/
def fieldB (n : Int) (reg : Bool) (many : Int) : Bool := if reg = true then belowB n 4000 else if 0 ≤ many then belowB n many else n == 0
theorem field_any (n : Int) (reg : Bool) (many : Int) (w : World) :
 Calls Tryz.prog 219 #[.int .i64 n, .bool reg, .int .i64 many] w fun e w' => e = .returned (.bool (fieldB n reg many)) ∧ w' = w := by
 cases reg with
 | true =>
  have E := Aside0.mk (show fieldB n true many = belowB n 4000 by simp [fieldB])
  go_enter Tryz.func219, Tryz.ntmps219
  go_wp2_with fail
  refine (below_any n 4000 _).mono ?_
  rintro e w' ⟨rfl, rfl⟩
  go_wp2
  go_ret
  exact ⟨by rw [E.out]; rfl, rfl⟩
 | false =>
  by_cases h : 0 ≤ many
  · have E := Aside0.mk (show fieldB n false many = belowB n many by simp [fieldB, h])
    go_enter Tryz.func219, Tryz.ntmps219
    go_wp2_with fail
    refine (below_any n many _).mono ?_
    rintro e w' ⟨rfl, rfl⟩
    go_wp2
    go_ret
    exact ⟨by rw [E.out]; rfl, rfl⟩
  · have E := Aside0.mk (show fieldB n false many = (n == 0) by simp [fieldB, h])
    go_enter Tryz.func219, Tryz.ntmps219
    go_wp2
    go_ret
    exact ⟨by rw [E.out]; rfl, rfl⟩

def hereB (piece op : Int) : Bool := if op = 5 ∨ op = 19 ∨ op = 21 ∨ op = 22 then piece == 2 else if op = 20 then piece != 2 else decide (1 ≤ op) && decide (op ≤ 22)
theorem here_any (piece op : Int) (w : World) :
 Calls Tryz.prog 217 #[.int .i64 piece, .int .i64 op] w fun e w' => e = .returned (.bool (hereB piece op)) ∧ w' = w := by
 by_cases h5 : op = 5
 · subst h5
   have E := Aside0.mk (show hereB piece 5 = (piece == 2) by simp [hereB])
   go_enter Tryz.func217, Tryz.ntmps217
   go_wp2
   go_ret
   exact ⟨by rw [E.out]; rfl, rfl⟩
 by_cases h19 : op = 19
 · subst h19
   have E := Aside0.mk (show hereB piece 19 = (piece == 2) by simp [hereB])
   go_enter Tryz.func217, Tryz.ntmps217
   go_wp2
   go_ret
   exact ⟨by rw [E.out]; rfl, rfl⟩
 by_cases h21 : op = 21
 · subst h21
   have E := Aside0.mk (show hereB piece 21 = (piece == 2) by simp [hereB])
   go_enter Tryz.func217, Tryz.ntmps217
   go_wp2
   go_ret
   exact ⟨by rw [E.out]; rfl, rfl⟩
 by_cases h22 : op = 22
 · subst h22
   have E := Aside0.mk (show hereB piece 22 = (piece == 2) by simp [hereB])
   go_enter Tryz.func217, Tryz.ntmps217
   go_wp2
   go_ret
   exact ⟨by rw [E.out]; rfl, rfl⟩
 by_cases h20 : op = 20
 · subst h20
   have E := Aside0.mk (show hereB piece 20 = (piece != 2) by simp [hereB])
   go_enter Tryz.func217, Tryz.ntmps217
   go_wp2
   go_ret
   exact ⟨by rw [E.out]; rfl, rfl⟩
 have E0 := Aside0.mk (show hereB piece op = (decide (1 ≤ op) && decide (op ≤ 22)) by simp [hereB, h5, h19, h20, h21, h22])
 by_cases h1 : 1 ≤ op
 · by_cases h2 : op ≤ 22
   · have E := Aside0.mk (show hereB piece op = true by rw [E0.out]; simp [h1, h2])
     clear E0
     go_enter Tryz.func217, Tryz.ntmps217
     go_wp2
     go_ret
     exact ⟨by rw [E.out]; rfl, rfl⟩
   · have E := Aside0.mk (show hereB piece op = false by rw [E0.out]; simp [h2])
     clear E0
     go_enter Tryz.func217, Tryz.ntmps217
     go_wp2
     go_ret
     exact ⟨by rw [E.out]; rfl, rfl⟩
 · have E := Aside0.mk (show hereB piece op = false by rw [E0.out]; simp [h1])
   clear E0
   go_enter Tryz.func217, Tryz.ntmps217
   go_wp2
   go_ret
   exact ⟨by rw [E.out]; rfl, rfl⟩

/-- pieces: an array of the four. -/
theorem pieces_any (a0 a1 a2 a3 a4 a5 : Value) (s6 s7 s8 s9 : Option Addr) (n6 c6 n7 c7 n8 c8 n9 c9 : Nat) (w : World) :
 Calls Tryz.prog 105 #[.agg #[a0, a1, a2, a3, a4, a5, .slice s6 n6 c6, .slice s7 n7 c7, .slice s8 n8 c8, .slice s9 n9 c9]] w fun e w' => e = .returned (.agg #[.slice s6 n6 c6, .slice s7 n7 c7, .slice s8 n8 c8, .slice s9 n9 c9]) ∧ Below w.heap.size w w' := by
 go_enter Tryz.func105, Tryz.ntmps105
 go_wp2
 have hb : ((w.alloc (Obj.cells #[a0, a1, a2, a3, a4, a5, .slice s6 n6 c6, .slice s7 n7 c7, .slice s8 n8 c8, .slice s9 n9 c9] 26)).alloc (Obj.cells #[.slice s6 n6 c6, .slice s7 n7 c7, .slice s8 n8 c8, .slice s9 n9 c9] 193)).heap[w.heap.size + 1]? = some (.cells #[.slice s6 n6 c6, .slice s7 n7 c7, .slice s8 n8 c8, .slice s9 n9 c9] 193 (0, 0)) := by
  have := blk_fresh (w.alloc (Obj.cells #[a0, a1, a2, a3, a4, a5, .slice s6 n6 c6, .slice s7 n7 c7, .slice s8 n8 c8, .slice s9 n9 c9] 26)) (Obj.cells #[.slice s6 n6 c6, .slice s7 n7 c7, .slice s8 n8 c8, .slice s9 n9 c9] 193)
  simpa using this
 refine bodyPost_ret (results_cell_row rfl _ _ (w.heap.size + 1) 193 #[.slice s6 n6 c6, .slice s7 n7 c7, .slice s8 n8 c8, .slice s9 n9 c9] (0, 0) _ rfl hb Tryz.underlying193 rfl (by kernel_rfl)) rfl ⟨rfl, ((Below.refl _ _).alloc (Nat.le_refl _) _).alloc (by simp) _⟩
end Go.Proofs.YtgalkkolbobmbaaGreat.V


namespace Go.Proofs.YtgalkkolbobmbaaGreat.V
set_option linter.unusedSimpArgs false
open Go.RowKit Go.Proofs.YtgalkkolbobmbaaGreatW.PrintWords Go.Proofs.YtgalkkolbobmbaaGreatW.PrintLast Go.Proofs.YtgalkkolbobmbaaGreatW.PrintMore

def placeD (nOut nState nMem : Nat) (cross piece op : Int) : Int := if op = 21 then nMem else if op = 22 then nState else if op = 20 then (if piece = 0 then nState else if piece = 1 then (if 0 < cross then cross else 0) else if piece = 3 then nOut else 0) else -1
def placeA (nIn nState nMem : Nat) (cross op : Int) : Int := if op = 2 then nIn else if op = 3 then nState else if op = 4 then nMem else if op = 5 then (if 0 < cross then cross else 0) else -1
def placeB (behind op : Int) : Int := if op = 19 then wrap64 (behind + 1) else -1
theorem blk4_third (w : World) (A B C D : Obj) : ((((w.alloc A).alloc B).alloc C).alloc D).heap[w.heap.size + 1 + 1]? = some C := by
 have h := blk_fresh ((w.alloc A).alloc B) C
 simp only [World.size_alloc] at h
 exact blk_elder h D
theorem below4 (w : World) (A B C D : Obj) : Below w.heap.size w ((((w.alloc A).alloc B).alloc C).alloc D) :=
 ((((Below.refl _ _).alloc (Nat.le_refl _) _).alloc (by simp) _).alloc (by simp; omega) _).alloc (by simp; omega) _
set_option maxHeartbeats 4000000 in
set_option maxRecDepth 20000 in
theorem places_any (s0 s1 s2 s3 : Option Addr) (n0 c0 n1 c1 n2 c2 n3 c3 : Nat) (cross a5 : Int) (a6 a7 a8 a9 : Value) (piece : Int) (op d a b c v : Int) (behind : Int) (w : World) (hp : op = 20 → piece = 0 ∨ piece = 1 ∨ piece = 3) :
 Calls Tryz.prog 218 #[.agg #[.slice s0 n0 c0, .slice s1 n1 c1, .slice s2 n2 c2, .slice s3 n3 c3, .int .i64 cross, .int .i64 a5, a6, a7, a8, a9], .int .i64 piece, .agg #[.int .i64 op, .int .i64 d, .int .i64 a, .int .i64 b, .int .i64 c, .int .i64 v], .int .i64 behind] w
  fun e w' => e = .returned (.agg #[.int .i64 (placeD n1 n2 n3 cross piece op), .int .i64 (placeA n0 n2 n3 cross op), .int .i64 (placeB behind op)]) ∧ Below w.heap.size w w' := by
 have hix0 : ∀ (x y z t : Value) (w : World), (Instr.index 305 (.agg #[x, y, z, t]) (.int .i64 0)).run Tryz.prog w = .ok x w := fun _ _ _ _ _ => by kernel_rfl
 have hix1 : ∀ (x y z t : Value) (w : World), (Instr.index 305 (.agg #[x, y, z, t]) (.int .i64 1)).run Tryz.prog w = .ok y w := fun _ _ _ _ _ => by kernel_rfl
 have hix3 : ∀ (x y z t : Value) (w : World), (Instr.index 305 (.agg #[x, y, z, t]) (.int .i64 3)).run Tryz.prog w = .ok t w := fun _ _ _ _ _ => by kernel_rfl
 by_cases h2 : op = 2
 · subst h2
   clear hp hix0 hix1 hix3
   have ED := Aside0.mk (show placeD n1 n2 n3 cross piece 2 = -1 by simp [placeD])
   have EA := Aside0.mk (show placeA n0 n2 n3 cross 2 = n0 by simp [placeA])
   have EB := Aside0.mk (show placeB behind 2 = -1 by simp [placeB])
   go_enter Tryz.func218, Tryz.ntmps218
   go_wp2
   refine bodyPost_ret (results_cell_row rfl _ _ (w.heap.size + 1 + 1) 300 #[.int .i64 (-1), .int .i64 (n0), .int .i64 (-1)] (0, 0) _ rfl (blk4_third _ _ _ _ _) Tryz.underlying300 rfl (by kernel_rfl)) rfl ?_
   exact ⟨by rw [ED.out, EA.out, EB.out], below4 _ _ _ _ _⟩
 by_cases h3 : op = 3
 · subst h3
   clear hp hix0 hix1 hix3
   have ED := Aside0.mk (show placeD n1 n2 n3 cross piece 3 = -1 by simp [placeD])
   have EA := Aside0.mk (show placeA n0 n2 n3 cross 3 = n2 by simp [placeA])
   have EB := Aside0.mk (show placeB behind 3 = -1 by simp [placeB])
   go_enter Tryz.func218, Tryz.ntmps218
   go_wp2
   refine bodyPost_ret (results_cell_row rfl _ _ (w.heap.size + 1 + 1) 300 #[.int .i64 (-1), .int .i64 (n2), .int .i64 (-1)] (0, 0) _ rfl (blk4_third _ _ _ _ _) Tryz.underlying300 rfl (by kernel_rfl)) rfl ?_
   exact ⟨by rw [ED.out, EA.out, EB.out], below4 _ _ _ _ _⟩
 by_cases h4 : op = 4
 · subst h4
   clear hp hix0 hix1 hix3
   have ED := Aside0.mk (show placeD n1 n2 n3 cross piece 4 = -1 by simp [placeD])
   have EA := Aside0.mk (show placeA n0 n2 n3 cross 4 = n3 by simp [placeA])
   have EB := Aside0.mk (show placeB behind 4 = -1 by simp [placeB])
   go_enter Tryz.func218, Tryz.ntmps218
   go_wp2
   refine bodyPost_ret (results_cell_row rfl _ _ (w.heap.size + 1 + 1) 300 #[.int .i64 (-1), .int .i64 (n3), .int .i64 (-1)] (0, 0) _ rfl (blk4_third _ _ _ _ _) Tryz.underlying300 rfl (by kernel_rfl)) rfl ?_
   exact ⟨by rw [ED.out, EA.out, EB.out], below4 _ _ _ _ _⟩
 by_cases h5 : op = 5
 · subst h5
   clear hp hix0 hix1 hix3
   by_cases hc : 0 < cross
   · have hc2 : ¬ cross ≤ 0 := by omega
     have ED := Aside0.mk (show placeD n1 n2 n3 cross piece 5 = -1 by simp [placeD, hc])
     have EA := Aside0.mk (show placeA n0 n2 n3 cross 5 = cross by simp [placeA, hc])
     have EB := Aside0.mk (show placeB behind 5 = -1 by simp [placeB])
     go_enter Tryz.func218, Tryz.ntmps218
     go_wp2
     refine bodyPost_ret (results_cell_row rfl _ _ (w.heap.size + 1 + 1) 300 #[.int .i64 (-1), .int .i64 (cross), .int .i64 (-1)] (0, 0) _ rfl (blk4_third _ _ _ _ _) Tryz.underlying300 rfl (by kernel_rfl)) rfl ?_
     exact ⟨by rw [ED.out, EA.out, EB.out], below4 _ _ _ _ _⟩
   · have hc2 : cross ≤ 0 := by omega
     have ED := Aside0.mk (show placeD n1 n2 n3 cross piece 5 = -1 by simp [placeD, hc])
     have EA := Aside0.mk (show placeA n0 n2 n3 cross 5 = 0 by simp [placeA, hc])
     have EB := Aside0.mk (show placeB behind 5 = -1 by simp [placeB])
     go_enter Tryz.func218, Tryz.ntmps218
     go_wp2
     refine bodyPost_ret (results_cell_row rfl _ _ (w.heap.size + 1 + 1) 300 #[.int .i64 (-1), .int .i64 (0), .int .i64 (-1)] (0, 0) _ rfl (blk4_third _ _ _ _ _) Tryz.underlying300 rfl (by kernel_rfl)) rfl ?_
     exact ⟨by rw [ED.out, EA.out, EB.out], below4 _ _ _ _ _⟩
 by_cases h21 : op = 21
 · subst h21
   clear hp hix0 hix1 hix3
   have ED := Aside0.mk (show placeD n1 n2 n3 cross piece 21 = n3 by simp [placeD])
   have EA := Aside0.mk (show placeA n0 n2 n3 cross 21 = -1 by simp [placeA])
   have EB := Aside0.mk (show placeB behind 21 = -1 by simp [placeB])
   go_enter Tryz.func218, Tryz.ntmps218
   go_wp2
   refine bodyPost_ret (results_cell_row rfl _ _ (w.heap.size + 1 + 1) 300 #[.int .i64 (n3), .int .i64 (-1), .int .i64 (-1)] (0, 0) _ rfl (blk4_third _ _ _ _ _) Tryz.underlying300 rfl (by kernel_rfl)) rfl ?_
   exact ⟨by rw [ED.out, EA.out, EB.out], below4 _ _ _ _ _⟩
 by_cases h22 : op = 22
 · subst h22
   clear hp hix0 hix1 hix3
   have ED := Aside0.mk (show placeD n1 n2 n3 cross piece 22 = n2 by simp [placeD])
   have EA := Aside0.mk (show placeA n0 n2 n3 cross 22 = -1 by simp [placeA])
   have EB := Aside0.mk (show placeB behind 22 = -1 by simp [placeB])
   go_enter Tryz.func218, Tryz.ntmps218
   go_wp2
   refine bodyPost_ret (results_cell_row rfl _ _ (w.heap.size + 1 + 1) 300 #[.int .i64 (n2), .int .i64 (-1), .int .i64 (-1)] (0, 0) _ rfl (blk4_third _ _ _ _ _) Tryz.underlying300 rfl (by kernel_rfl)) rfl ?_
   exact ⟨by rw [ED.out, EA.out, EB.out], below4 _ _ _ _ _⟩
 by_cases h19 : op = 19
 · subst h19
   clear hp hix0 hix1 hix3
   have ED := Aside0.mk (show placeD n1 n2 n3 cross piece 19 = -1 by simp [placeD])
   have EA := Aside0.mk (show placeA n0 n2 n3 cross 19 = -1 by simp [placeA])
   have EB := Aside0.mk (show placeB behind 19 = wrap64 (behind + 1) by simp [placeB])
   go_enter Tryz.func218, Tryz.ntmps218
   go_wp2
   refine bodyPost_ret (results_cell_row rfl _ _ (w.heap.size + 1 + 1) 300 #[.int .i64 (-1), .int .i64 (-1), .int .i64 (wrap64 (behind + 1))] (0, 0) _ rfl (blk4_third _ _ _ _ _) Tryz.underlying300 rfl (by kernel_rfl)) rfl ?_
   exact ⟨by rw [ED.out, EA.out, EB.out], below4 _ _ _ _ _⟩
 by_cases h20 : op = 20
 · subst h20
   by_cases hc : 0 < cross
   · have hc2 : ¬ cross ≤ 0 := by omega
     rcases hp rfl with rfl | rfl | rfl
     · clear hp
       have ED := Aside0.mk (show placeD n1 n2 n3 cross 0 20 = n2 by simp [placeD, hc])
       have EA := Aside0.mk (show placeA n0 n2 n3 cross 20 = -1 by simp [placeA, hc])
       have EB := Aside0.mk (show placeB behind 20 = -1 by simp [placeB])
       go_enter Tryz.func218, Tryz.ntmps218
       go_wp2
       refine bodyPost_ret (results_cell_row rfl _ _ (w.heap.size + 1 + 1) 300 #[.int .i64 (n2), .int .i64 (-1), .int .i64 (-1)] (0, 0) _ rfl (blk4_third _ _ _ _ _) Tryz.underlying300 rfl (by kernel_rfl)) rfl ?_
       exact ⟨by rw [ED.out, EA.out, EB.out], below4 _ _ _ _ _⟩
     · clear hp
       have ED := Aside0.mk (show placeD n1 n2 n3 cross 1 20 = cross by simp [placeD, hc])
       have EA := Aside0.mk (show placeA n0 n2 n3 cross 20 = -1 by simp [placeA, hc])
       have EB := Aside0.mk (show placeB behind 20 = -1 by simp [placeB])
       go_enter Tryz.func218, Tryz.ntmps218
       go_wp2
       refine bodyPost_ret (results_cell_row rfl _ _ (w.heap.size + 1 + 1) 300 #[.int .i64 (cross), .int .i64 (-1), .int .i64 (-1)] (0, 0) _ rfl (blk4_third _ _ _ _ _) Tryz.underlying300 rfl (by kernel_rfl)) rfl ?_
       exact ⟨by rw [ED.out, EA.out, EB.out], below4 _ _ _ _ _⟩
     · clear hp
       have ED := Aside0.mk (show placeD n1 n2 n3 cross 3 20 = n1 by simp [placeD, hc])
       have EA := Aside0.mk (show placeA n0 n2 n3 cross 20 = -1 by simp [placeA, hc])
       have EB := Aside0.mk (show placeB behind 20 = -1 by simp [placeB])
       go_enter Tryz.func218, Tryz.ntmps218
       go_wp2
       refine bodyPost_ret (results_cell_row rfl _ _ (w.heap.size + 1 + 1) 300 #[.int .i64 (n1), .int .i64 (-1), .int .i64 (-1)] (0, 0) _ rfl (blk4_third _ _ _ _ _) Tryz.underlying300 rfl (by kernel_rfl)) rfl ?_
       exact ⟨by rw [ED.out, EA.out, EB.out], below4 _ _ _ _ _⟩
   · have hc2 : cross ≤ 0 := by omega
     rcases hp rfl with rfl | rfl | rfl
     · clear hp
       have ED := Aside0.mk (show placeD n1 n2 n3 cross 0 20 = n2 by simp [placeD, hc])
       have EA := Aside0.mk (show placeA n0 n2 n3 cross 20 = -1 by simp [placeA, hc])
       have EB := Aside0.mk (show placeB behind 20 = -1 by simp [placeB])
       go_enter Tryz.func218, Tryz.ntmps218
       go_wp2
       refine bodyPost_ret (results_cell_row rfl _ _ (w.heap.size + 1 + 1) 300 #[.int .i64 (n2), .int .i64 (-1), .int .i64 (-1)] (0, 0) _ rfl (blk4_third _ _ _ _ _) Tryz.underlying300 rfl (by kernel_rfl)) rfl ?_
       exact ⟨by rw [ED.out, EA.out, EB.out], below4 _ _ _ _ _⟩
     · clear hp
       have ED := Aside0.mk (show placeD n1 n2 n3 cross 1 20 = 0 by simp [placeD, hc])
       have EA := Aside0.mk (show placeA n0 n2 n3 cross 20 = -1 by simp [placeA, hc])
       have EB := Aside0.mk (show placeB behind 20 = -1 by simp [placeB])
       go_enter Tryz.func218, Tryz.ntmps218
       go_wp2
       refine bodyPost_ret (results_cell_row rfl _ _ (w.heap.size + 1 + 1) 300 #[.int .i64 (0), .int .i64 (-1), .int .i64 (-1)] (0, 0) _ rfl (blk4_third _ _ _ _ _) Tryz.underlying300 rfl (by kernel_rfl)) rfl ?_
       exact ⟨by rw [ED.out, EA.out, EB.out], below4 _ _ _ _ _⟩
     · clear hp
       have ED := Aside0.mk (show placeD n1 n2 n3 cross 3 20 = n1 by simp [placeD, hc])
       have EA := Aside0.mk (show placeA n0 n2 n3 cross 20 = -1 by simp [placeA, hc])
       have EB := Aside0.mk (show placeB behind 20 = -1 by simp [placeB])
       go_enter Tryz.func218, Tryz.ntmps218
       go_wp2
       refine bodyPost_ret (results_cell_row rfl _ _ (w.heap.size + 1 + 1) 300 #[.int .i64 (n1), .int .i64 (-1), .int .i64 (-1)] (0, 0) _ rfl (blk4_third _ _ _ _ _) Tryz.underlying300 rfl (by kernel_rfl)) rfl ?_
       exact ⟨by rw [ED.out, EA.out, EB.out], below4 _ _ _ _ _⟩
 have ED := Aside0.mk (show placeD n1 n2 n3 cross piece op = -1 by simp [placeD, h20, h21, h22])
 have EA := Aside0.mk (show placeA n0 n2 n3 cross op = -1 by simp [placeA, h2, h3, h4, h5])
 have EB := Aside0.mk (show placeB behind op = -1 by simp [placeB, h19])
 clear hp hix0 hix1 hix3
 go_enter Tryz.func218, Tryz.ntmps218
 go_wp2
 refine bodyPost_ret (results_cell_row rfl _ _ (w.heap.size + 1 + 1) 300 #[.int .i64 (-1), .int .i64 (-1), .int .i64 (-1)] (0, 0) _ rfl (blk4_third _ _ _ _ _) Tryz.underlying300 rfl (by kernel_rfl)) rfl ?_
 exact ⟨by rw [ED.out, EA.out, EB.out], below4 _ _ _ _ _⟩
end Go.Proofs.YtgalkkolbobmbaaGreat.V


namespace Go.Proofs.YtgalkkolbobmbaaGreat.V
open Go

def upd (vs : Nat → Value) (i : Nat) (v : Value) : Nat → Value := fun j => if j = i then v else vs j
/-- Every edge points back. -/
def backB (ops : Array Oper) : Bool := (List.range ops.size).all fun j => match ops[j]? with | some o => o.after.all fun e => decide (e.on < j) | none => true
/-- Does an operation wait for another one? -/
def waits (ops : Array Oper) (j i : Nat) : Bool := match ops[j]? with | some o => o.after.any fun e => Region.binds .any e && e.on == i | none => false

theorem count_set_true : ∀ {l : List Bool} {i : Nat}, l[i]? = some false → (l.set i true).count false + 1 = l.count false
 | [], i, h => by simp at h
 | b :: l, 0, h => by
  obtain rfl : b = false := by simpa using h
  simp
 | b :: l, i + 1, h => by
  have := count_set_true (l := l) (i := i) (by simpa using h)
  cases b <;> simp [this] <;> omega

variable {P : Program} {ops : Array Oper} {Q : Exit → Act → World → Prop}
theorem all_listed (hb : backB ops = true) {listed : Array Bool} (hs : listed.size = ops.size) (hr : Region.ready .any ops listed = []) : ∀ j, j < ops.size → listed.getD j true = true := by
 intro j
 induction j using Nat.strongRecOn with
 | _ j ih =>
  intro hj
  cases hl : listed.getD j true with
  | true => rfl
  | false =>
   exfalso
   have : j ∈ Region.ready .any ops listed := mem_ready.2 ⟨hl, ops[j], Array.getElem?_eq_getElem hj, fun e he _ => by
    have h1 := List.all_eq_true.1 hb j (List.mem_range.2 hj)
    rw [Array.getElem?_eq_getElem hj] at h1
    have h2 := of_decide_eq_true (Array.all_eq_true_iff_forall_mem.1 h1 e he)
    have h3 := ih e.on h2 (by omega)
    simpa [Array.getD, hs, show e.on < ops.size by omega] using h3⟩
   rw [hr] at this
   cases this

theorem wpAny_stable (hb : backB ops = true) (V : (Nat → Value) → Act) (S : World → Prop) (A : Nat → (Nat → Value) → World → Prop)
 (step : ∀ i o, ops[i]? = some o → ∀ vs w, S w → (∀ j, waits ops i j = true → A j vs w) → wpOp P ops Q i (fun a' w' => ∃ v, a' = V (upd vs i v) ∧ S w' ∧ A i (upd vs i v) w' ∧ ∀ j, j < ops.size → j ≠ i → waits ops j i = false → A j vs w → A j (upd vs i v) w') (V vs) w)
 (fin : ∀ vs w, S w → (∀ j, j < ops.size → A j vs w) → Q .normal (V vs) w) :
 ∀ (fuel : Nat) (listed : Array Bool) (vs : Nat → Value) (w : World), listed.size = ops.size → listed.toList.count false = fuel → S w → (∀ j, listed.getD j false = true → A j vs w) → (∀ j, listed.getD j false = true → ∀ k, waits ops j k = true → listed.getD k false = true) → wpAny P .any ops Q fuel listed (V vs) w := by
 have done : ∀ (listed : Array Bool) (vs : Nat → Value) (w : World), listed.size = ops.size → S w → (∀ j, listed.getD j false = true → A j vs w) → Region.ready .any ops listed = [] → Q .normal (V vs) w := fun listed vs w hs hS hA hr =>
  fin vs w hS fun j hj => hA j (by
   have := all_listed hb hs hr j hj
   simpa [Array.getD, hs, hj] using this)
 intro fuel
 induction fuel with
 | zero =>
  intro listed vs w hs hc hS hA _
  have hr : Region.ready .any ops listed = [] := by
   rw [List.eq_nil_iff_forall_not_mem]
   intro j hj
   obtain ⟨hl, o, ho, _⟩ := mem_ready.1 hj
   have hlt : j < listed.size := by rw [hs]; exact (Array.getElem?_eq_some_iff.1 ho).1
   have : false ∈ listed.toList := by
    simp [Array.getD, hlt] at hl
    rw [← hl]
    simp
   rw [List.count_eq_zero] at hc
   exact hc this
  exact ⟨hr, done listed vs w hs hS hA hr⟩
 | succ fuel ih =>
  intro listed vs w hs hc hS hA hcl
  refine ⟨fun hr => done listed vs w hs hS hA hr, fun i hi => ?_⟩
  obtain ⟨hl, o, ho, hall⟩ := mem_ready.1 hi
  have hlt : i < listed.size := by rw [hs]; exact (Array.getElem?_eq_some_iff.1 ho).1
  have hl2 : listed.getD i false = false := by simpa [Array.getD, hlt] using hl
  have hdeps : ∀ j, waits ops i j = true → listed.getD j false = true := fun j hj => by
   unfold waits at hj
   rw [ho] at hj
   obtain ⟨k, hk, hz⟩ := Array.any_eq_true.1 hj
   simp only [Bool.and_eq_true, beq_iff_eq] at hz
   rw [← hz.2]
   exact hall _ (Array.getElem_mem hk) hz.1
  have hset : ∀ j, (listed.setIfInBounds i true).getD j false = if j = i then true else listed.getD j false := fun j => by
   by_cases hji : j = i
   · subst hji; simp [Array.getD, hlt]
   · simp only [hji, if_false]
     by_cases hj : j < listed.size
     · simp [Array.getD, hj, Ne.symm hji]
     · simp [Array.getD, hj]
  refine wpOp_mono (fun a' w' h => ?_) (step i o ho vs w hS (fun j hj => hA j (hdeps j hj)))
  obtain ⟨v, rfl, hS', hAi, hst⟩ := h
  refine ih _ _ _ (by simpa using hs) ?_ hS' ?_ ?_
  · have := count_set_true (l := listed.toList) (i := i) (by simp [Array.getD, hlt] at hl; simp [hlt, hl])
    rw [Array.toList_setIfInBounds]
    omega
  · intro j hj
    by_cases hji : j = i
    · subst hji; exact hAi
    · rw [hset, if_neg hji] at hj
      have hjs : j < ops.size := by
       rcases Nat.lt_or_ge j listed.size with h' | h'
       · omega
       · simp [Array.getD, Nat.not_lt.2 h'] at hj
      refine hst j hjs hji ?_ (hA j hj)
      cases hw : waits ops j i with
      | false => rfl
      | true => rw [hcl j hj i hw] at hl2; cases hl2
  · intro j hj k hk
    rw [hset] at hj ⊢
    by_cases hki : k = i
    · rw [if_pos hki]
    · rw [if_neg hki]
      by_cases hji : j = i
      · subst hji; exact hdeps k hk
      · rw [if_neg hji] at hj; exact hcl j hj k hk

/-- THE REGION: each operation once, whatever order is drawn. -/
theorem wp_region_stable {id : Nat} (hm : P.follows .mixedOrders = true) (hb : backB ops = true) (V : (Nat → Value) → Act) (S : World → Prop) (A : Nat → (Nat → Value) → World → Prop)
 (step : ∀ i o, ops[i]? = some o → ∀ vs w, S w → (∀ j, waits ops i j = true → A j vs w) → wpOp P ops Q i (fun a' w' => ∃ v, a' = V (upd vs i v) ∧ S w' ∧ A i (upd vs i v) w' ∧ ∀ j, j < ops.size → j ≠ i → waits ops j i = false → A j vs w → A j (upd vs i v) w') (V vs) w)
 (fin : ∀ vs w, S w → (∀ j, j < ops.size → A j vs w) → Q .normal (V vs) w) {a : Act} {w : World} (vs0 : Nat → Value) (ha : a = V vs0) (hS : S w.drew) : (Code.region id ops true).wp P Q a w := by
 subst ha
 refine wp_region_any hm ?_
 refine wpAny_stable hb V S A step fin ops.size _ vs0 _ (by simp) (by simp) hS (fun j hj => ?_) (fun j hj => ?_)
 all_goals
  exfalso
  rcases Nat.lt_or_ge j ops.size with h' | h'
  · simp [Array.getD, h'] at hj
  · simp [Array.getD, Nat.not_lt.2 h'] at hj
end Go.Proofs.YtgalkkolbobmbaaGreat.V
