/- The Go function verify.Registers is a fold over the instructions. -/
import Derived.Test.YtccolpkjgjjipaaHRows
namespace Go.Proofs.Ytccolpkjgjjipaa.Q
open Go.RowKit Go.Proofs.YtccolpkjgjjipaaW.PrintWords Go.Proofs.YtccolpkjgjjipaaW.PrintLast Go.Proofs.YtccolpkjgjjipaaW.PrintMore

def rIf (b : Bool) (n out : Int) : Int := if b = true ∧ out ≤ n then wrap64 (n + 1) else out
def isD (op : Int) : Bool := decide (1 ≤ op) && decide (op ≤ 18)
def isA (op : Int) : Bool := decide (6 ≤ op)
def isB (op : Int) : Bool := decide (9 ≤ op) && decide (op ≤ 18)
def isC (op : Int) : Bool := decide (op = 18)
def regStep (out : Int) (x : S47) : Int := if x.f0 < 1 ∨ x.f0 > 22 then out else rIf (isC x.f0) x.f4 (rIf (isB x.f0) x.f3 (rIf (isA x.f0) x.f2 (rIf (isD x.f0) x.f1 out)))
/-- The registers behind j of an instruction's four fields. -/
def regPart (n0 n1 n2 n3 : Int) (b0 b1 b2 b3 : Bool) (out : Int) : Nat → Int
  | 0 => out
  | 1 => rIf b0 n0 out
  | 2 => rIf b1 n1 (rIf b0 n0 out)
  | 3 => rIf b2 n2 (rIf b1 n1 (rIf b0 n0 out))
  | _ => rIf b3 n3 (rIf b2 n2 (rIf b1 n1 (rIf b0 n0 out)))
theorem regStep_eq (d a b c v out : Int) (o : Nat) (h1 : ¬ (o : Int) < 1) (h2 : ¬ (o : Int) > 22) : regStep out ⟨(o : Int), d, a, b, c, v⟩ = regPart d a b c (isD o) (isA o) (isB o) (isC o) out 4 := by
  unfold regStep
  rw [if_neg (by simp only; omega)]
  rfl
def verify_Registers.f (l0 : List S47) : Option Int := some (l0.foldl regStep 0)
theorem rows_flat (j : Nat) (hj : j < 4) : ∀ (l : List Nat) (i : Nat) (h : i < l.length), (l.flatMap rowOf)[i * 4 + j]? = (rowOf l[i])[j]?
  | a :: l, 0, h => by
    rw [List.flatMap_cons, List.getElem?_append_left (by simp [rowOf]; omega)]
    simp
  | a :: l, i + 1, h => by
    rw [List.flatMap_cons, List.getElem?_append_right (by simp [rowOf]; omega)]
    have : (i + 1) * 4 + j - (rowOf a).length = i * 4 + j := by simp [rowOf]; omega
    rw [this, rows_flat j hj l i (by simpa using h)]
    simp
theorem rows_cell (op j : Nat) (h : op < 23) (hj : j < 4) : rowsVal[op * 4 + j]? = (rowOf op)[j]? := by
  have := rows_flat j hj (List.range 23) op (by simpa using h)
  simpa [rowsVal] using this
theorem row_D (o : Nat) : (rowOf o)[0]? = some (.bool (isD o)) := by
  simp [rowOf, isD]; congr 1 <;> exact decide_eq_decide.2 (by omega)
theorem row_A (o : Nat) : (rowOf o)[1]? = some (.bool (isA o)) := by
  simp [rowOf, isA]; omega
theorem row_B (o : Nat) : (rowOf o)[2]? = some (.bool (isB o)) := by
  simp [rowOf, isB]; congr 1 <;> exact decide_eq_decide.2 (by omega)
theorem row_C (o : Nat) : (rowOf o)[3]? = some (.bool (isC o)) := by
  simp [rowOf, isC]; omega
theorem below_heap {w w' : World} (h : Below w.heap.size w w') {g : Nat} {cs : Array Value} {t : TypeId} {fr : Nat × Nat} (hg : w.heap[g]? = some (.cells cs t fr)) : w'.heap[g]? = some (.cells cs t fr) := by
  rw [h.block g ((Array.getElem?_eq_some_iff.1 hg).1)]; exact hg
theorem rIf_true {n out : Int} (h : out ≤ n) : rIf true n out = wrap64 (n + 1) := by unfold rIf; rw [if_pos ⟨rfl, h⟩]
theorem rIf_not {n out : Int} (h : ¬ out ≤ n) (b : Bool) : rIf b n out = out := by unfold rIf; rw [if_neg (fun z => h z.2)]
theorem rIf_false (n out : Int) : rIf false n out = out := by unfold rIf; rw [if_neg (by simp)]
theorem blk_fresh (W : World) (o : Obj) : (W.alloc o).heap[W.heap.size]? = some o := by
  show (W.heap.push o)[W.heap.size]? = some o
  simp
theorem blk_elder {W : World} {g : Nat} {x : Obj} (h : W.heap[g]? = some x) (o : Obj) : (W.alloc o).heap[g]? = some x := by
  show (W.heap.push o)[g]? = some x
  have := (Array.getElem?_eq_some_iff.1 h).1
  rw [Array.getElem?_push, if_neg (by omega)]; exact h
set_option maxHeartbeats 4000000 in
set_option maxRecDepth 100000 in
theorem verify_Registers.calls (A0 : Option Addr) (c0 : Nat) (l0 : List S47) (r : Int) (w : World) (hr0 : Kd.C k47 w A0 l0.length l0) (hc0 : l0.length ≤ c0) (h : verify_Registers.f l0 = some r) :
    Calls Try.prog 20 #[.slice A0 l0.length c0] w fun e w' => e = .returned (.int .i64 r) ∧ Below w.heap.size w w' := by
  have hf : l0.foldl regStep 0 = r := Option.some.inj h
  have HF := Aside0.mk hf
  have HR0 := Aside0.mk hr0
  have HC0 := Aside0.mk hc0
  have hm : l0.length ≤ 9223372036854775807 := hr0.2.1
  clear hf h hr0 hc0
  go_enter Try.func20, Try.ntmps20
  go_wp2_with fail
  refine (rows_any _).mono ?_
  rintro e w1 ⟨rfl, hb1⟩
  go_wp2_with (first | (refine wpList_store_row rfl 84 _ _ rfl w1.heap.size rowsVal rfl rfl 84 Try.zeroCells84 (by exact heap_alloc_new w1 _) (by kernel_rfl) (by kernel_rfl) (by kernel_rfl) ?_))
  obtain ⟨w2, hw2⟩ : ∃ w2, w2 = (w1.alloc (Obj.cells Try.zeroCells84 84)).setRow w1.heap.size rowsVal := ⟨_, rfl⟩
  have hsz : w.heap.size ≤ w1.heap.size := hb1.size
  have HB := Aside0.mk (show Below w.heap.size w w2 by rw [hw2]; exact below_setRow (hb1.alloc hsz _) _ _ hsz)
  have HA := Aside0.mk (show w2.heap[w1.heap.size]? = some (.cells rowsVal 84 (0, 0)) by rw [hw2]; exact setRow_heap _ _ _ _ _ _ (heap_alloc_new w1 _))
  rw [← hw2]
  clear hw2 hb1
  obtain ⟨ga, hga⟩ : ∃ ga, ga = w1.heap.size := ⟨_, rfl⟩
  rw [← hga]
  rw [← hga] at HA hsz
  clear hga
  have HS := Aside0.mk hsz
  clear hsz
  go_loopw [3, 14] (fun o i wr => ∃ (k out : Int), 0 ≤ k ∧ k ≤ l0.length ∧ i = .int .i64 k ∧ o = .int .i64 out ∧ Aside0 ((l0.drop k.toNat).foldl regStep out = r) ∧ Aside0 (wr.heap[ga]? = some (.cells rowsVal 84 (0, 0))) ∧ Aside0 (Below w.heap.size w wr)) (fun _ i _ => l0.length - (intOf i).toNat)
  case atStart => exact ⟨0, 0, by omega, by omega, rfl, rfl, HF, HA, HB⟩
  case round =>
    clear HA HB HF
    obtain ⟨k, out, hk0, hk, rfl, rfl, HD, HA, HB⟩ := hrel
    by_cases hlt : k < l0.length
    · obtain ⟨ad, e0, c0_0, c0_1, c0_2, c0_3, c0_4, c0_5⟩ := at_T47 (Kd.C_below HR0.out HB.out) k hk0 hlt
      cases e0
      have hD : (l0.drop k.toNat).foldl regStep out = (l0.drop (k.toNat + 1)).foldl regStep (regStep out (rd_T47 l0 k)) := by
        rw [List.drop_eq_getElem_cons (show k.toNat < l0.length by omega)]
        have : rd_T47 l0 k = l0[k.toNat]'(by omega) := by unfold rd_T47; simp [List.getD_eq_getElem?_getD, List.getElem?_eq_getElem (show k.toNat < l0.length by omega)]
        rw [this]; rfl
      have HD := Aside0.mk (hD.symm.trans HD.out)
      clear hD
      obtain ⟨x, hx⟩ : ∃ x, rd_T47 l0 k = x := ⟨_, rfl⟩
      rw [hx] at c0_0 c0_1 c0_2 c0_3 c0_4 c0_5 HD
      clear hx
      obtain ⟨op, d, a, b, c, v⟩ := x
      dsimp only at c0_0 c0_1 c0_2 c0_3 c0_4 c0_5
      by_cases hop1 : op < 1
      · have hR : regStep out ⟨op, d, a, b, c, v⟩ = out := by unfold regStep; rw [if_pos (.inl hop1)]
        have HR := Aside0.mk hR
        clear hR
        go_wp2
        go_roundw
        case rel => exact ⟨k + 1, out, by omega, by omega, by go_num, rfl, ⟨by rw [show (k + 1).toNat = k.toNat + 1 by omega]; rw [HR.out] at HD; exact HD.out⟩, ⟨blk_elder HA.out _⟩, ⟨HB.out.alloc HB.out.size _⟩⟩
        case measure => simp [intOf]; omega
      · by_cases hop2 : op > 22
        · have hR : regStep out ⟨op, d, a, b, c, v⟩ = out := by unfold regStep; rw [if_pos (.inr hop2)]
          have HR := Aside0.mk hR
          clear hR
          go_wp2
          go_roundw
          case rel => exact ⟨k + 1, out, by omega, by omega, by go_num, rfl, ⟨by rw [show (k + 1).toNat = k.toNat + 1 by omega]; rw [HR.out] at HD; exact HD.out⟩, ⟨blk_elder HA.out _⟩, ⟨HB.out.alloc HB.out.size _⟩⟩
          case measure => simp [intOf]; omega
        · obtain ⟨o, rfl⟩ := Int.eq_ofNat_of_zero_le (show 0 ≤ op by omega)
          obtain ⟨bd, hbd⟩ : ∃ bd, isD o = bd := ⟨_, rfl⟩
          obtain ⟨ba, hba⟩ : ∃ bd, isA o = bd := ⟨_, rfl⟩
          obtain ⟨bb, hbb⟩ : ∃ bd, isB o = bd := ⟨_, rfl⟩
          obtain ⟨bc, hbc⟩ : ∃ bd, isC o = bd := ⟨_, rfl⟩
          have q0 : wr.cell? ⟨ga, o * 4, none⟩ = some (.bool bd) := by
            rw [cell_of_row wr ga _ _ _ _ HA.out, ← hbd]
            exact (rows_cell o 0 (by omega) (by decide)).trans (row_D o)
          have q1 : wr.cell? ⟨ga, o * 4 + 1, none⟩ = some (.bool ba) := by
            rw [cell_of_row wr ga _ _ _ _ HA.out, ← hba]
            exact (rows_cell o 1 (by omega) (by decide)).trans (row_A o)
          have q2 : wr.cell? ⟨ga, o * 4 + 2, none⟩ = some (.bool bb) := by
            rw [cell_of_row wr ga _ _ _ _ HA.out, ← hbb]
            exact (rows_cell o 2 (by omega) (by decide)).trans (row_B o)
          have q3 : wr.cell? ⟨ga, o * 4 + 3, none⟩ = some (.bool bc) := by
            rw [cell_of_row wr ga _ _ _ _ HA.out, ← hbc]
            exact (rows_cell o 3 (by omega) (by decide)).trans (row_C o)
          have hga : ga < wr.heap.size := World.block_lt_of_cell? wr _ q0
          have HX := Aside0.mk (And.intro hbd (And.intro hba (And.intro hbb hbc)))
          clear hbd hba hbb hbc
          go_wp2
          obtain ⟨w3, hw3⟩ : ∃ w3, w3 = ((wr.alloc (Obj.cells #[.int .i64 (o : Int), .int .i64 d, .int .i64 a, .int .i64 b, .int .i64 c, .int .i64 v] 47)).alloc (Obj.cells #[.bool bd, .bool ba, .bool bb, .bool bc] 83)).alloc (Obj.cells #[.bool bd, .bool ba, .bool bb, .bool bc] 4) := ⟨_, rfl⟩
          have hB3 : Below wr.heap.size wr w3 := by rw [hw3]; exact (((Below.refl _ _).alloc (Nat.le_refl _) _).alloc (by simp) _).alloc (by simp; omega) _
          have HX3 := Aside0.mk (show w3.heap[wr.heap.size]? = some (.cells #[.int .i64 (o : Int), .int .i64 d, .int .i64 a, .int .i64 b, .int .i64 c, .int .i64 v] 47 (0, 0)) by
            rw [hw3]; exact blk_elder (blk_elder (blk_fresh wr _) _) _)
          have HS3 := Aside0.mk (show w3.heap[wr.heap.size + 1 + 1]? = some (.cells #[.bool bd, .bool ba, .bool bb, .bool bc] 4 (0, 0)) by
            rw [hw3]; have := blk_fresh ((wr.alloc (Obj.cells #[.int .i64 (o : Int), .int .i64 d, .int .i64 a, .int .i64 b, .int .i64 c, .int .i64 v] 47)).alloc (Obj.cells #[.bool bd, .bool ba, .bool bb, .bool bc] 83)) (Obj.cells #[.bool bd, .bool ba, .bool bb, .bool bc] 4); simpa using this)
          rw [← hw3]
          clear hw3 q0 q1 q2 q3
          have HA3 := Aside0.mk (below_heap hB3 HA.out)
          have HB3 := Aside0.mk (HB.out.trans (hB3.mono HB.out.size))
          clear hB3 HA HB
          obtain ⟨gx, hgx⟩ : ∃ gx, gx = wr.heap.size := ⟨_, rfl⟩
          rw [← hgx]
          rw [← hgx] at HX3 HS3
          clear hgx hga
          go_loopw [3, 8, 9, 10, 40] (fun o3 _ _ _ i3 wq => ∃ (j : Int) (out3 : Int), 0 ≤ j ∧ j ≤ 4 ∧ i3 = .int .i64 j ∧ o3 = .int .i64 out3 ∧ Aside0 (out3 = regPart d a b c bd ba bb bc out j.toNat) ∧ Aside0 (Below w3.heap.size w3 wq)) (fun _ _ _ _ i3 _ => 4 - (intOf i3).toNat)
          case atStart => exact ⟨0, out, by omega, by omega, rfl, rfl, ⟨rfl⟩, ⟨Below.refl _ _⟩⟩
          case round =>
            obtain ⟨j, out3, hj0, hj, rfl, rfl, HO, HB4⟩ := hrel
            have x1 : wr.cell? ⟨gx, 1, none⟩ = some (.int .i64 d) := cell_of_row wr gx 1 _ _ _ (below_heap HB4.out HX3.out)
            have x2 : wr.cell? ⟨gx, 2, none⟩ = some (.int .i64 a) := cell_of_row wr gx 2 _ _ _ (below_heap HB4.out HX3.out)
            have x3 : wr.cell? ⟨gx, 3, none⟩ = some (.int .i64 b) := cell_of_row wr gx 3 _ _ _ (below_heap HB4.out HX3.out)
            have x4 : wr.cell? ⟨gx, 4, none⟩ = some (.int .i64 c) := cell_of_row wr gx 4 _ _ _ (below_heap HB4.out HX3.out)
            have s0 : wr.cell? ⟨gx + 1 + 1, 0, none⟩ = some (.bool bd) := cell_of_row wr _ 0 _ _ _ (below_heap HB4.out HS3.out)
            have s1 : wr.cell? ⟨gx + 1 + 1, 1, none⟩ = some (.bool ba) := cell_of_row wr _ 1 _ _ _ (below_heap HB4.out HS3.out)
            have s2 : wr.cell? ⟨gx + 1 + 1, 2, none⟩ = some (.bool bb) := cell_of_row wr _ 2 _ _ _ (below_heap HB4.out HS3.out)
            have s3 : wr.cell? ⟨gx + 1 + 1, 3, none⟩ = some (.bool bc) := cell_of_row wr _ 3 _ _ _ (below_heap HB4.out HS3.out)
            rcases (by omega : j = 0 ∨ j = 1 ∨ j = 2 ∨ j = 3 ∨ j = 4) with rfl | rfl | rfl | rfl | rfl
            · cases bd with
              | false =>
                go_wp2
                go_roundw
                case rel => exact ⟨1, out3, by omega, by omega, by go_num, rfl, ⟨by rw [HO.out]; exact (rIf_false d (regPart d a b c false ba bb bc out 0)).symm⟩, ⟨HB4.out.alloc HB4.out.size _⟩⟩
                case measure => simp [intOf]
              | true =>
                by_cases hn : out3 ≤ d
                · go_wp2
                  go_roundw
                  case rel => exact ⟨1, wrap64 (d + 1), by omega, by omega, by go_num, rfl, ⟨by rw [HO.out] at hn; exact (rIf_true hn).symm⟩, ⟨HB4.out.alloc HB4.out.size _⟩⟩
                  case measure => simp [intOf]
                · go_wp2
                  go_roundw
                  case rel => exact ⟨1, out3, by omega, by omega, by go_num, rfl, ⟨by rw [HO.out] at hn ⊢; exact (rIf_not hn true).symm⟩, ⟨HB4.out.alloc HB4.out.size _⟩⟩
                  case measure => simp [intOf]
            · cases ba with
              | false =>
                go_wp2
                go_roundw
                case rel => exact ⟨2, out3, by omega, by omega, by go_num, rfl, ⟨by rw [HO.out]; exact (rIf_false a (regPart d a b c bd false bb bc out 1)).symm⟩, ⟨HB4.out.alloc HB4.out.size _⟩⟩
                case measure => simp [intOf]
              | true =>
                by_cases hn : out3 ≤ a
                · go_wp2
                  go_roundw
                  case rel => exact ⟨2, wrap64 (a + 1), by omega, by omega, by go_num, rfl, ⟨by rw [HO.out] at hn; exact (rIf_true hn).symm⟩, ⟨HB4.out.alloc HB4.out.size _⟩⟩
                  case measure => simp [intOf]
                · go_wp2
                  go_roundw
                  case rel => exact ⟨2, out3, by omega, by omega, by go_num, rfl, ⟨by rw [HO.out] at hn ⊢; exact (rIf_not hn true).symm⟩, ⟨HB4.out.alloc HB4.out.size _⟩⟩
                  case measure => simp [intOf]
            · cases bb with
              | false =>
                go_wp2
                go_roundw
                case rel => exact ⟨3, out3, by omega, by omega, by go_num, rfl, ⟨by rw [HO.out]; exact (rIf_false b (regPart d a b c bd ba false bc out 2)).symm⟩, ⟨HB4.out.alloc HB4.out.size _⟩⟩
                case measure => simp [intOf]
              | true =>
                by_cases hn : out3 ≤ b
                · go_wp2
                  go_roundw
                  case rel => exact ⟨3, wrap64 (b + 1), by omega, by omega, by go_num, rfl, ⟨by rw [HO.out] at hn; exact (rIf_true hn).symm⟩, ⟨HB4.out.alloc HB4.out.size _⟩⟩
                  case measure => simp [intOf]
                · go_wp2
                  go_roundw
                  case rel => exact ⟨3, out3, by omega, by omega, by go_num, rfl, ⟨by rw [HO.out] at hn ⊢; exact (rIf_not hn true).symm⟩, ⟨HB4.out.alloc HB4.out.size _⟩⟩
                  case measure => simp [intOf]
            · cases bc with
              | false =>
                go_wp2
                go_roundw
                case rel => exact ⟨4, out3, by omega, by omega, by go_num, rfl, ⟨by rw [HO.out]; exact (rIf_false c (regPart d a b c bd ba bb false out 3)).symm⟩, ⟨HB4.out.alloc HB4.out.size _⟩⟩
                case measure => simp [intOf]
              | true =>
                by_cases hn : out3 ≤ c
                · go_wp2
                  go_roundw
                  case rel => exact ⟨4, wrap64 (c + 1), by omega, by omega, by go_num, rfl, ⟨by rw [HO.out] at hn; exact (rIf_true hn).symm⟩, ⟨HB4.out.alloc HB4.out.size _⟩⟩
                  case measure => simp [intOf]
                · go_wp2
                  go_roundw
                  case rel => exact ⟨4, out3, by omega, by omega, by go_num, rfl, ⟨by rw [HO.out] at hn ⊢; exact (rIf_not hn true).symm⟩, ⟨HB4.out.alloc HB4.out.size _⟩⟩
                  case measure => simp [intOf]
            · have hE := regStep_eq d a b c v out o (by omega) (by omega)
              rw [HX.out.1, HX.out.2.1, HX.out.2.2.1, HX.out.2.2.2] at hE
              have HE := Aside0.mk hE
              clear hE
              go_wp2
              go_roundw
              case rel => exact ⟨k + 1, out3, by omega, by omega, by go_num, rfl, ⟨by rw [HO.out, show (k + 1).toNat = k.toNat + 1 by omega]; rw [HE.out] at HD; exact HD.out⟩, ⟨below_heap HB4.out HA3.out⟩, ⟨HB3.out.trans (HB4.out.mono HB3.out.size)⟩⟩
              case measure => simp [intOf]; omega
    · have hk' : k = l0.length := by omega
      have hD := HD.out
      rw [hk', Int.toNat_natCast, List.drop_length] at hD
      have HD := Aside0.mk (show out = r from hD)
      clear hD hk'
      go_wp2
      go_ret
      exact ⟨by rw [HD.out]; rfl, HB.out⟩
end Go.Proofs.Ytccolpkjgjjipaa.Q
