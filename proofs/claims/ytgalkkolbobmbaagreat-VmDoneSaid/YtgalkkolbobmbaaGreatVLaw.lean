/- heun.Euler and heun.Step: the walks. -/
import Derived.Test.YtgalkkolbobmbaaGreatVPiece
import Derived.Test.YtgalkkolbobmbaaGreatVClone
import Derived.Test.YtgalkkolbobmbaaGreatVMDiv2
import Derived.Test.YtgalkkolbobmbaaGreatVRR

namespace Go.Proofs.YtgalkkolbobmbaaGreat.V
open Go.RowKit Go.Proofs.YtgalkkolbobmbaaGreatW.PrintWords Go.Proofs.YtgalkkolbobmbaaGreatW.PrintLast Go.Proofs.YtgalkkolbobmbaaGreatW.PrintMore
set_option linter.unusedVariables false
set_option linter.unusedSimpArgs false
/-- A list of elder blocks than n. -/
structure Old (n : Nat) (w : World) (A : Option Addr) (l : List Int) : Prop where
 c : Kd.C (Kd.int .i64) w A l.length l
 lt : ∀ ad, A = some ad → 0 < l.length → ad.block < n
theorem Old.LI {n b : Nat} {w : World} {A : Option Addr} {l : List Int} (h : Old n w A l) (hb : n ≤ b) : LI b w A l := ⟨h.c, fun ad ha hp => by have := h.lt ad ha hp; omega⟩
theorem Old.below {n : Nat} {w w' : World} {A : Option Addr} {l : List Int} (h : Old n w A l) (hb : Below n w w') : Old n w' A l :=
 ⟨C_keep (S := fun k => n ≤ k) h.c (fun ad ha hp => by have := h.lt ad ha hp; omega) ⟨hb.os, hb.tape, hb.output, hb.size, fun k _ hn => hb.block k (by omega)⟩ (fun _ _ hk => hk), h.lt⟩
/-- A list of later blocks than b. -/
structure Nw (b : Nat) (w : World) (A : Option Addr) (l : List Int) : Prop where
 c : Kd.C (Kd.int .i64) w A l.length l
 ge : ∀ ad, A = some ad → 0 < l.length → b ≤ ad.block
theorem Nw.chg {b : Nat} {w w' : World} {A : Option Addr} {l : List Int} {T : Nat → Prop} (h : Nw b w A l) (hc : Chg T w w') (hT : ∀ k, T k → k < b) : Nw b w' A l :=
 ⟨C_keep h.c (fun ad ha hp ht => by have := h.ge ad ha hp; have := hT _ ht; omega) hc (fun _ _ hk => hk), h.ge⟩
theorem Nw.LI {b c : Nat} {w : World} {A : Option Addr} {l : List Int} (h : Nw b w A l) (hc : c < b) : LI c w A l := ⟨h.c, fun ad ha hp => by have := h.ge ad ha hp; omega⟩

/-- An object that is right, of numbers in the range of int64. -/
structure Good (o : S26) : Prop where
 right : rightO o.f0 o.f1 o.f2 o.f3 o.f4 o.f5 o.f6 o.f7 o.f8 o.f9 = true
 vals : ∀ j, j < 4 → ∀ x ∈ four o.f6 o.f7 o.f8 o.f9 j, In64 x.f5
theorem good_of {o : S26} (h : G26 o) (hr : rightO o.f0 o.f1 o.f2 o.f3 o.f4 o.f5 o.f6 o.f7 o.f8 o.f9 = true) : Good o := by
 obtain ⟨-, -, -, -, -, -, h6, h7, h8, h9⟩ := h
 refine ⟨hr, fun j hj x hx => ?_⟩
 have hG : G49 x := by
  rcases (by omega : j = 0 ∨ j = 1 ∨ j = 2 ∨ j = 3) with rfl | rfl | rfl | rfl
  · exact h6.2.2 x hx
  · exact h7.2.2 x hx
  · exact h8.2.2 x hx
  · exact h9.2.2 x hx
 exact in64_of hG.2.2.2.2.2
def nrO (o : S26) : Nat := (if regsTo (four o.f6 o.f7 o.f8 o.f9) 4 < 1 then 1 else regsTo (four o.f6 o.f7 o.f8 o.f9) 4).toNat
def rs0 (o : S26) (put ns nm : List Int) : RS := ⟨List.replicate (nrO o) 0, 0, put, ns, nm⟩
/-- What a piece of an object leaves, and how many instructions are done. -/
def pieceR (o : S26) (j : Nat) (inn st mem : List Int) (raised : List Bool) (put ns nm : List Int) : RS := ((runV opV inn st mem raised (four o.f6 o.f7 o.f8 o.f9 j) 4001 0 0 (rs0 o put ns nm)).map Prod.fst).getD ⟨[], 0, [], [], []⟩
def pieceN (o : S26) (j : Nat) (inn st mem : List Int) (raised : List Bool) (put ns nm : List Int) : Int := ((runV opV inn st mem raised (four o.f6 o.f7 o.f8 o.f9 j) 4001 0 0 (rs0 o put ns nm)).map Prod.snd).getD 0
theorem piece_run {o : S26} (G : Good o) (j : Nat) (hj : j < 4) {inn st mem : List Int} {raised : List Bool} (hf : inn.length = o.f0.length ∧ st.length = o.f2.length ∧ mem.length = o.f3.length) (hr : j = 2 → (raised.length : Int) = o.f4)
 (ai : AllIn inn) (ais : AllIn st) (am : AllIn mem) {put ns nm : List Int} (ap : AllIn put) (an : AllIn ns) (anm : AllIn nm)
 (hput : j ≠ 2 → (put.length : Int) = if j = 0 then (o.f2.length : Int) else if j = 1 then o.f4 else o.f1.length) (hns : j = 2 → ns.length = o.f2.length) (hnm : j = 2 → nm.length = o.f3.length) :
 RSOk (nrO o) put.length ns.length nm.length (pieceR o j inn st mem raised put ns nm) ∧ 0 ≤ pieceN o j inn st mem raised put ns nm ∧ pieceN o j inn st mem raised put ns nm ≤ (four o.f6 o.f7 o.f8 o.f9 j).length ∧
  (j ≠ 2 → pieceN o j inn st mem raised put ns nm = (four o.f6 o.f7 o.f8 o.f9 j).length) ∧
  ∀ dn : Int, 0 ≤ dn → dn ≤ 100000000000 → runV opV inn st mem raised (four o.f6 o.f7 o.f8 o.f9 j) 4001 0 dn (rs0 o put ns nm) = some (pieceR o j inn st mem raised put ns nm, dn + pieceN o j inn st mem raised put ns nm) := by
 obtain ⟨nr, e, h0, h1, hreg⟩ := regs_ready G.right
 have hb := right_bounds G.right
 have hL : (four o.f6 o.f7 o.f8 o.f9 j).length ≤ 4000 := by
  rcases (by omega : j = 0 ∨ j = 1 ∨ j = 2 ∨ j = 3) with rfl | rfl | rfl | rfl <;> simp only [four] <;> omega
 have hnr : nrO o = nr := by unfold nrO; omega
 obtain ⟨s', c, hs, hc1, hc2, hrun⟩ := run_some (O := opV) (fun op a b c h6 h18 ha hb hc => opV_ok h6 h18 ha hb hc) (p := (j : Int)) (by omega) hb.2.2.2.2.1 hL (fun m hm => right_at G.right j hj m hm)
  (fun m hm => by rw [rdT_mem hm]; exact G.vals j hj _ (List.getElem_mem hm)) hf.1 hf.2.1 hf.2.2 (raised := raised) (fun hp => hr (by omega)) ai ais am (nr := nr) (np := put.length) (ns := ns.length) (nm := nm.length) (fun m hm => hreg j hj m hm)
  (fun hp => by
   have := hput (by omega)
   rw [this]
   obtain rfl | rfl | rfl : j = 0 ∨ j = 1 ∨ j = 3 := by omega
   · simp
   · simp
   · simp) (fun hp => hns (by omega)) (fun hp => hnm (by omega)) (four o.f6 o.f7 o.f8 o.f9 j).length 0 (by omega) (by omega) (rs0 o put ns nm)
  ⟨by simp [rs0, hnr], AllIn.zeros _, rfl, ap, rfl, an, rfl, anm⟩
 have h00 := hrun 0 (by omega) (by omega) 4001 (by omega)
 have e1 : pieceR o j inn st mem raised put ns nm = s' := by
  unfold pieceR
  rw [show ((0 : Nat) : Int) = 0 from rfl] at h00
  rw [h00]
  rfl
 have e2 : pieceN o j inn st mem raised put ns nm = c := by
  unfold pieceN
  rw [show ((0 : Nat) : Int) = 0 from rfl] at h00
  rw [h00]
  simp
 rw [e1, e2, hnr]
 exact ⟨hs, by omega, by omega, fun hn => by have := hc2 (by omega); omega, fun dn hd0 hd1 => hrun dn hd0 (by omega) 4001 (by omega)⟩
/-- An object's machine. -/
def MachO (n Bm : Nat) (o : S26) (dn : Int) (w : World) : Prop := MachE n Bm o.f0 o.f1 o.f2 o.f3 o.f4 o.f5 o.f6 o.f7 o.f8 o.f9 dn w
theorem MachO.below {n Bm : Nat} {o : S26} {dn : Int} {w w' : World} (h : MachO n Bm o dn w) (hb : Below w.heap.size w w') : MachO n Bm o dn w' := by
 obtain ⟨cs, v0, v1, v2, v3, v6, v7, v8, v9, hM⟩ := h
 exact ⟨cs, v0, v1, v2, v3, v6, v7, v8, v9, hM.below hb⟩
theorem MachO.blk {n Bm : Nat} {o : S26} {dn : Int} {w : World} (h : MachO n Bm o dn w) : n ≤ Bm ∧ Bm < w.heap.size := by
 obtain ⟨cs, v0, v1, v2, v3, v6, v7, v8, v9, hM⟩ := h
 exact ⟨hM.lo, lt_of_block hM.blk⟩
def Fits (o : S26) (inn st mem : List Int) : Prop := inn.length = o.f0.length ∧ st.length = o.f2.length ∧ mem.length = o.f3.length
instance (o : S26) (inn st mem : List Int) : Decidable (Fits o inn st mem) := inferInstanceAs (Decidable (_ ∧ _ ∧ _))
def derivR (o : S26) (inn st mem : List Int) : RS := pieceR o 0 inn st mem [] (List.replicate o.f2.length 0) [] []
def zeroR (o : S26) (inn st mem : List Int) : RS := pieceR o 1 inn st mem [] (List.replicate o.f4.toNat 0) [] []
theorem derivR_run {o : S26} (G : Good o) {inn st mem : List Int} (hf : Fits o inn st mem) (ai : AllIn inn) (ais : AllIn st) (am : AllIn mem) :
 (derivR o inn st mem).put.length = o.f2.length ∧ AllIn (derivR o inn st mem).put ∧ ∀ dn : Int, 0 ≤ dn → dn ≤ 100000000000 → runV opV inn st mem [] o.f6 4001 0 dn (rs0 o (List.replicate o.f2.length 0) [] []) = some (derivR o inn st mem, dn + o.f6.length) := by
 obtain ⟨h1, -, -, h3, h4⟩ := piece_run G 0 (by omega) (raised := []) hf (by omega) ai ais am (AllIn.zeros o.f2.length) (ns := []) (nm := []) (fun _ hx => by cases hx) (fun _ hx => by cases hx) (by simp) (by simp) (by simp)
 refine ⟨h1.pl.trans (by simp), h1.pi, fun dn h0 hd => ?_⟩
 have := h4 dn h0 hd
 rw [h3 (by omega)] at this
 exact this
theorem zeroR_run {o : S26} (G : Good o) {inn st mem : List Int} (hf : Fits o inn st mem) (ai : AllIn inn) (ais : AllIn st) (am : AllIn mem) :
 (zeroR o inn st mem).put.length = o.f4.toNat ∧ AllIn (zeroR o inn st mem).put ∧ ∀ dn : Int, 0 ≤ dn → dn ≤ 100000000000 → runV opV inn st mem [] o.f7 4001 0 dn (rs0 o (List.replicate o.f4.toNat 0) [] []) = some (zeroR o inn st mem, dn + o.f7.length) := by
 have hb := right_bounds G.right
 obtain ⟨h1, -, -, h3, h4⟩ := piece_run G 1 (by omega) (raised := []) hf (by omega) ai ais am (AllIn.zeros o.f4.toNat) (ns := []) (nm := []) (fun _ hx => by cases hx) (fun _ hx => by cases hx) (by simp; omega) (by simp) (by simp)
 refine ⟨h1.pl.trans (by simp), h1.pi, fun dn h0 hd => ?_⟩
 have := h4 dn h0 hd
 rw [h3 (by omega)] at this
 exact this
theorem nr_ready {o : S26} (G : Good o) : (if regsTo (four o.f6 o.f7 o.f8 o.f9) 4 < 1 then 1 else regsTo (four o.f6 o.f7 o.f8 o.f9) 4) = (nrO o : Int) ∧ 0 < nrO o ∧ nrO o ≤ 4000 := by
 obtain ⟨nr, e, h0, h1, -⟩ := regs_ready G.right
 unfold nrO
 omega
/-- Deriv of a right object's machine. -/
theorem deriv_right {n Bm : Nat} {o : S26} {dn : Int} {w : World} (h : MachO n Bm o dn w) (G : Good o) (Ai As Am : Option Addr) (ci cs' cm : Nat) (inn st mem : List Int) (hi : LI Bm w Ai inn) (hs : LI Bm w As st) (hm : LI Bm w Am mem)
 (hf : Fits o inn st mem) (ai : AllIn inn) (ais : AllIn st) (am : AllIn mem) (hd0 : 0 ≤ dn) (hd1 : dn ≤ 100000000000) :
 Calls Tryz.prog 27 #[.pointer (some ⟨Bm, 0, none⟩), .slice Ai inn.length ci, .slice As st.length cs', .slice Am mem.length cm] w fun e w' => ∃ v, e = .returned (.tuple #[v, .int .i64 (derivR o inn st mem).fl, .int .i64 0]) ∧
  Kd.R (Kd.int .i64) 2 w' w.heap.size (fun k => k ≠ Bm) v (derivR o inn st mem).put ∧ MachO n Bm o (dn + o.f6.length) w' ∧ Chg (fun k => k = Bm) w w' := by
 obtain ⟨cs, v0, v1, v2, v3, v6, v7, v8, v9, hM⟩ := h
 obtain ⟨e1, e2, e3⟩ := nr_ready G
 have hb := right_bounds G.right
 obtain ⟨-, -, hr⟩ := derivR_run G hf ai ais am
 refine (deriv_any hM opV (opsForV cs) 4001 (nrO o) Ai As Am ci cs' cm inn st mem hi hs hm hf e1 e2 e3 (by omega) _ _ (hr dn hd0 hd1)).mono ?_
 rintro e w' ⟨v, he, hR, hM', hc⟩
 exact ⟨v, he, hR, ⟨cs, v0, v1, v2, v3, v6, v7, v8, v9, hM'⟩, hc⟩
end Go.Proofs.YtgalkkolbobmbaaGreat.V

-- written by myprint.py (wip/tools) out of the translation
namespace Go.Proofs.YtgalkkolbobmbaaGreat.V
open Go.RowKit Go.Proofs.YtgalkkolbobmbaaGreatW.PrintWords Go.Proofs.YtgalkkolbobmbaaGreatW.PrintLast Go.Proofs.YtgalkkolbobmbaaGreatW.PrintMore
attribute [local go_sem] max2_int min2_int max_two min_two max_three min_three max_four min_four   -- for this text's walks alone
set_option linter.unusedVariables false
set_option linter.unusedSimpArgs false

-- NOT PRINTED: function 23 (vm_New)

-- NOT PRINTED: function 24 (vm_Machine_Done)

/-! ### astrolaberef14_Numbers: function 29 -/
def astrolaberef14_Numbers.l0 : Nat → List Int → List Int → Int → Option (Bool)
 | 0, _, _, _ => none
 | k + 1, x0, x1, x5 => if x5 < (x0.length : Int) then (if 0 ≤ x5 then (if x5 < (x1.length : Int) then (if (rd x0 x5) = (rd x1 x5) then (astrolaberef14_Numbers.l0 k x0 x1 (wrap64 (x5 + 1))) else (some false)) else (none)) else (none)) else (some true)
def astrolaberef14_Numbers.f (k : Nat) (l0 : List Int) (l1 : List Int) : Option (Bool) := if (l0.length : Int) = (l1.length : Int) then (astrolaberef14_Numbers.l0 k l0 l1 0) else (some false)
theorem astrolaberef14_Numbers.mono_l : ∀ k, (∀ y0 y1 y2, LeO (astrolaberef14_Numbers.l0 k y0 y1 y2) (astrolaberef14_Numbers.l0 (k + 1) y0 y1 y2))
 | 0 => fun _ _ _ r h => by simp [astrolaberef14_Numbers.l0] at h
 | k + 1 => by
  have ih0 := astrolaberef14_Numbers.mono_l k
  · intro y0 y1 y2
    unfold astrolaberef14_Numbers.l0
    repeat' first
    | (with_reducible exact ih0 _ _ _)
    | (with_reducible exact LeO.refl _)
    | (with_reducible exact LeO.none _)
    | (with_reducible refine LeO.ite ?_ ?_)
    | (with_reducible refine LeO.bind ?_ (fun _ => ?_))
    | exact ih0 _ _ _
    | exact LeO.none _
    | refine LeO.ite ?_ ?_
    | refine LeO.bind ?_ (fun _ => ?_)
theorem astrolaberef14_Numbers.mono : ∀ a0 a1 k, LeO (astrolaberef14_Numbers.f k a0 a1) (astrolaberef14_Numbers.f (k + 1) a0 a1) := by
 intro a0 a1 k
 have ih0 := astrolaberef14_Numbers.mono_l k
 unfold astrolaberef14_Numbers.f
 repeat' first
  | (with_reducible exact ih0 _ _ _)
  | (with_reducible exact LeO.refl _)
  | (with_reducible exact LeO.none _)
  | (with_reducible refine LeO.ite ?_ ?_)
  | (with_reducible refine LeO.bind ?_ (fun _ => ?_))
  | exact ih0 _ _ _
  | exact LeO.none _
  | refine LeO.ite ?_ ?_
  | refine LeO.bind ?_ (fun _ => ?_)
set_option maxHeartbeats 8000000 in
set_option maxRecDepth 100000 in
theorem astrolaberef14_Numbers.calls (k : Nat) (A0 : Option Addr) (c0 : Nat) (l0 : List Int) (A1 : Option Addr) (c1 : Nat) (l1 : List Int) (r : Bool) (w : World) (hr0 : Kd.C (Kd.int .i64) w A0 l0.length l0) (hc0 : l0.length ≤ c0) (hr1 : Kd.C (Kd.int .i64) w A1 l1.length l1) (hc1 : l1.length ≤ c1) (h : astrolaberef14_Numbers.f k l0 l1 = some r) :
 Calls Tryz.prog 29 #[.slice A0 l0.length c0, .slice A1 l1.length c1] w fun e w' => e = .returned (.bool r) ∧ Drawn0 w w' := by
 have HR0 := Aside0.mk hr0
 have HC0 := Aside0.mk hc0
 clear hr0 hc0
 have HR1 := Aside0.mk hr1
 have HC1 := Aside0.mk hc1
 clear hr1 hc1
 have H : (if (l0.length : Int) = (l1.length : Int) then (astrolaberef14_Numbers.l0 k l0 l1 0) else (some false)) = some r := h
 clear h
 by_cases c3 : (l0.length : Int) = (l1.length : Int)
 · rw [if_pos c3] at H
   have c3b0 : ((l0.length : Int) == (l1.length : Int)) = true := beq_iff_eq.mpr c3
   have c3b1 : ((l0.length : Int) != (l1.length : Int)) = false := bne_eq_false_iff_eq.mpr c3
   have c3b2 : (l0.length == l1.length) = true := by first | simpa using c3 | (simp at c3 ⊢; omega)
   clear c3
   have H' := Aside0.mk H
   clear H
   go_enter Tryz.func29, Tryz.ntmps29
   go_wp2
   repeat (go_quiet (fail); try go_wp2)
   go_loopg [5] k (fun kq v5 w' => ∃ (x5_1 : Int), v5 = .int .i64 x5_1 ∧ Aside0 (astrolaberef14_Numbers.l0 kq l0 l1 x5_1 = some r) ∧ Aside0 (kq ≤ k) ∧ Drawn0 w w')
   case atStart => exact ⟨(0), (by first | rfl | (simp; done) | (simp [*]; done)), H', ⟨Nat.le_refl _⟩, by repeat (first | exact Drawn0.refl _ | apply Drawn0.step)⟩
   case round =>
    clear H'
    try clear c1
    try clear c2
    try clear p2
    try clear c3
    try clear c3b0
    try clear c3b1
    try clear c3b2
    obtain ⟨x5_1, rfl, HA, HK1, ⟨m1, rfl⟩⟩ := hrel
    cases gk with
    | zero => exact absurd HA.out (by simp [astrolaberef14_Numbers.l0])
    | succ k1 =>
     have H := HA.out
     clear HA
     simp only [astrolaberef14_Numbers.l0] at H
     by_cases c4 : x5_1 < (l0.length : Int)
     · rw [if_pos c4] at H
       have c4b0 : decide (x5_1 < (l0.length : Int)) = true := decide_eq_true c4
       clear c4
       by_cases c5 : 0 ≤ x5_1
       · rw [if_pos c5] at H
         have c5b0 : decide (0 ≤ x5_1) = true := decide_eq_true c5
         clear c5
         by_cases c6 : x5_1 < (l1.length : Int)
         · rw [if_pos c6] at H
           have c6b0 : decide (x5_1 < (l1.length : Int)) = true := decide_eq_true c6
           clear c6
           by_cases c7 : (rd l0 x5_1) = (rd l1 x5_1)
           · rw [if_pos c7] at H
             have c7b0 : ((rd l0 x5_1) == (rd l1 x5_1)) = true := beq_iff_eq.mpr c7
             have c7b1 : ((rd l0 x5_1) != (rd l1 x5_1)) = false := bne_eq_false_iff_eq.mpr c7
             clear c7
             have H' := Aside0.mk H
             clear H
             have p160 : 0 ≤ (x5_1 : Int) := of_decide_eq_true (by first | (with_reducible assumption) | assumption)
             have q160 : x5_1 < (l0.length : Int) := of_decide_eq_true (by first | (with_reducible assumption) | assumption)
             obtain ⟨ad160, e160, hx160_0⟩ := Kd.at_int HR0.out x5_1 p160 q160
             cases e160
             replace p160 := eq_true p160
             replace q160 := eq_true q160
             have p161 : 0 ≤ (x5_1 : Int) := of_decide_eq_true (by first | (with_reducible assumption) | assumption)
             have q161 : x5_1 < (l1.length : Int) := of_decide_eq_true (by first | (with_reducible assumption) | assumption)
             obtain ⟨ad161, e161, hx161_0⟩ := Kd.at_int HR1.out x5_1 p161 q161
             cases e161
             replace p161 := eq_true p161
             replace q161 := eq_true q161
             go_wp2
             repeat (go_quiet (fail); try go_wp2)
             go_roundg k1
             case measure => have := HK1.out; omega
             case rel => exact ⟨(wrap64 (x5_1 + 1)), (by first | rfl | (simp; done) | (simp [*]; done)), H', ⟨by have := HK1.out; omega⟩, by repeat (first | exact Drawn0.refl _ | apply Drawn0.step)⟩
           · rw [if_neg c7] at H
             have c7b0 : ((rd l0 x5_1) == (rd l1 x5_1)) = false := beq_eq_false_iff_ne.mpr c7
             have c7b1 : ((rd l0 x5_1) != (rd l1 x5_1)) = true := bne_iff_ne.mpr c7
             obtain rfl := Option.some.inj H
             have p160 : 0 ≤ (x5_1 : Int) := of_decide_eq_true (by first | (with_reducible assumption) | assumption)
             have q160 : x5_1 < (l0.length : Int) := of_decide_eq_true (by first | (with_reducible assumption) | assumption)
             obtain ⟨ad160, e160, hx160_0⟩ := Kd.at_int HR0.out x5_1 p160 q160
             cases e160
             replace p160 := eq_true p160
             replace q160 := eq_true q160
             have p161 : 0 ≤ (x5_1 : Int) := of_decide_eq_true (by first | (with_reducible assumption) | assumption)
             have q161 : x5_1 < (l1.length : Int) := of_decide_eq_true (by first | (with_reducible assumption) | assumption)
             obtain ⟨ad161, e161, hx161_0⟩ := Kd.at_int HR1.out x5_1 p161 q161
             cases e161
             replace p161 := eq_true p161
             replace q161 := eq_true q161
             go_wp2
             repeat (go_quiet (fail); try go_wp2)
             go_ret
             exact ⟨by first | rfl | (simp; done) | (simp [*]; done), by repeat (first | exact Drawn0.refl _ | apply Drawn0.step)⟩
         · rw [if_neg c6] at H
           exact absurd H (by simp)
       · rw [if_neg c5] at H
         exact absurd H (by simp)
     · rw [if_neg c4] at H
       have c4b0 : decide (x5_1 < (l0.length : Int)) = false := decide_eq_false c4
       clear c4
       obtain rfl := Option.some.inj H
       go_wp2
       repeat (go_quiet (fail); try go_wp2)
       go_ret
       exact ⟨by first | rfl | (simp; done) | (simp [*]; done), by repeat (first | exact Drawn0.refl _ | apply Drawn0.step)⟩
 · rw [if_neg c3] at H
   have c3b0 : ((l0.length : Int) == (l1.length : Int)) = false := beq_eq_false_iff_ne.mpr c3
   have c3b1 : ((l0.length : Int) != (l1.length : Int)) = true := bne_iff_ne.mpr c3
   have c3b2 : (l0.length == l1.length) = false := by first | simpa using c3 | (simp at c3 ⊢; omega)
   obtain rfl := Option.some.inj H
   go_enter Tryz.func29, Tryz.ntmps29
   go_wp2
   repeat (go_quiet (fail); try go_wp2)
   go_ret
   exact ⟨by first | rfl | (simp; done) | (simp [*]; done), by repeat (first | exact Drawn0.refl _ | apply Drawn0.step)⟩


/-! ### astrolaberef16_Great: function 20 -/
def astrolaberef16_Great.f (l0_0 : List Int) (l0_1 : List Int) (l0_2 : List Int) (l0_3 : List Int) (a0_4 : Int) (a0_5 : Int) (l0_6 : List (S49)) (l0_7 : List (S49)) (l0_8 : List (S49)) (l0_9 : List (S49)) : Option (Bool) := if (wrap64 ((wrap64 ((wrap64 ((l0_0.length : Int) + (l0_1.length : Int))) + (l0_2.length : Int))) + (l0_3.length : Int))) > 400 then (some true) else (some (decide ((wrap64 ((wrap64 ((wrap64 ((l0_6.length : Int) + (l0_7.length : Int))) + (l0_8.length : Int))) + (l0_9.length : Int))) > 3000)))
set_option maxHeartbeats 8000000 in
set_option maxRecDepth 100000 in
theorem astrolaberef16_Great.calls (A0_0 : Option Addr) (c0_0 : Nat) (l0_0 : List Int) (A0_1 : Option Addr) (c0_1 : Nat) (l0_1 : List Int) (A0_2 : Option Addr) (c0_2 : Nat) (l0_2 : List Int) (A0_3 : Option Addr) (c0_3 : Nat) (l0_3 : List Int) (a0_4 : Int) (a0_5 : Int) (A0_6 : Option Addr) (c0_6 : Nat) (l0_6 : List (S49)) (A0_7 : Option Addr) (c0_7 : Nat) (l0_7 : List (S49)) (A0_8 : Option Addr) (c0_8 : Nat) (l0_8 : List (S49)) (A0_9 : Option Addr) (c0_9 : Nat) (l0_9 : List (S49)) (r : Bool) (w : World) (hr0_0 : Kd.C (Kd.int .i64) w A0_0 l0_0.length l0_0) (hc0_0 : l0_0.length ≤ c0_0) (hr0_1 : Kd.C (Kd.int .i64) w A0_1 l0_1.length l0_1) (hc0_1 : l0_1.length ≤ c0_1) (hr0_2 : Kd.C (Kd.int .i64) w A0_2 l0_2.length l0_2) (hc0_2 : l0_2.length ≤ c0_2) (hr0_3 : Kd.C (Kd.int .i64) w A0_3 l0_3.length l0_3) (hc0_3 : l0_3.length ≤ c0_3) (hr0_6 : Kd.C k49 w A0_6 l0_6.length l0_6) (hc0_6 : l0_6.length ≤ c0_6) (hr0_7 : Kd.C k49 w A0_7 l0_7.length l0_7) (hc0_7 : l0_7.length ≤ c0_7) (hr0_8 : Kd.C k49 w A0_8 l0_8.length l0_8) (hc0_8 : l0_8.length ≤ c0_8) (hr0_9 : Kd.C k49 w A0_9 l0_9.length l0_9) (hc0_9 : l0_9.length ≤ c0_9) (h : astrolaberef16_Great.f l0_0 l0_1 l0_2 l0_3 a0_4 a0_5 l0_6 l0_7 l0_8 l0_9 = some r) :
 Calls Tryz.prog 20 #[.agg #[.slice A0_0 l0_0.length c0_0, .slice A0_1 l0_1.length c0_1, .slice A0_2 l0_2.length c0_2, .slice A0_3 l0_3.length c0_3, .int .i64 a0_4, .int .i64 a0_5, .slice A0_6 l0_6.length c0_6, .slice A0_7 l0_7.length c0_7, .slice A0_8 l0_8.length c0_8, .slice A0_9 l0_9.length c0_9]] w fun e w' => e = .returned (.bool r) ∧ Below w.heap.size w w' := by
 have hu26 := Tryz.underlying26
 have HR0_0 := Aside0.mk hr0_0
 have HC0_0 := Aside0.mk hc0_0
 clear hr0_0 hc0_0
 have HR0_1 := Aside0.mk hr0_1
 have HC0_1 := Aside0.mk hc0_1
 clear hr0_1 hc0_1
 have HR0_2 := Aside0.mk hr0_2
 have HC0_2 := Aside0.mk hc0_2
 clear hr0_2 hc0_2
 have HR0_3 := Aside0.mk hr0_3
 have HC0_3 := Aside0.mk hc0_3
 clear hr0_3 hc0_3
 have HR0_6 := Aside0.mk hr0_6
 have HC0_6 := Aside0.mk hc0_6
 clear hr0_6 hc0_6
 have HR0_7 := Aside0.mk hr0_7
 have HC0_7 := Aside0.mk hc0_7
 clear hr0_7 hc0_7
 have HR0_8 := Aside0.mk hr0_8
 have HC0_8 := Aside0.mk hc0_8
 clear hr0_8 hc0_8
 have HR0_9 := Aside0.mk hr0_9
 have HC0_9 := Aside0.mk hc0_9
 clear hr0_9 hc0_9
 have HB := Aside0.mk (Below.refl w.heap.size w)
 have H : (if (wrap64 ((wrap64 ((wrap64 ((l0_0.length : Int) + (l0_1.length : Int))) + (l0_2.length : Int))) + (l0_3.length : Int))) > 400 then (some true) else (some (decide ((wrap64 ((wrap64 ((wrap64 ((l0_6.length : Int) + (l0_7.length : Int))) + (l0_8.length : Int))) + (l0_9.length : Int))) > 3000)))) = some r := h
 clear h
 by_cases c2 : (wrap64 ((wrap64 ((wrap64 ((l0_0.length : Int) + (l0_1.length : Int))) + (l0_2.length : Int))) + (l0_3.length : Int))) > 400
 · rw [if_pos c2] at H
   have c2b0 : decide (400 < (wrap64 ((wrap64 ((wrap64 ((l0_0.length : Int) + (l0_1.length : Int))) + (l0_2.length : Int))) + (l0_3.length : Int)))) = true := decide_eq_true c2
   clear c2
   obtain rfl := Option.some.inj H
   go_enter Tryz.func20, Tryz.ntmps20
   go_wp2_with (first | ((with_reducible refine gate_dst (N := 1) rfl ?_); (try (refine gate_guard (by rfl) ?_; dsimp only)); refine box_event ?hg (N := 1) ?hd (cs := #[.slice A0_0 l0_0.length c0_0, .slice A0_1 l0_1.length c0_1, .slice A0_2 l0_2.length c0_2, .slice A0_3 l0_3.length c0_3, .int .i64 a0_4, .int .i64 a0_5, .slice A0_6 l0_6.length c0_6, .slice A0_7 l0_7.length c0_7, .slice A0_8 l0_8.length c0_8, .slice A0_9 l0_9.length c0_9]) (t := 26) ?hr ?_; (case hd => rfl); (case hg => rfl); (case hr => first | (go_simp; done) | (go_simp; rfl)); intro gb162 hg w3 hbox hb; have n0_ := Aside0.mk (below_step (by repeat (first | (with_reducible first | exact HB.out | apply below_alloc | apply pw_below_drewN | apply below_drew1) | exact HB.out)) hb); have n1_ := Aside0.mk (hbox); have n2_ := Aside0.mk ((by rw [hg]; exact (below_size (by repeat (first | (with_reducible first | exact HB.out | apply below_alloc | apply pw_below_drewN | apply below_drew1) | exact HB.out))) : w.heap.size ≤ gb162)); have n3_ := Aside0.mk ((by rw [hg]; exact (below_size (by repeat (first | (with_reducible first | exact HB.out | apply below_alloc | apply pw_below_drewN | apply below_drew1) | exact HB.out))) : w.heap.size ≤ gb162)); clear HB; have HB := n0_; have BK162 := n1_; have GW162 := n2_; have GE162 := n3_; clear n0_ n1_ n2_ n3_; clear hb hbox hg; have hcz4_0 : w3.cell? ⟨gb162, 0, none⟩ = some (.slice A0_0 l0_0.length c0_0) := (blk_cell BK162.out 0).trans rfl; have hcz4_1 : w3.cell? ⟨gb162, 1, none⟩ = some (.slice A0_1 l0_1.length c0_1) := (blk_cell BK162.out 1).trans rfl; have hcz4_2 : w3.cell? ⟨gb162, 2, none⟩ = some (.slice A0_2 l0_2.length c0_2) := (blk_cell BK162.out 2).trans rfl; have hcz4_3 : w3.cell? ⟨gb162, 3, none⟩ = some (.slice A0_3 l0_3.length c0_3) := (blk_cell BK162.out 3).trans rfl; have hcz4_4 : w3.cell? ⟨gb162, 4, none⟩ = some (.int .i64 a0_4) := (blk_cell BK162.out 4).trans rfl; have hcz4_5 : w3.cell? ⟨gb162, 5, none⟩ = some (.int .i64 a0_5) := (blk_cell BK162.out 5).trans rfl; have hcz4_6 : w3.cell? ⟨gb162, 6, none⟩ = some (.slice A0_6 l0_6.length c0_6) := (blk_cell BK162.out 6).trans rfl; have hcz4_7 : w3.cell? ⟨gb162, 7, none⟩ = some (.slice A0_7 l0_7.length c0_7) := (blk_cell BK162.out 7).trans rfl; have hcz4_8 : w3.cell? ⟨gb162, 8, none⟩ = some (.slice A0_8 l0_8.length c0_8) := (blk_cell BK162.out 8).trans rfl; have hcz4_9 : w3.cell? ⟨gb162, 9, none⟩ = some (.slice A0_9 l0_9.length c0_9) := (blk_cell BK162.out 9).trans rfl))
   go_ret
   exact ⟨by first | rfl | (simp [errW_none, errW_some] <;> rfl) | (simp [*, errW_none, errW_some] <;> rfl), by repeat (first | (with_reducible first | exact HB.out | apply below_alloc | apply pw_below_drewN | apply below_drew1 | refine below_set ?_ GE162.out) | exact HB.out)⟩
 · rw [if_neg c2] at H
   have c2b0 : decide (400 < (wrap64 ((wrap64 ((wrap64 ((l0_0.length : Int) + (l0_1.length : Int))) + (l0_2.length : Int))) + (l0_3.length : Int)))) = false := decide_eq_false c2
   clear c2
   obtain rfl := Option.some.inj H
   go_enter Tryz.func20, Tryz.ntmps20
   go_wp2_with (first | ((with_reducible refine gate_dst (N := 1) rfl ?_); (try (refine gate_guard (by rfl) ?_; dsimp only)); refine box_event ?hg (N := 1) ?hd (cs := #[.slice A0_0 l0_0.length c0_0, .slice A0_1 l0_1.length c0_1, .slice A0_2 l0_2.length c0_2, .slice A0_3 l0_3.length c0_3, .int .i64 a0_4, .int .i64 a0_5, .slice A0_6 l0_6.length c0_6, .slice A0_7 l0_7.length c0_7, .slice A0_8 l0_8.length c0_8, .slice A0_9 l0_9.length c0_9]) (t := 26) ?hr ?_; (case hd => rfl); (case hg => rfl); (case hr => first | (go_simp; done) | (go_simp; rfl)); intro gb162 hg w5 hbox hb; have n0_ := Aside0.mk (below_step (by repeat (first | (with_reducible first | exact HB.out | apply below_alloc | apply pw_below_drewN | apply below_drew1) | exact HB.out)) hb); have n1_ := Aside0.mk (hbox); have n2_ := Aside0.mk ((by rw [hg]; exact (below_size (by repeat (first | (with_reducible first | exact HB.out | apply below_alloc | apply pw_below_drewN | apply below_drew1) | exact HB.out))) : w.heap.size ≤ gb162)); have n3_ := Aside0.mk ((by rw [hg]; exact (below_size (by repeat (first | (with_reducible first | exact HB.out | apply below_alloc | apply pw_below_drewN | apply below_drew1) | exact HB.out))) : w.heap.size ≤ gb162)); clear HB; have HB := n0_; have BK162 := n1_; have GW162 := n2_; have GE162 := n3_; clear n0_ n1_ n2_ n3_; clear hb hbox hg; have hcz6_0 : w5.cell? ⟨gb162, 0, none⟩ = some (.slice A0_0 l0_0.length c0_0) := (blk_cell BK162.out 0).trans rfl; have hcz6_1 : w5.cell? ⟨gb162, 1, none⟩ = some (.slice A0_1 l0_1.length c0_1) := (blk_cell BK162.out 1).trans rfl; have hcz6_2 : w5.cell? ⟨gb162, 2, none⟩ = some (.slice A0_2 l0_2.length c0_2) := (blk_cell BK162.out 2).trans rfl; have hcz6_3 : w5.cell? ⟨gb162, 3, none⟩ = some (.slice A0_3 l0_3.length c0_3) := (blk_cell BK162.out 3).trans rfl; have hcz6_4 : w5.cell? ⟨gb162, 4, none⟩ = some (.int .i64 a0_4) := (blk_cell BK162.out 4).trans rfl; have hcz6_5 : w5.cell? ⟨gb162, 5, none⟩ = some (.int .i64 a0_5) := (blk_cell BK162.out 5).trans rfl; have hcz6_6 : w5.cell? ⟨gb162, 6, none⟩ = some (.slice A0_6 l0_6.length c0_6) := (blk_cell BK162.out 6).trans rfl; have hcz6_7 : w5.cell? ⟨gb162, 7, none⟩ = some (.slice A0_7 l0_7.length c0_7) := (blk_cell BK162.out 7).trans rfl; have hcz6_8 : w5.cell? ⟨gb162, 8, none⟩ = some (.slice A0_8 l0_8.length c0_8) := (blk_cell BK162.out 8).trans rfl; have hcz6_9 : w5.cell? ⟨gb162, 9, none⟩ = some (.slice A0_9 l0_9.length c0_9) := (blk_cell BK162.out 9).trans rfl))
   go_ret
   exact ⟨by first | rfl | (simp [errW_none, errW_some] <;> rfl) | (simp [*, errW_none, errW_some] <;> rfl), by repeat (first | (with_reducible first | exact HB.out | apply below_alloc | apply pw_below_drewN | apply below_drew1 | refine below_set ?_ GE162.out) | exact HB.out)⟩

/-- A state of type 121 at block g of W; what its slices lead to came in by w0. -/
def IsS121 (w0 W : World) (g : Nat) (f0 : List Int) (f1 : List Int) (f2 : List Int) (f3 : List Bool) (f4 : List Int) (f5 : List Int) (f6 : List Int) : Prop := ∃ A0 c0, ∃ A1 c1, ∃ A2 c2, ∃ A3 c3, ∃ A4 c4, ∃ A5 c5, ∃ A6 c6, W.heap[g]? = some (.cells #[.slice A0 f0.length c0, .slice A1 f1.length c1, .slice A2 f2.length c2, .slice A3 f3.length c3, .slice A4 f4.length c4, .slice A5 f5.length c5, .slice A6 f6.length c6] 121 (0, 0)) ∧ w0.heap.size ≤ g ∧ Kd.C (Kd.int .i64) w0 A0 f0.length f0 ∧ Kd.C (Kd.int .i64) w0 A1 f1.length f1 ∧ Kd.C (Kd.int .i64) w0 A2 f2.length f2 ∧ Kd.C Kd.bool w0 A3 f3.length f3 ∧ Kd.C (Kd.int .i64) w0 A4 f4.length f4 ∧ Kd.C (Kd.int .i64) w0 A5 f5.length f5 ∧ Kd.C (Kd.int .i64) w0 A6 f6.length f6
theorem IsS121.grown {w0 W : World} {g : Nat} {f0 : List Int} {f1 : List Int} {f2 : List Int} {f3 : List Bool} {f4 : List Int} {f5 : List Int} {f6 : List Int} {W1 : World} {row : Option Nat} (h : IsS121 w0 W g f0 f1 f2 f3 f4 f5 f6) (hw : W.grownBy W1 row) (hne : some g ≠ row) : IsS121 w0 W1 g f0 f1 f2 f3 f4 f5 f6 := by
 obtain ⟨A0, c0, A1, c1, A2, c2, A3, c3, A4, c4, A5, c5, A6, c6, hb, hg, hr0, hr1, hr2, hr3, hr4, hr5, hr6⟩ := h
 exact ⟨A0, c0, A1, c1, A2, c2, A3, c3, A4, c4, A5, c5, A6, c6, blk_grown hb hw hne, hg, hr0, hr1, hr2, hr3, hr4, hr5, hr6⟩
theorem IsS121.fresh {w0 W : World} {g : Nat} {f0 : List Int} {f1 : List Int} {f2 : List Int} {f3 : List Bool} {f4 : List Int} {f5 : List Int} {f6 : List Int} (h : IsS121 w0 W g f0 f1 f2 f3 f4 f5 f6) : ∀ k, W.heap.size ≤ k → k ≠ g := by
 obtain ⟨A0, c0, A1, c1, A2, c2, A3, c3, A4, c4, A5, c5, A6, c6, hb, hg, hr0, hr1, hr2, hr3, hr4, hr5, hr6⟩ := h
 exact Kd.freshB hb
theorem IsS121.kept {w0 W : World} {g : Nat} {f0 : List Int} {f1 : List Int} {f2 : List Int} {f3 : List Bool} {f4 : List Int} {f5 : List Int} {f6 : List Int} {W1 : World} {S : Nat → Prop} (h : IsS121 w0 W g f0 f1 f2 f3 f4 f5 f6) (hk : Kept W W1 S) (hne : ¬ S g) : IsS121 w0 W1 g f0 f1 f2 f3 f4 f5 f6 := by
 obtain ⟨A0, c0, A1, c1, A2, c2, A3, c3, A4, c4, A5, c5, A6, c6, hb, hg, hr0, hr1, hr2, hr3, hr4, hr5, hr6⟩ := h
 exact ⟨A0, c0, A1, c1, A2, c2, A3, c3, A4, c4, A5, c5, A6, c6, blk_kept hb hk hne, hg, hr0, hr1, hr2, hr3, hr4, hr5, hr6⟩
theorem IsS121.below {w0 W : World} {g : Nat} {f0 : List Int} {f1 : List Int} {f2 : List Int} {f3 : List Bool} {f4 : List Int} {f5 : List Int} {f6 : List Int} {W1 : World} (h : IsS121 w0 W g f0 f1 f2 f3 f4 f5 f6) (hw : Below W.heap.size W W1) : IsS121 w0 W1 g f0 f1 f2 f3 f4 f5 f6 := h.grown (Go.Proofs.YtgalkkolbobmbaaGreatW.PrintWords.grown_of_below hw none) (by simp)
theorem IsS121.alloc {w0 W : World} {g : Nat} {f0 : List Int} {f1 : List Int} {f2 : List Int} {f3 : List Bool} {f4 : List Int} {f5 : List Int} {f6 : List Int} (h : IsS121 w0 W g f0 f1 f2 f3 f4 f5 f6) (o : Obj) : IsS121 w0 (W.alloc o) g f0 f1 f2 f3 f4 f5 f6 := h.below (below_alloc (Below.refl _ _) o)
theorem IsS121.drewN {w0 W : World} {g : Nat} {f0 : List Int} {f1 : List Int} {f2 : List Int} {f3 : List Bool} {f4 : List Int} {f5 : List Int} {f6 : List Int} (h : IsS121 w0 W g f0 f1 f2 f3 f4 f5 f6) (m : Nat) : IsS121 w0 (W.drewN m) g f0 f1 f2 f3 f4 f5 f6 := h
theorem IsS121.drew {w0 W : World} {g : Nat} {f0 : List Int} {f1 : List Int} {f2 : List Int} {f3 : List Bool} {f4 : List Int} {f5 : List Int} {f6 : List Int} (h : IsS121 w0 W g f0 f1 f2 f3 f4 f5 f6) : IsS121 w0 W.drew g f0 f1 f2 f3 f4 f5 f6 := h
theorem IsS121.at_ {w0 W : World} {g : Nat} {f0 : List Int} {f1 : List Int} {f2 : List Int} {f3 : List Bool} {f4 : List Int} {f5 : List Int} {f6 : List Int} {w' : World} {m : Nat} (hq : W.drewN m = w') (h : IsS121 w0 W g f0 f1 f2 f3 f4 f5 f6) : IsS121 w0 w' g f0 f1 f2 f3 f4 f5 f6 := by subst hq; exact IsS121.drewN h m
theorem IsS121.apart {w0 W : World} {g : Nat} {f0 : List Int} {f1 : List Int} {f2 : List Int} {f3 : List Bool} {f4 : List Int} {f5 : List Int} {f6 : List Int} {α : Type} {d : Kd α} {e : Nat} {base : Nat} {ok : Nat → Prop} {v : Value} {xs : List α} (h : IsS121 w0 W g f0 f1 f2 f3 f4 f5 f6) (ho : d.R e W base ok v xs) (ht : ∀ q, q ∈ e :: d.E → q ≠ 121) : d.R e W base (fun k => ok k ∧ k ≠ g) v xs := by
 obtain ⟨A0, c0, A1, c1, A2, c2, A3, c3, A4, c4, A5, c5, A6, c6, hb, hg, hr0, hr1, hr2, hr3, hr4, hr5, hr6⟩ := h
 exact Kd.R_types ho hb ht
theorem IsS121.own_ne {w0 W : World} {g : Nat} {f0 : List Int} {f1 : List Int} {f2 : List Int} {f3 : List Bool} {f4 : List Int} {f5 : List Int} {f6 : List Int} {α : Type} {d : Kd α} {e : Nat} {base : Nat} {ok : Nat → Prop} {v : Value} {xs : List α} (h : IsS121 w0 W g f0 f1 f2 f3 f4 f5 f6) (ho : d.R e W base ok v xs) (ht : e ≠ 121) : some g ≠ v.ownBlock := by
 obtain ⟨A0, c0, A1, c1, A2, c2, A3, c3, A4, c4, A5, c5, A6, c6, hb, hg, hr0, hr1, hr2, hr3, hr4, hr5, hr6⟩ := h
 exact Kd.R_ne ho hb ht
theorem IsS121.lt {w0 W : World} {g : Nat} {f0 : List Int} {f1 : List Int} {f2 : List Int} {f3 : List Bool} {f4 : List Int} {f5 : List Int} {f6 : List Int} (h : IsS121 w0 W g f0 f1 f2 f3 f4 f5 f6) : g < W.heap.size := by
 obtain ⟨A0, c0, A1, c1, A2, c2, A3, c3, A4, c4, A5, c5, A6, c6, hb, hg, hr0, hr1, hr2, hr3, hr4, hr5, hr6⟩ := h
 exact blk_lt hb
theorem IsS121.ge {w0 W : World} {g : Nat} {f0 : List Int} {f1 : List Int} {f2 : List Int} {f3 : List Bool} {f4 : List Int} {f5 : List Int} {f6 : List Int} (h : IsS121 w0 W g f0 f1 f2 f3 f4 f5 f6) : w0.heap.size ≤ g := by
 obtain ⟨A0, c0, A1, c1, A2, c2, A3, c3, A4, c4, A5, c5, A6, c6, hb, hg, hr0, hr1, hr2, hr3, hr4, hr5, hr6⟩ := h
 exact hg
theorem IsS121.far {w0 W : World} {g : Nat} {f0 : List Int} {f1 : List Int} {f2 : List Int} {f3 : List Bool} {f4 : List Int} {f5 : List Int} {f6 : List Int} {p : Addr} (h : IsS121 w0 W g f0 f1 f2 f3 f4 f5 f6) (hne : g ≠ p.block) (u : Value) : IsS121 w0 (W.setCell p u) g f0 f1 f2 f3 f4 f5 f6 := by
 obtain ⟨A0, c0, A1, c1, A2, c2, A3, c3, A4, c4, A5, c5, A6, c6, hb, hg, hr0, hr1, hr2, hr3, hr4, hr5, hr6⟩ := h
 exact ⟨A0, c0, A1, c1, A2, c2, A3, c3, A4, c4, A5, c5, A6, c6, blk_far hb hne u, hg, hr0, hr1, hr2, hr3, hr4, hr5, hr6⟩
theorem IsS121.new (w0 W : World) (A0 : Option Addr) (c0 : Nat) (A1 : Option Addr) (c1 : Nat) (A2 : Option Addr) (c2 : Nat) (A3 : Option Addr) (c3 : Nat) (A4 : Option Addr) (c4 : Nat) (A5 : Option Addr) (c5 : Nat) (A6 : Option Addr) (c6 : Nat) (f0 : List Int) (f1 : List Int) (f2 : List Int) (f3 : List Bool) (f4 : List Int) (f5 : List Int) (f6 : List Int) (hB : Below w0.heap.size w0 W) (hr0 : Kd.C (Kd.int .i64) w0 A0 f0.length f0) (hr1 : Kd.C (Kd.int .i64) w0 A1 f1.length f1) (hr2 : Kd.C (Kd.int .i64) w0 A2 f2.length f2) (hr3 : Kd.C Kd.bool w0 A3 f3.length f3) (hr4 : Kd.C (Kd.int .i64) w0 A4 f4.length f4) (hr5 : Kd.C (Kd.int .i64) w0 A5 f5.length f5) (hr6 : Kd.C (Kd.int .i64) w0 A6 f6.length f6) : IsS121 w0 (W.alloc (.cells #[.slice A0 f0.length c0, .slice A1 f1.length c1, .slice A2 f2.length c2, .slice A3 f3.length c3, .slice A4 f4.length c4, .slice A5 f5.length c5, .slice A6 f6.length c6] 121)) W.heap.size f0 f1 f2 f3 f4 f5 f6 := ⟨A0, c0, A1, c1, A2, c2, A3, c3, A4, c4, A5, c5, A6, c6, by simpa using heap_alloc_new W _, hB.size, hr0, hr1, hr2, hr3, hr4, hr5, hr6⟩

-- NOT PRINTED: function 72 (vm_Machine_run)

-- NOT PRINTED: function 70 (vm_Machine_made)

-- NOT PRINTED: function 27 (vm_Machine_Deriv)

/-- A state of type 124 at block g of W; what its slices lead to came in by w0. -/
def IsS124 (w0 W : World) (g : Nat) (f0 : Int) : Prop := W.heap[g]? = some (.cells #[.int .i64 f0] 124 (0, 0)) ∧ w0.heap.size ≤ g
theorem IsS124.grown {w0 W : World} {g : Nat} {f0 : Int} {W1 : World} {row : Option Nat} (h : IsS124 w0 W g f0) (hw : W.grownBy W1 row) (hne : some g ≠ row) : IsS124 w0 W1 g f0 := by
 obtain ⟨hb, hg⟩ := h
 exact ⟨blk_grown hb hw hne, hg⟩
theorem IsS124.fresh {w0 W : World} {g : Nat} {f0 : Int} (h : IsS124 w0 W g f0) : ∀ k, W.heap.size ≤ k → k ≠ g := by
 obtain ⟨hb, hg⟩ := h
 exact Kd.freshB hb
theorem IsS124.kept {w0 W : World} {g : Nat} {f0 : Int} {W1 : World} {S : Nat → Prop} (h : IsS124 w0 W g f0) (hk : Kept W W1 S) (hne : ¬ S g) : IsS124 w0 W1 g f0 := by
 obtain ⟨hb, hg⟩ := h
 exact ⟨blk_kept hb hk hne, hg⟩
theorem IsS124.below {w0 W : World} {g : Nat} {f0 : Int} {W1 : World} (h : IsS124 w0 W g f0) (hw : Below W.heap.size W W1) : IsS124 w0 W1 g f0 := h.grown (Go.Proofs.YtgalkkolbobmbaaGreatW.PrintWords.grown_of_below hw none) (by simp)
theorem IsS124.alloc {w0 W : World} {g : Nat} {f0 : Int} (h : IsS124 w0 W g f0) (o : Obj) : IsS124 w0 (W.alloc o) g f0 := h.below (below_alloc (Below.refl _ _) o)
theorem IsS124.drewN {w0 W : World} {g : Nat} {f0 : Int} (h : IsS124 w0 W g f0) (m : Nat) : IsS124 w0 (W.drewN m) g f0 := h
theorem IsS124.drew {w0 W : World} {g : Nat} {f0 : Int} (h : IsS124 w0 W g f0) : IsS124 w0 W.drew g f0 := h
theorem IsS124.at_ {w0 W : World} {g : Nat} {f0 : Int} {w' : World} {m : Nat} (hq : W.drewN m = w') (h : IsS124 w0 W g f0) : IsS124 w0 w' g f0 := by subst hq; exact IsS124.drewN h m
theorem IsS124.apart {w0 W : World} {g : Nat} {f0 : Int} {α : Type} {d : Kd α} {e : Nat} {base : Nat} {ok : Nat → Prop} {v : Value} {xs : List α} (h : IsS124 w0 W g f0) (ho : d.R e W base ok v xs) (ht : ∀ q, q ∈ e :: d.E → q ≠ 124) : d.R e W base (fun k => ok k ∧ k ≠ g) v xs := by
 obtain ⟨hb, hg⟩ := h
 exact Kd.R_types ho hb ht
theorem IsS124.own_ne {w0 W : World} {g : Nat} {f0 : Int} {α : Type} {d : Kd α} {e : Nat} {base : Nat} {ok : Nat → Prop} {v : Value} {xs : List α} (h : IsS124 w0 W g f0) (ho : d.R e W base ok v xs) (ht : e ≠ 124) : some g ≠ v.ownBlock := by
 obtain ⟨hb, hg⟩ := h
 exact Kd.R_ne ho hb ht
theorem IsS124.lt {w0 W : World} {g : Nat} {f0 : Int} (h : IsS124 w0 W g f0) : g < W.heap.size := by
 obtain ⟨hb, hg⟩ := h
 exact blk_lt hb
theorem IsS124.ge {w0 W : World} {g : Nat} {f0 : Int} (h : IsS124 w0 W g f0) : w0.heap.size ≤ g := by
 obtain ⟨hb, hg⟩ := h
 exact hg
theorem IsS124.far {w0 W : World} {g : Nat} {f0 : Int} {p : Addr} (h : IsS124 w0 W g f0) (hne : g ≠ p.block) (u : Value) : IsS124 w0 (W.setCell p u) g f0 := by
 obtain ⟨hb, hg⟩ := h
 exact ⟨blk_far hb hne u, hg⟩
theorem IsS124.new (w0 W : World) (f0 : Int) (hB : Below w0.heap.size w0 W) : IsS124 w0 (W.alloc (.cells #[.int .i64 f0] 124)) W.heap.size f0 := ⟨by simpa using heap_alloc_new W _, hB.size⟩

-- NOT PRINTED: function 75 (heun_each)

-- NOT PRINTED: function 74 (heun_sum_along)

-- NOT PRINTED: function 34 (heun_Step)

-- NOT PRINTED: function 5 (astrolabelaw19_HeunTwice)

-- NOT PRINTED: function 35 (heun_Euler)

-- NOT PRINTED: function 6 (astrolabelaw19_HeunEven)


structure ObjC (w : World) (o : S26) (A0 A1 A2 A3 A6 A7 A8 A9 : Option Addr) (c0 c1 c2 c3 c6 c7 c8 c9 : Nat) : Prop where
 r0 : Kd.C (Kd.int .i64) w A0 o.f0.length o.f0
 r1 : Kd.C (Kd.int .i64) w A1 o.f1.length o.f1
 r2 : Kd.C (Kd.int .i64) w A2 o.f2.length o.f2
 r3 : Kd.C (Kd.int .i64) w A3 o.f3.length o.f3
 r6 : Kd.C k49 w A6 o.f6.length o.f6
 r7 : Kd.C k49 w A7 o.f7.length o.f7
 r8 : Kd.C k49 w A8 o.f8.length o.f8
 r9 : Kd.C k49 w A9 o.f9.length o.f9
 h0 : o.f0.length ≤ c0
 h1 : o.f1.length ≤ c1
 h2 : o.f2.length ≤ c2
 h3 : o.f3.length ≤ c3
 h6 : o.f6.length ≤ c6
 h7 : o.f7.length ≤ c7
 h8 : o.f8.length ≤ c8
 h9 : o.f9.length ≤ c9
theorem ObjC.below {w w' : World} {o : S26} {A0 A1 A2 A3 A6 A7 A8 A9 : Option Addr} {c0 c1 c2 c3 c6 c7 c8 c9 : Nat} (h : ObjC w o A0 A1 A2 A3 A6 A7 A8 A9 c0 c1 c2 c3 c6 c7 c8 c9) (hb : Below w.heap.size w w') : ObjC w' o A0 A1 A2 A3 A6 A7 A8 A9 c0 c1 c2 c3 c6 c7 c8 c9 :=
 ⟨Kd.C_below h.r0 hb, Kd.C_below h.r1 hb, Kd.C_below h.r2 hb, Kd.C_below h.r3 hb, Kd.C_below h.r6 hb, Kd.C_below h.r7 hb, Kd.C_below h.r8 hb, Kd.C_below h.r9 hb, h.h0, h.h1, h.h2, h.h3, h.h6, h.h7, h.h8, h.h9⟩
/-- A list of int64 as_ it lies in memory. -/
structure LstC (w : World) (l : List Int) (A : Option Addr) (c : Nat) : Prop where
 r : Kd.C (Kd.int .i64) w A l.length l
 h : l.length ≤ c
theorem LstC.below {w w' : World} {l : List Int} {A : Option Addr} {c : Nat} (h : LstC w l A c) (hb : Below w.heap.size w w') : LstC w' l A c := ⟨Kd.C_below h.r hb, h.h⟩
theorem LstC.old {w w' : World} {l : List Int} {A : Option Addr} {c n : Nat} (h : LstC w l A c) (hb : Below w.heap.size w w') (hn : w.heap.size ≤ n) : Old n w' A l := ⟨Kd.C_below h.r hb, fun ad ha hp => by
 subst ha
 have := C_lt h.r hp (by decide)
 omega⟩
section
variable {w : World} {o : S26} {A0 A1 A2 A3 A6 A7 A8 A9 : Option Addr} {c0 c1 c2 c3 c6 c7 c8 c9 : Nat}
theorem right17_o (h : ObjC w o A0 A1 A2 A3 A6 A7 A8 A9 c0 c1 c2 c3 c6 c7 c8 c9) (k : Nat) (r : Bool) (hr : astrolaberef17_Right.f k o.f0 o.f1 o.f2 o.f3 o.f4 o.f5 o.f6 o.f7 o.f8 o.f9 = some r) :
 Calls Tryz.prog 22 #[.agg #[.slice A0 o.f0.length c0, .slice A1 o.f1.length c1, .slice A2 o.f2.length c2, .slice A3 o.f3.length c3, .int .i64 o.f4, .int .i64 o.f5, .slice A6 o.f6.length c6, .slice A7 o.f7.length c7, .slice A8 o.f8.length c8, .slice A9 o.f9.length c9]] w fun e w' => e = .returned (.bool r) ∧ Below w.heap.size w w' :=
 astrolaberef17_Right.calls k _ _ _ _ _ _ _ _ _ _ _ _ _ _ _ _ _ _ _ _ _ _ _ _ _ _ r w h.r0 h.h0 h.r1 h.h1 h.r2 h.h2 h.r3 h.h3 h.r6 h.h6 h.r7 h.h7 h.r8 h.h8 h.r9 h.h9 hr
theorem new_o (h : ObjC w o A0 A1 A2 A3 A6 A7 A8 A9 c0 c1 c2 c3 c6 c7 c8 c9) (G : Good o) :
 Calls Tryz.prog 23 #[.agg #[.slice A0 o.f0.length c0, .slice A1 o.f1.length c1, .slice A2 o.f2.length c2, .slice A3 o.f3.length c3, .int .i64 o.f4, .int .i64 o.f5, .slice A6 o.f6.length c6, .slice A7 o.f7.length c7, .slice A8 o.f8.length c8, .slice A9 o.f9.length c9]] w fun e w' =>
  ∃ Bm : Nat, e = .returned (.tuple #[.pointer (some ⟨Bm, 0, none⟩), .int .i64 0]) ∧ MachO w.heap.size Bm o 0 w' ∧ Below w.heap.size w w' :=
 new_any _ _ _ _ _ _ _ _ _ _ _ _ _ _ _ _ _ _ _ _ _ _ _ _ _ _ w h.r0 h.h0 h.r1 h.h1 h.r2 h.h2 h.r3 h.h3 h.r6 h.h6 h.r7 h.h7 h.r8 h.h8 h.r9 h.h9 G.right
end
theorem done_o {n Bm : Nat} {o : S26} {dn : Int} {w : World} (h : MachO n Bm o dn w) : Calls Tryz.prog 24 #[.pointer (some ⟨Bm, 0, none⟩)] w fun e w' => e = .returned (.int .i64 dn) ∧ w' = w := by
 obtain ⟨cs, v0, v1, v2, v3, v6, v7, v8, v9, hM⟩ := h
 exact done_any hM
theorem Nw.of_R' {e base : Nat} {w : World} {ok : Nat → Prop} {v : Value} {l : List Int} (h : (Kd.int .i64).R e w base ok v l) : ∃ A c, v = .slice A l.length c ∧ l.length ≤ c ∧ Nw base w A l := by
 obtain ⟨A, c, hv, hl, hC, hn⟩ := R_list (Kd.R_mono (Kd.R_bound h) (ok' := fun k => base ≤ k) (fun _ hk => hk.2.1))
 exact ⟨A, c, hv, hl, hC, hn⟩
theorem numbers_loop (l : List Int) (hl : l.length ≤ 140737488355328) : ∀ (d i : Nat), i + d = l.length → Ev (fun K => astrolaberef14_Numbers.l0 K l l (i : Int)) true
 | 0, i, hi => Ev.step (f := fun _ => some true) (fun k => by simp only [astrolaberef14_Numbers.l0]; rw [if_neg (by omega)]) (Ev.now _)
 | d + 1, i, hi => by
  refine Ev.step (fun k => ?_) (numbers_loop l hl d (i + 1) (by omega))
  have e : wrap64 ((i : Int) + 1) = ((i + 1 : Nat) : Int) := by rw [wrap_in (by omega) (by omega)]; omega
  simp only [astrolaberef14_Numbers.l0]
  rw [if_pos (by omega), if_pos (by omega), if_pos (by omega), if_pos trivial, e]
theorem numbers_ev (l : List Int) (hl : l.length ≤ 140737488355328) : Ev (fun K => astrolaberef14_Numbers.f K l l) true := by
 refine Ev.congr (fun K => ?_) (numbers_loop l hl l.length 0 (by omega))
 unfold astrolaberef14_Numbers.f
 rw [if_pos rfl]
 rfl
theorem some_ite {c : Prop} [Decidable c] {x y : Bool} : ∃ r, (if c then some x else some y) = some r := by
 by_cases h : c
 · exact ⟨x, if_pos h⟩
 · exact ⟨y, if_neg h⟩
theorem great16_some (o : S26) : ∃ r, astrolaberef16_Great.f o.f0 o.f1 o.f2 o.f3 o.f4 o.f5 o.f6 o.f7 o.f8 o.f9 = some r := some_ite
theorem lens_of {o : S26} (h : G26 o) : (∀ j, j < 4 → ((four o.f6 o.f7 o.f8 o.f9 j).length : Int) ≤ 140737488351232) ∧ (o.f0.length : Int) ≤ 140737488351232 ∧ (o.f1.length : Int) ≤ 140737488351232 := by
 obtain ⟨h0, h1, -, -, -, -, h6, h7, h8, h9⟩ := h
 refine ⟨fun j hj => ?_, by omega, by omega⟩
 rcases (by omega : j = 0 ∨ j = 1 ∨ j = 2 ∨ j = 3) with rfl | rfl | rfl | rfl <;> simp only [four] <;> omega
/-- The document's Right: it answers; if it says yes, the object is good. -/
theorem right_good {o : S26} (h : G26 o) : ∃ k r, astrolaberef17_Right.f k o.f0 o.f1 o.f2 o.f3 o.f4 o.f5 o.f6 o.f7 o.f8 o.f9 = some r ∧ (r = true → Good o) := by
 obtain ⟨q1, q2, q3⟩ := lens_of h
 obtain ⟨r, hr, hi⟩ := ref_right (x := o.f4) (y := o.f5) (c := o.f2) (d := o.f3) q1 q2 q3
 obtain ⟨k, hk⟩ := hr.rounds
 exact ⟨k, r, hk, fun e => good_of h (hi e)⟩
theorem allIn_of {l : List Int} (h : ∀ x ∈ l, (Lit.int .i64 x).wf = true) : AllIn l := fun x hx => in64_of (h x hx)

def gr16 (o : S26) : Bool := (astrolaberef16_Great.f o.f0 o.f1 o.f2 o.f3 o.f4 o.f5 o.f6 o.f7 o.f8 o.f9).getD true
theorem gr16_some (o : S26) : astrolaberef16_Great.f o.f0 o.f1 o.f2 o.f3 o.f4 o.f5 o.f6 o.f7 o.f8 o.f9 = some (gr16 o) := by
 obtain ⟨r, hr⟩ := great16_some o
 unfold gr16
 rw [hr]
 rfl
/-- Is a list greater than 300, or an object great, or its Zero longer than 200? -/
def gr20 (n : Nat) (L : Nat → Nat) (o : S26) : Bool := (List.range n).any (fun j => decide (300 < L j)) || (gr16 o || decide (200 < o.f7.length))
section
variable {w : World} {o : S26} {A0 A1 A2 A3 A6 A7 A8 A9 : Option Addr} {c0 c1 c2 c3 c6 c7 c8 c9 : Nat}
theorem great16_o (h : ObjC w o A0 A1 A2 A3 A6 A7 A8 A9 c0 c1 c2 c3 c6 c7 c8 c9) :
 Calls Tryz.prog 20 #[.agg #[.slice A0 o.f0.length c0, .slice A1 o.f1.length c1, .slice A2 o.f2.length c2, .slice A3 o.f3.length c3, .int .i64 o.f4, .int .i64 o.f5, .slice A6 o.f6.length c6, .slice A7 o.f7.length c7, .slice A8 o.f8.length c8, .slice A9 o.f9.length c9]] w fun e w' => e = .returned (.bool (gr16 o)) ∧ Below w.heap.size w w' :=
 astrolaberef16_Great.calls _ _ _ _ _ _ _ _ _ _ _ _ _ _ _ _ _ _ _ _ _ _ _ _ _ _ _ w h.r0 h.h0 h.r1 h.h1 h.r2 h.h2 h.r3 h.h3 h.r6 h.h6 h.r7 h.h7 h.r8 h.h8 h.r9 h.h9 (gr16_some o)
set_option maxHeartbeats 1000000 in
set_option maxRecDepth 100000 in
theorem fits18_o (Ai As Am : Option Addr) (ci cs cm ni ns nm : Nat) :
 Calls Tryz.prog 40 #[.agg #[.slice A0 o.f0.length c0, .slice A1 o.f1.length c1, .slice A2 o.f2.length c2, .slice A3 o.f3.length c3, .int .i64 o.f4, .int .i64 o.f5, .slice A6 o.f6.length c6, .slice A7 o.f7.length c7, .slice A8 o.f8.length c8, .slice A9 o.f9.length c9], .slice Ai ni ci, .slice As ns cs, .slice Am nm cm] w
  fun e w' => e = .returned (.bool (decide (ni = o.f0.length ∧ ns = o.f2.length ∧ nm = o.f3.length))) ∧ Below w.heap.size w w' := by
 by_cases h0 : ni = o.f0.length
 · by_cases h2 : ns = o.f2.length
   · by_cases h3 : nm = o.f3.length
     · have hh : decide (ni = o.f0.length ∧ ns = o.f2.length ∧ nm = o.f3.length) = true := decide_eq_true ⟨h0, h2, h3⟩
       rw [hh]
       subst h0 h2 h3
       go_enter Tryz.func40, Tryz.ntmps40
       go_wp2
       go_ret
       exact ⟨by first | rfl | simp [e3], below_alloc (Below.refl _ _) _⟩
     · have hh : decide (ni = o.f0.length ∧ ns = o.f2.length ∧ nm = o.f3.length) = false := decide_eq_false (fun h => h3 h.2.2)
       have e3 : ((nm : Int) == (o.f3.length : Int)) = false := by rw [beq_eq_false_iff_ne]; omega
       rw [hh]
       subst h0 h2
       go_enter Tryz.func40, Tryz.ntmps40
       go_wp2
       go_ret
       exact ⟨by first | rfl | simp [e3], below_alloc (Below.refl _ _) _⟩
   · have hh : decide (ni = o.f0.length ∧ ns = o.f2.length ∧ nm = o.f3.length) = false := decide_eq_false (fun h => h2 h.2.1)
     have e3 : ((ns : Int) == (o.f2.length : Int)) = false := by rw [beq_eq_false_iff_ne]; omega
     rw [hh]
     subst h0
     go_enter Tryz.func40, Tryz.ntmps40
     go_wp2
     go_ret
     exact ⟨by first | rfl | simp [e3], below_alloc (Below.refl _ _) _⟩
 · have hh : decide (ni = o.f0.length ∧ ns = o.f2.length ∧ nm = o.f3.length) = false := decide_eq_false (fun h => h0 h.1)
   have e3 : ((ni : Int) == (o.f0.length : Int)) = false := by rw [beq_eq_false_iff_ne]; omega
   rw [hh]
   go_enter Tryz.func40, Tryz.ntmps40
   go_wp2
   go_ret
   exact ⟨by first | rfl | simp [e3], below_alloc (Below.refl _ _) _⟩
set_option maxHeartbeats 1000000 in
set_option maxRecDepth 100000 in
theorem great20_o (h : ObjC w o A0 A1 A2 A3 A6 A7 A8 A9 c0 c1 c2 c3 c6 c7 c8 c9) (B n : Nat) (P : Nat → Option Addr) (L C : Nat → Nat) (hn : n ≤ 100) (hrow : ∀ j, j < n → w.cell? ⟨B, j, none⟩ = some (.slice (P j) (L j) (C j))) :
 Calls Tryz.prog 52 #[.agg #[.slice A0 o.f0.length c0, .slice A1 o.f1.length c1, .slice A2 o.f2.length c2, .slice A3 o.f3.length c3, .int .i64 o.f4, .int .i64 o.f5, .slice A6 o.f6.length c6, .slice A7 o.f7.length c7, .slice A8 o.f8.length c8, .slice A9 o.f9.length c9], .slice (some ⟨B, 0, none⟩) n n] w fun e w' => e = .returned (.bool (gr20 n L o)) ∧ Below w.heap.size w w' := by
 have HO := Aside0.mk h
 have HR := Aside0.mk hrow
 clear h hrow
 go_enter Tryz.func52, Tryz.ntmps52
 go_wp2_with fail
 obtain ⟨w1, hw1⟩ : ∃ z, w.alloc (Obj.cells #[.slice A0 o.f0.length c0, .slice A1 o.f1.length c1, .slice A2 o.f2.length c2, .slice A3 o.f3.length c3, .int .i64 o.f4, .int .i64 o.f5, .slice A6 o.f6.length c6, .slice A7 o.f7.length c7, .slice A8 o.f8.length c8, .slice A9 o.f9.length c9] 26) = z := ⟨_, rfl⟩
 have hb1 : Below w.heap.size w w1 := by rw [← hw1]; exact below_alloc (Below.refl _ _) _
 have X1 := Aside0.mk (show w1.heap[w.heap.size]? = some (.cells #[.slice A0 o.f0.length c0, .slice A1 o.f1.length c1, .slice A2 o.f2.length c2, .slice A3 o.f3.length c3, .int .i64 o.f4, .int .i64 o.f5, .slice A6 o.f6.length c6, .slice A7 o.f7.length c7, .slice A8 o.f8.length c8, .slice A9 o.f9.length c9] 26 (0, 0)) by rw [← hw1]; exact blk_new w _)
 rw [hw1]
 clear hw1
 have HR1 := Aside0.mk (show ∀ j, j < n → w1.cell? ⟨B, j, none⟩ = some (.slice (P j) (L j) (C j)) from fun j hj => (World.cell?_of_block (hb1.block B (World.block_lt_of_cell? w _ (HR.out j hj)))).trans (HR.out j hj))
 have HO1 := Aside0.mk (HO.out.below hb1)
 have B1 := Aside0.mk hb1
 clear hb1 HR HO
 go_loopw [5] (fun i wr => ∃ j : Nat, i = .int .i64 j ∧ j ≤ n ∧ (∀ k, k < j → L k ≤ 300) ∧ Aside0 (wr = w1)) (fun i _ => n - (intOf i).toNat)
 case atStart => exact ⟨0, rfl, Nat.zero_le _, fun k hk => absurd hk (by omega), ⟨rfl⟩⟩
 case round =>
  obtain ⟨j, rfl, hj, hk, HW⟩ := hrel
  obtain rfl := HW.out
  by_cases c : j < n
  · have hlt : decide ((j : Int) < (n : Int)) = true := decide_eq_true (by omega)
    have h0 : (0 : Int) ≤ (j : Int) := by omega
    have h1 : (j : Int) < (n : Int) := by omega
    have hc := HR1.out j c
    by_cases d : 300 < L j
    · have hd : decide ((L j : Int) > 300) = true := decide_eq_true (by omega)
      go_wp2_with fail
      go_ret
      have hg : gr20 n L o = true := by
       unfold gr20
       rw [Bool.or_eq_true]
       exact .inl (List.any_eq_true.2 ⟨j, List.mem_range.2 c, decide_eq_true d⟩)
      rw [hg]
      exact ⟨rfl, B1.out⟩
    · have hd : decide ((L j : Int) > 300) = false := decide_eq_false (by omega)
      go_wp2_with fail
      go_roundw
      case rel => exact ⟨j + 1, by go_num, by omega, fun k hk2 => by rcases Nat.lt_succ_iff_lt_or_eq.1 hk2 with h9 | rfl; exact hk k h9; omega, by first | exact ⟨rfl⟩ | exact ⟨trivial⟩⟩
      case measure => simp [intOf]; omega
  · obtain rfl : j = n := by omega
    have hlt : decide ((j : Int) < (j : Int)) = false := decide_eq_false (by omega)
    have hg : gr20 j L o = (gr16 o || decide (200 < o.f7.length)) := by
     unfold gr20
     rw [show (List.range j).any (fun k => decide (300 < L k)) = false from by rw [List.any_eq_false]; intro k hk2; have := hk k (List.mem_range.1 hk2); simp; omega, Bool.false_or]
    have HG := Aside0.mk hg
    clear hg hk HR1
    have q7 : ∀ x : World, x.heap[w.heap.size]? = some (.cells #[.slice A0 o.f0.length c0, .slice A1 o.f1.length c1, .slice A2 o.f2.length c2, .slice A3 o.f3.length c3, .int .i64 o.f4, .int .i64 o.f5, .slice A6 o.f6.length c6, .slice A7 o.f7.length c7, .slice A8 o.f8.length c8, .slice A9 o.f9.length c9] 26 (0, 0)) → x.cell? ⟨w.heap.size, 7, none⟩ = some (.slice A7 o.f7.length c7) := fun x hx => (blk_cell hx 7).trans rfl
    go_wp2_with (refine wpList_load_row rfl 26 _ rfl w.heap.size rfl 26 #[.slice A0 o.f0.length c0, .slice A1 o.f1.length c1, .slice A2 o.f2.length c2, .slice A3 o.f3.length c3, .int .i64 o.f4, .int .i64 o.f5, .slice A6 o.f6.length c6, .slice A7 o.f7.length c7, .slice A8 o.f8.length c8, .slice A9 o.f9.length c9] (0, 0) _ X1.out Tryz.underlying26 rfl (by kernel_rfl) ?_)
    refine (great16_o HO1.out).mono ?_
    rintro e w2 ⟨rfl, hb2⟩
    have B2 := Aside0.mk (below_step B1.out hb2)
    have q7' : w2.cell? ⟨w.heap.size, 7, none⟩ = some (.slice A7 o.f7.length c7) := q7 w2 ((hb2.block _ (lt_of_block X1.out)).trans X1.out)
    clear hb2 q7
    cases hg : gr16 o with
    | true =>
     go_wp2_with fail
     go_ret
     exact ⟨by rw [HG.out, hg]; rfl, by repeat (first | exact B2.out | apply pw_below_drewN | apply below_drew1)⟩
    | false =>
     by_cases d : 200 < o.f7.length
     · have hd : decide ((o.f7.length : Int) > 200) = true := decide_eq_true (by omega)
       go_wp2_with fail
       go_ret
       exact ⟨by rw [HG.out, hg]; first | rw [decide_eq_true d]; rfl | rw [decide_eq_false d]; rfl, by repeat (first | exact B2.out | apply pw_below_drewN | apply below_drew1)⟩
     · have hd : decide ((o.f7.length : Int) > 200) = false := decide_eq_false (by omega)
       go_wp2_with fail
       go_ret
       exact ⟨by rw [HG.out, hg]; first | rw [decide_eq_true d]; rfl | rw [decide_eq_false d]; rfl, by repeat (first | exact B2.out | apply pw_below_drewN | apply below_drew1)⟩
end
end Go.Proofs.YtgalkkolbobmbaaGreat.V
