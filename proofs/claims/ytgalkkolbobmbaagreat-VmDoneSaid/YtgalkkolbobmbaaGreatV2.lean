/- The plain law of a piece: of an object that is right no instruction stops a run, and a run is over within as_ many instructions as_ the piece has. -/
import Derived.Test.YtgalkkolbobmbaaGreatVOpsFor
import Derived.Test.YtgalkkolbobmbaaGreatVMVer2
import Derived.Test.YtgalkkolbobmbaaGreatVClone

namespace Go.Proofs.YtgalkkolbobmbaaGreat.V
open Go.RowKit Go.Proofs.YtgalkkolbobmbaaGreatW.PrintWords
set_option linter.unusedVariables false
set_option linter.unusedSimpArgs false
def AllIn (l : List Int) : Prop := ∀ x ∈ l, In64 x
theorem in64_zero : In64 0 := ⟨by decide, by decide⟩
theorem AllIn.at {l : List Int} (h : AllIn l) (i : Int) : In64 (rd l i) := by
 unfold rd
 rw [List.getD_eq_getElem?_getD]
 cases he : l[i.toNat]? with
 | none => exact in64_zero
 | some v => exact h v (List.mem_of_getElem? he)
theorem AllIn.set {l : List Int} (h : AllIn l) (i : Nat) {v : Int} (hv : In64 v) : AllIn (l.set i v) := fun x hx => by
 rcases List.mem_or_eq_of_mem_set hx with h1 | rfl
 · exact h x h1
 · exact hv
theorem AllIn.zeros (n : Nat) : AllIn (List.replicate n 0) := fun x hx => by rw [List.eq_of_mem_replicate hx]; exact in64_zero
theorem fB {n m : Int} (h : belowB n m = true) : 0 ≤ n ∧ n < m := by simpa [belowB] using h
theorem at_ok {l : List Int} {n : Int} (h : AllIn l) (hn : 0 ≤ n) : ∃ v, atV l n = some v ∧ In64 v := by
 unfold atV
 rw [if_pos hn]
 exact ⟨_, rfl, h.at _⟩
theorem set_ok {l : List Int} {i v : Int} (h0 : 0 ≤ i) (h1 : i < (l.length : Int)) (h : AllIn l) (hv : In64 v) : ∃ l', setI l i v = some l' ∧ l'.length = l.length ∧ AllIn l' := by
 unfold setI
 rw [if_pos ⟨h0, h1⟩]
 exact ⟨_, rfl, by simp, h.set _ hv⟩
/-- What a run keeps of its banks. -/
structure RSOk (nr np ns nm : Nat) (s : RS) : Prop where
 rl : s.regs.length = nr
 ri : AllIn s.regs
 pl : s.put.length = np
 pi : AllIn s.put
 sl : s.ns.length = ns
 si : AllIn s.ns
 ml : s.nm.length = nm
 mi : AllIn s.nm
theorem reg_read {x : S49} {b : Bool} {n m : Int} (h : fieldB n b m = true) (hb : b = true) : 0 ≤ n := by
 rw [fieldB, if_pos hb] at h
 exact (fB h).1
theorem reg_zero {n : Int} {b : Bool} (h : fieldB n b (-1) = true) : 0 ≤ n := by
 cases b with
 | true => exact reg_read (x := ⟨0, 0, 0, 0, 0, 0⟩) h rfl
 | false =>
  rw [fieldB, if_neg (by simp), if_neg (by omega)] at h
  have : n = 0 := by simpa using h
  omega
theorem place_at {n m : Int} {b : Bool} (h : fieldB n b m = true) (hb : b = false) (hm : 0 ≤ m) : 0 ≤ n ∧ n < m := by
 rw [fieldB, if_neg (by simp [hb]), if_pos hm] at h
 exact fB h
theorem step_some {n0 n1 n2 n3 : Nat} {cross p : Int} {x : S49} {behind : Int} {O : Int → Int → Int → Int → Option (Int × Int)}
 (hO : ∀ op a b c, 6 ≤ op → op ≤ 18 → In64 a → In64 b → In64 c → ∃ q, O op a b c = some q ∧ In64 q.1)
 (hx : rightB n0 n1 n2 n3 cross p x behind = true) (hp : 0 ≤ p ∧ p < 4) (hb : 0 ≤ behind) (hb2 : behind ≤ 4000) (hV : In64 x.f5) (hc0 : 0 ≤ cross)
 {inn st mem : List Int} {raised : List Bool} (hi : inn.length = n0) (hs : st.length = n2) (hm : mem.length = n3) (hr : p = 2 → (raised.length : Int) = cross)
 (ai : AllIn inn) (ais : AllIn st) (am : AllIn mem) {pc : Int} {s : RS} {nr np ns nm : Nat} (h : RSOk nr np ns nm s) (hd : isD x.f0 = true → x.f1 < nr)
 (hput : p ≠ 2 → (np : Int) = if p = 0 then (n2 : Int) else if p = 1 then cross else n1) (hns : p = 2 → ns = n2) (hnm : p = 2 → nm = n3) (hpc : 0 ≤ pc ∧ pc ≤ 4000) :
 ∃ pc' s', stepV O inn st mem raised x pc s = some (pc', s') ∧ pc ≤ pc' ∧ pc' ≤ pc + behind ∧ (p ≠ 2 → pc' = pc) ∧ RSOk nr np ns nm s' := by
 unfold rightB at hx
 simp only [Bool.and_eq_true] at hx
 obtain ⟨⟨hh, hv⟩, hD, hA, hB, hC⟩ := hx
 unfold stepV
 by_cases h19 : x.f0 = 19
 · rw [if_pos h19]
   obtain ⟨v, e, hv⟩ := at_ok h.ri (reg_read (x := x) hA (by simp [isA, h19]))
   rw [e]
   have hB2 := place_at hB (by simp [isB, h19]) (by rw [placeB, if_pos h19, wrap_up hb (by omega)]; omega)
   rw [placeB, if_pos h19, wrap_up hb (by omega)] at hB2
   have hp2 : p = 2 := by simpa [hereB, h19] using hh
   refine ⟨_, s, rfl, ?_, ?_, fun hn => absurd hp2 hn, h⟩
   · split
     · rw [wrap_in (by omega) (by omega)]; omega
     · omega
   · split
     · rw [wrap_in (by omega) (by omega)]; omega
     · omega
 rw [if_neg h19]
 by_cases h20 : x.f0 = 20
 · rw [if_pos h20]
   obtain ⟨v, e, hv⟩ := at_ok h.ri (reg_read (x := x) hA (by simp [isA, h20]))
   rw [e]
   have hp2 : p ≠ 2 := by simpa [hereB, h20] using hh
   have hpl : 0 ≤ placeD n1 n2 n3 cross p x.f0 ∧ placeD n1 n2 n3 cross p x.f0 = (np : Int) := by
    rw [hput hp2, placeD, if_neg (by omega), if_neg (by omega), if_pos h20]
    obtain rfl | rfl | rfl : p = 0 ∨ p = 1 ∨ p = 3 := by omega
    · simp
    · simp
      by_cases hc : 0 < cross
      · rw [if_pos hc]; omega
      · rw [if_neg hc]; omega
    · simp
   have hD2 := place_at hD (by simp [isD, h20]) hpl.1
   rw [hpl.2] at hD2
   obtain ⟨l', e2, hl, ha⟩ := set_ok hD2.1 (by rw [h.pl]; exact hD2.2) h.pi hv
   exact ⟨pc, { s with put := l' }, by simp [e2], by omega, by omega, fun _ => rfl, h.rl, h.ri, hl.trans h.pl, ha, h.sl, h.si, h.ml, h.mi⟩
 rw [if_neg h20]
 by_cases h21 : x.f0 = 21
 · rw [if_pos h21]
   obtain ⟨v, e, hv⟩ := at_ok h.ri (reg_read (x := x) hA (by simp [isA, h21]))
   rw [e]
   have hp2 : p = 2 := by simpa [hereB, h21] using hh
   have hD2 := place_at hD (by simp [isD, h21]) (by rw [placeD, if_pos h21]; omega)
   rw [placeD, if_pos h21] at hD2
   obtain ⟨l', e2, hl, ha⟩ := set_ok hD2.1 (by rw [h.ml, hnm hp2]; exact hD2.2) h.mi hv
   exact ⟨pc, { s with nm := l' }, by simp [e2], by omega, by omega, fun _ => rfl, h.rl, h.ri, h.pl, h.pi, h.sl, h.si, hl.trans h.ml, ha⟩
 rw [if_neg h21]
 by_cases h22 : x.f0 = 22
 · rw [if_pos h22]
   obtain ⟨v, e, hv⟩ := at_ok h.ri (reg_read (x := x) hA (by simp [isA, h22]))
   rw [e]
   have hp2 : p = 2 := by simpa [hereB, h22] using hh
   have hD2 := place_at hD (by simp [isD, h22]) (by rw [placeD, if_neg (by omega), if_pos h22]; omega)
   rw [placeD, if_neg (by omega), if_pos h22] at hD2
   obtain ⟨l', e2, hl, ha⟩ := set_ok hD2.1 (by rw [h.sl, hns hp2]; exact hD2.2) h.si hv
   exact ⟨pc, { s with ns := l' }, by simp [e2], by omega, by omega, fun _ => rfl, h.rl, h.ri, h.pl, h.pi, hl.trans h.sl, ha, h.ml, h.mi⟩
 rw [if_neg h22]
 have hop : 1 ≤ x.f0 ∧ x.f0 ≤ 22 := by
  by_cases h5 : x.f0 = 5
  · omega
  · have : ¬ (x.f0 = 5 ∨ x.f0 = 19 ∨ x.f0 = 21 ∨ x.f0 = 22) := by omega
    rw [hereB, if_neg this, if_neg h20] at hh
    simpa using hh
 have hDd : isD x.f0 = true := by simp [isD]; omega
 have hD2 : 0 ≤ x.f1 ∧ x.f1 < (s.regs.length : Int) := ⟨reg_read (x := x) hD hDd, by rw [h.rl]; exact hd hDd⟩
 by_cases hlo : x.f0 ≤ 5
 · have hl : ∃ v, loadV inn st mem raised x = some (v, true) ∧ In64 v := by
    unfold loadV
    have hAf : isA x.f0 = false := by simp [isA]; omega
    by_cases h1 : x.f0 = 1
    · rw [if_pos h1]; exact ⟨_, rfl, hV⟩
    rw [if_neg h1]
    by_cases h2 : x.f0 = 2
    · have hA2 := place_at hA hAf (by rw [placeA, if_pos h2]; omega)
      rw [placeA, if_pos h2, ← hi] at hA2
      rw [if_pos h2, if_pos hA2]; exact ⟨_, rfl, ai.at _⟩
    rw [if_neg h2]
    by_cases h3 : x.f0 = 3
    · have hA2 := place_at hA hAf (by rw [placeA, if_neg h2, if_pos h3]; omega)
      rw [placeA, if_neg h2, if_pos h3, ← hs] at hA2
      rw [if_pos h3, if_pos hA2]; exact ⟨_, rfl, ais.at _⟩
    rw [if_neg h3]
    by_cases h4 : x.f0 = 4
    · have hA2 := place_at hA hAf (by rw [placeA, if_neg h2, if_neg h3, if_pos h4]; omega)
      rw [placeA, if_neg h2, if_neg h3, if_pos h4, ← hm] at hA2
      rw [if_pos h4, if_pos hA2]; exact ⟨_, rfl, am.at _⟩
    rw [if_neg h4]
    have h5 : x.f0 = 5 := by omega
    have hp2 : p = 2 := by simpa [hereB, h5] using hh
    have hcr : (if 0 < cross then cross else 0) = cross := by split <;> omega
    have hA2 := place_at hA hAf (by rw [placeA, if_neg h2, if_neg h3, if_neg h4, if_pos h5, hcr]; omega)
    rw [placeA, if_neg h2, if_neg h3, if_neg h4, if_pos h5, hcr, ← hr hp2] at hA2
    rw [if_pos h5, if_pos hA2]; exact ⟨_, rfl, in64_truth _⟩
   obtain ⟨v, e, hv⟩ := hl
   rw [e]
   obtain ⟨l', e2, hl, ha⟩ := set_ok hD2.1 hD2.2 h.ri hv
   exact ⟨pc, { s with regs := l' }, by simp [e2], by omega, by omega, fun _ => rfl, hl.trans h.rl, ha, h.pl, h.pi, h.sl, h.si, h.ml, h.mi⟩
 · have hl : loadV inn st mem raised x = some (0, false) := by
    unfold loadV
    rw [if_neg (by omega), if_neg (by omega), if_neg (by omega), if_neg (by omega), if_neg (by omega)]
   rw [hl]
   have hA0 : 0 ≤ x.f2 := reg_read (x := x) hA (by simp [isA]; omega)
   have hB0 : 0 ≤ x.f3 := reg_zero (by rw [placeB, if_neg h19] at hB; exact hB)
   have hC0 : 0 ≤ x.f4 := reg_zero hC
   obtain ⟨a, ea, ia⟩ := at_ok h.ri hA0
   obtain ⟨b, eb, ib⟩ := at_ok h.ri hB0
   obtain ⟨c, ec, ic⟩ := at_ok h.ri hC0
   obtain ⟨q, eq, iq⟩ := hO x.f0 a b c (by omega) (by omega) ia ib ic
   obtain ⟨l', e2, hl, ha⟩ := set_ok hD2.1 hD2.2 h.ri iq
   refine ⟨pc, { s with regs := l', fl := Go.bits .or .i64 s.fl q.2 }, ?_, by omega, by omega, fun _ => rfl, hl.trans h.rl, ha, h.pl, h.pi, h.sl, h.si, h.ml, h.mi⟩
   simp only [Option.bind_some, ea, eb, ec]
   rw [if_neg (by simp), if_pos ⟨by omega, by omega⟩, eq]
   simp [e2]
/-- A run ends. What it leaves does not hang on how many were done before. -/
theorem run_some {n0 n1 n2 n3 : Nat} {cross p : Int} {O : Int → Int → Int → Int → Option (Int × Int)}
 (hO : ∀ op a b c, 6 ≤ op → op ≤ 18 → In64 a → In64 b → In64 c → ∃ q, O op a b c = some q ∧ In64 q.1) (hp : 0 ≤ p ∧ p < 4) (hc0 : 0 ≤ cross)
 {l : List S49} (hl : l.length ≤ 4000) (hx : ∀ m : Nat, m < l.length → rightB n0 n1 n2 n3 cross p (rd_T49 l (m : Int)) ((l.length : Int) - m - 1) = true)
 (hV : ∀ m : Nat, m < l.length → In64 (rd_T49 l (m : Int)).f5)
 {inn st mem : List Int} {raised : List Bool} (hi : inn.length = n0) (hs : st.length = n2) (hm : mem.length = n3) (hr : p = 2 → (raised.length : Int) = cross)
 (ai : AllIn inn) (ais : AllIn st) (am : AllIn mem) {nr np ns nm : Nat} (hd : ∀ m : Nat, m < l.length → isD (rd_T49 l (m : Int)).f0 = true → (rd_T49 l (m : Int)).f1 < nr)
 (hput : p ≠ 2 → (np : Int) = if p = 0 then (n2 : Int) else if p = 1 then cross else n1) (hns : p = 2 → ns = n2) (hnm : p = 2 → nm = n3) :
 ∀ d pc : Nat, l.length - pc ≤ d → pc ≤ l.length → ∀ s, RSOk nr np ns nm s → ∃ (s' : RS) (c : Nat), RSOk nr np ns nm s' ∧ c ≤ l.length - pc ∧ (p ≠ 2 → c = l.length - pc) ∧
  ∀ (dn : Int), 0 ≤ dn → dn + ((l.length : Int) - (pc : Int)) ≤ 1000000000000 → ∀ k, d < k → runV O inn st mem raised l k (pc : Int) dn s = some (s', dn + c) := by
 intro d
 induction d with
 | zero =>
  intro pc h1 h2 s h
  refine ⟨s, 0, h, by omega, fun _ => by omega, fun dn _ _ k hk => ?_⟩
  obtain ⟨k, rfl⟩ : ∃ k', k = k' + 1 := ⟨k - 1, by omega⟩
  show (if (pc : Int) < (l.length : Int) then _ else _) = _
  rw [if_neg (by omega)]
  simp
 | succ d ih =>
  intro pc h1 h2 s h
  by_cases hlt : pc < l.length
  · obtain ⟨pc', s1, e, q1, q2, q3, h'⟩ := step_some (hO := hO) (hx pc hlt) hp (by omega) (by omega) (hV pc hlt) hc0 hi hs hm hr ai ais am (pc := (pc : Int)) h (hd pc hlt) hput hns hnm (by omega)
    obtain ⟨s', c, hs', hc1, hc2, hrun⟩ := ih (pc' + 1).toNat (by omega) (by omega) s1 h'
    refine ⟨s', c + 1, hs', by omega, fun hn => by have := hc2 hn; have := q3 hn; omega, fun dn hd0 hd1 k hk => ?_⟩
    obtain ⟨k, rfl⟩ : ∃ k', k = k' + 1 := ⟨k - 1, by omega⟩
    show (if (pc : Int) < (l.length : Int) then _ else _) = _
    rw [if_pos (by omega), if_pos (by omega), e, Option.bind_some]
    have hw1 : wrap64 (pc' + 1) = ((pc' + 1).toNat : Int) := by rw [wrap_in (by omega) (by omega)]; omega
    have hw2 : wrap64 (dn + 1) = dn + 1 := wrap_in (by omega) (by omega)
    simp only
    rw [hw1, hw2]
    rw [hrun (dn + 1) (by omega) (by omega) k (by omega)]
    congr 2
    omega
  · refine ⟨s, 0, h, by omega, fun _ => by omega, fun dn _ _ k hk => ?_⟩
    obtain ⟨k, rfl⟩ : ∃ k', k = k' + 1 := ⟨k - 1, by omega⟩
    show (if (pc : Int) < (l.length : Int) then _ else _) = _
    rw [if_neg (by omega)]
    simp
end Go.Proofs.YtgalkkolbobmbaaGreat.V

-- written by myprint.py (wip/tools) out of the translation
namespace Go.Proofs.YtgalkkolbobmbaaGreat.V
open Go.RowKit Go.Proofs.YtgalkkolbobmbaaGreatW.PrintWords Go.Proofs.YtgalkkolbobmbaaGreatW.PrintLast Go.Proofs.YtgalkkolbobmbaaGreatW.PrintMore
attribute [local go_sem] max2_int min2_int max_two min_two max_three min_three max_four min_four   -- for this text's walks alone
set_option linter.unusedVariables false
set_option linter.unusedSimpArgs false

/-! ### astrolaberef17_Pieces: function 61 -/
def astrolaberef17_Pieces.f (l0_0 : List Int) (l0_1 : List Int) (l0_2 : List Int) (l0_3 : List Int) (a0_4 : Int) (a0_5 : Int) (l0_6 : List (S49)) (l0_7 : List (S49)) (l0_8 : List (S49)) (l0_9 : List (S49)) : Option ((List (List (S49)))) := some (([l0_6, l0_7, l0_8, l0_9] : List (List (S49))))
set_option maxHeartbeats 8000000 in
set_option maxRecDepth 100000 in
theorem astrolaberef17_Pieces.calls (A0_0 : Option Addr) (c0_0 : Nat) (l0_0 : List Int) (A0_1 : Option Addr) (c0_1 : Nat) (l0_1 : List Int) (A0_2 : Option Addr) (c0_2 : Nat) (l0_2 : List Int) (A0_3 : Option Addr) (c0_3 : Nat) (l0_3 : List Int) (a0_4 : Int) (a0_5 : Int) (P0_6_ : Nat → Prop) (A0_6 : Option Addr) (c0_6 : Nat) (l0_6 : List (S49)) (P0_7_ : Nat → Prop) (A0_7 : Option Addr) (c0_7 : Nat) (l0_7 : List (S49)) (P0_8_ : Nat → Prop) (A0_8 : Option Addr) (c0_8 : Nat) (l0_8 : List (S49)) (P0_9_ : Nat → Prop) (A0_9 : Option Addr) (c0_9 : Nat) (l0_9 : List (S49)) (r : List (List (S49))) (w : World) (hr0_0 : Kd.C (Kd.int .i64) w A0_0 l0_0.length l0_0) (hc0_0 : l0_0.length ≤ c0_0) (hr0_1 : Kd.C (Kd.int .i64) w A0_1 l0_1.length l0_1) (hc0_1 : l0_1.length ≤ c0_1) (hr0_2 : Kd.C (Kd.int .i64) w A0_2 l0_2.length l0_2) (hc0_2 : l0_2.length ≤ c0_2) (hr0_3 : Kd.C (Kd.int .i64) w A0_3 l0_3.length l0_3) (hc0_3 : l0_3.length ≤ c0_3) (hs0_6 : Kd.V k49 49 w w.heap.size (fun k_ => P0_6_ k_) (.slice A0_6 l0_6.length c0_6) l0_6) (hs0_7 : Kd.V k49 49 w w.heap.size (fun k_ => P0_7_ k_) (.slice A0_7 l0_7.length c0_7) l0_7) (hs0_8 : Kd.V k49 49 w w.heap.size (fun k_ => P0_8_ k_) (.slice A0_8 l0_8.length c0_8) l0_8) (hs0_9 : Kd.V k49 49 w w.heap.size (fun k_ => P0_9_ k_) (.slice A0_9 l0_9.length c0_9) l0_9) (h : astrolaberef17_Pieces.f l0_0 l0_1 l0_2 l0_3 a0_4 a0_5 l0_6 l0_7 l0_8 l0_9 = some r) :
 Calls Tryz.prog 61 #[.agg #[.slice A0_0 l0_0.length c0_0, .slice A0_1 l0_1.length c0_1, .slice A0_2 l0_2.length c0_2, .slice A0_3 l0_3.length c0_3, .int .i64 a0_4, .int .i64 a0_5, .slice A0_6 l0_6.length c0_6, .slice A0_7 l0_7.length c0_7, .slice A0_8 l0_8.length c0_8, .slice A0_9 l0_9.length c0_9]] w fun e w' => ∃ v0_ : Value, e = .returned (v0_) ∧ Kd.N (Kd.slice 49 k49) 24 w' w.heap.size (fun k_ => ((P0_6_ k_ ∨ P0_7_ k_ ∨ P0_8_ k_ ∨ P0_9_ k_) ∨ w.heap.size ≤ k_)) v0_ r ∧ Below w.heap.size w w' := by
 have hu26 := Tryz.underlying26
 have HR0_0 := Aside0.mk hr0_0
 have HC0_0 := Aside0.mk hc0_0
 clear hr0_0 hc0_0
 have HR0_1 := Aside0.mk hr0_1
 have HC0_1 := Aside0.mk hc0_1
 clear hr0_1 hc0_1
 have HR0_2 := Aside0.mk hr0_2
 have HC0_2 := Aside0.mk hc0_2
 clear hr0_2 hc0_2
 have HR0_3 := Aside0.mk hr0_3
 have HC0_3 := Aside0.mk hc0_3
 clear hr0_3 hc0_3
 have HO0_6 := Aside0.mk (show Kd.V k49 49 w w.heap.size (fun k_ => ((P0_6_ k_ ∨ P0_7_ k_ ∨ P0_8_ k_ ∨ P0_9_ k_) ∨ w.heap.size ≤ k_)) (.slice A0_6 l0_6.length c0_6) l0_6 from Kd.V_mono hs0_6 (fun k_ hk => .inl (.inl hk)))
 have HO0_7 := Aside0.mk (show Kd.V k49 49 w w.heap.size (fun k_ => ((P0_6_ k_ ∨ P0_7_ k_ ∨ P0_8_ k_ ∨ P0_9_ k_) ∨ w.heap.size ≤ k_)) (.slice A0_7 l0_7.length c0_7) l0_7 from Kd.V_mono hs0_7 (fun k_ hk => .inl (.inr (.inl hk))))
 have HO0_8 := Aside0.mk (show Kd.V k49 49 w w.heap.size (fun k_ => ((P0_6_ k_ ∨ P0_7_ k_ ∨ P0_8_ k_ ∨ P0_9_ k_) ∨ w.heap.size ≤ k_)) (.slice A0_8 l0_8.length c0_8) l0_8 from Kd.V_mono hs0_8 (fun k_ hk => .inl (.inr (.inr (.inl hk)))))
 have HO0_9 := Aside0.mk (show Kd.V k49 49 w w.heap.size (fun k_ => ((P0_6_ k_ ∨ P0_7_ k_ ∨ P0_8_ k_ ∨ P0_9_ k_) ∨ w.heap.size ≤ k_)) (.slice A0_9 l0_9.length c0_9) l0_9 from Kd.V_mono hs0_9 (fun k_ hk => .inl (.inr (.inr (.inr hk)))))
 have HB := Aside0.mk (Below.refl w.heap.size w)
 have H : (some (([l0_6, l0_7, l0_8, l0_9] : List (List (S49))))) = some r := h
 clear h
 obtain ⟨y102, hy102⟩ : ∃ y_ : List (List (S49)), y_ = (([l0_6, l0_7, l0_8, l0_9] : List (List (S49)))) := ⟨_, rfl⟩
 replace H : (some y102) = some r := by first | (rw [hy102]; with_reducible exact H) | (have H2_ := (Option.bind_some _ _).symm.trans H; rw [hy102]; with_reducible exact H2_) | (have H2_ := (Option.bind_some _ _).symm.trans H; with_reducible exact H2_) | with_reducible exact H | (rw [hy102]; exact H) | exact H
 have Ny102 := Aside0.mk hy102
 clear hy102
 obtain rfl := Option.some.inj H
 go_enter Tryz.func61, Tryz.ntmps61
 go_wp2_with (first | ((with_reducible refine gate_dst (N := 1) rfl ?_); refine box_event ?hg (N := 1) ?hd (cs := #[.slice A0_0 l0_0.length c0_0, .slice A0_1 l0_1.length c0_1, .slice A0_2 l0_2.length c0_2, .slice A0_3 l0_3.length c0_3, .int .i64 a0_4, .int .i64 a0_5, .slice A0_6 l0_6.length c0_6, .slice A0_7 l0_7.length c0_7, .slice A0_8 l0_8.length c0_8, .slice A0_9 l0_9.length c0_9]) (t := 26) ?hr ?_; (case hd => rfl); (case hg => rfl); (case hr => first | (go_simp; done) | (go_simp; rfl)); intro gb101 hg w2 hbox hb; have n0_ := Aside0.mk (Kd.V_below (Kd.V_elderB (by (with_reducible repeat (first | apply Kd.V_alloc | apply Kd.V_drewN | apply Kd.V_drew)); exact HO0_6.out) gb101 (Nat.le_of_eq hg.symm)) hb); have n1_ := Aside0.mk (Kd.V_below (Kd.V_elderB (by (with_reducible repeat (first | apply Kd.V_alloc | apply Kd.V_drewN | apply Kd.V_drew)); exact HO0_7.out) gb101 (Nat.le_of_eq hg.symm)) hb); have n2_ := Aside0.mk (Kd.V_below (Kd.V_elderB (by (with_reducible repeat (first | apply Kd.V_alloc | apply Kd.V_drewN | apply Kd.V_drew)); exact HO0_8.out) gb101 (Nat.le_of_eq hg.symm)) hb); have n3_ := Aside0.mk (Kd.V_below (Kd.V_elderB (by (with_reducible repeat (first | apply Kd.V_alloc | apply Kd.V_drewN | apply Kd.V_drew)); exact HO0_9.out) gb101 (Nat.le_of_eq hg.symm)) hb); have n4_ := Aside0.mk (below_step (by repeat (first | (with_reducible first | exact HB.out | apply below_alloc | apply pw_below_drewN | apply below_drew1) | exact HB.out)) hb); have n5_ := Aside0.mk (hbox); have n6_ := Aside0.mk ((by rw [hg]; exact (below_size (by repeat (first | (with_reducible first | exact HB.out | apply below_alloc | apply pw_below_drewN | apply below_drew1) | exact HB.out))) : w.heap.size ≤ gb101)); have n7_ := Aside0.mk ((by rw [hg]; exact (below_size (by repeat (first | (with_reducible first | exact HB.out | apply below_alloc | apply pw_below_drewN | apply below_drew1) | exact HB.out))) : w.heap.size ≤ gb101)); clear HO0_6; clear HO0_7; clear HO0_8; clear HO0_9; clear HB; have HO0_6 := n0_; have HO0_7 := n1_; have HO0_8 := n2_; have HO0_9 := n3_; have HB := n4_; have BK101 := n5_; have GW101 := n6_; have GE101 := n7_; clear n0_ n1_ n2_ n3_ n4_ n5_ n6_ n7_; clear hb hbox hg; have hcz3_0 : w2.cell? ⟨gb101, 0, none⟩ = some (.slice A0_0 l0_0.length c0_0) := (blk_cell BK101.out 0).trans rfl; have hcz3_1 : w2.cell? ⟨gb101, 1, none⟩ = some (.slice A0_1 l0_1.length c0_1) := (blk_cell BK101.out 1).trans rfl; have hcz3_2 : w2.cell? ⟨gb101, 2, none⟩ = some (.slice A0_2 l0_2.length c0_2) := (blk_cell BK101.out 2).trans rfl; have hcz3_3 : w2.cell? ⟨gb101, 3, none⟩ = some (.slice A0_3 l0_3.length c0_3) := (blk_cell BK101.out 3).trans rfl; have hcz3_4 : w2.cell? ⟨gb101, 4, none⟩ = some (.int .i64 a0_4) := (blk_cell BK101.out 4).trans rfl; have hcz3_5 : w2.cell? ⟨gb101, 5, none⟩ = some (.int .i64 a0_5) := (blk_cell BK101.out 5).trans rfl; have hcz3_6 : w2.cell? ⟨gb101, 6, none⟩ = some (.slice A0_6 l0_6.length c0_6) := (blk_cell BK101.out 6).trans rfl; have hcz3_7 : w2.cell? ⟨gb101, 7, none⟩ = some (.slice A0_7 l0_7.length c0_7) := (blk_cell BK101.out 7).trans rfl; have hcz3_8 : w2.cell? ⟨gb101, 8, none⟩ = some (.slice A0_8 l0_8.length c0_8) := (blk_cell BK101.out 8).trans rfl; have hcz3_9 : w2.cell? ⟨gb101, 9, none⟩ = some (.slice A0_9 l0_9.length c0_9) := (blk_cell BK101.out 9).trans rfl) | ((with_reducible refine gate_dst (N := 11) rfl ?_); refine Kd.N_lit (Kd.slice 49 k49) _ 24 ?hg (N' := 11) ?hd (xs := ([l0_6, l0_7, l0_8, l0_9] : List (List (S49)))) (inner := [.slice A0_6 l0_6.length c0_6, .slice A0_7 l0_7.length c0_7, .slice A0_8 l0_8.length c0_8, .slice A0_9 l0_9.length c0_9]) (ok := (fun k_ => ((P0_6_ k_ ∨ P0_7_ k_ ∨ P0_8_ k_ ∨ P0_9_ k_) ∨ w.heap.size ≤ k_) ∧ k_ ≠ gb101)) (okp := (fun k_ => ((P0_6_ k_ ∨ P0_7_ k_ ∨ P0_8_ k_ ∨ P0_9_ k_) ∨ w.heap.size ≤ k_) ∧ k_ ≠ gb101)) ?hr ?hp (fun _ hk => hk) ((show ∀ k_, w2.heap.size ≤ k_ → (fun k_ => ((P0_6_ k_ ∨ P0_7_ k_ ∨ P0_8_ k_ ∨ P0_9_ k_) ∨ w.heap.size ≤ k_) ∧ k_ ≠ gb101) k_ from fun k_ hk => ⟨(.inr (Nat.le_trans (below_size (by repeat (first | (with_reducible first | exact HB.out | apply below_alloc | apply pw_below_drewN | apply below_drew1 | refine below_set ?_ GE101.out) | exact HB.out))) hk)), Kd.freshB (g := gb101) (o := .cells #[.slice A0_0 l0_0.length c0_0, .slice A0_1 l0_1.length c0_1, .slice A0_2 l0_2.length c0_2, .slice A0_3 l0_3.length c0_3, .int .i64 a0_4, .int .i64 a0_5, .slice A0_6 l0_6.length c0_6, .slice A0_7 l0_7.length c0_7, .slice A0_8 l0_8.length c0_8, .slice A0_9 l0_9.length c0_9] 26 (0, 0)) (by (with_reducible repeat (first | refine blk_drewN ?_ _ | refine blk_drew ?_ | refine blk_alloc ?_ _)); exact BK101.out) k_ hk⟩) _ (Nat.le_refl _)) (Below.refl _ _) (Nat.le_refl _) (by simp) ?_; (case hd => rfl); (case hg => rfl); (case hr => first | (go_simp; done) | (go_simp; rfl)); (case hp => exact (Reps.one (show Kd.FK (Kd.slice 49 k49) _ _ l0_6 [.slice A0_6 l0_6.length c0_6] from (Kd.FK_slice_mk (Kd.V_reads' (Kd.V_mono (ok' := (fun k_ => ((P0_6_ k_ ∨ P0_7_ k_ ∨ P0_8_ k_ ∨ P0_9_ k_) ∨ w.heap.size ≤ k_) ∧ k_ ≠ gb101)) (HO0_6.out) (fun k_ hk => ⟨hk.1, hk.2⟩))).2.1 (Kd.V_F (Kd.V_mono (ok' := (fun k_ => ((P0_6_ k_ ∨ P0_7_ k_ ∨ P0_8_ k_ ∨ P0_9_ k_) ∨ w.heap.size ≤ k_) ∧ k_ ≠ gb101)) (HO0_6.out) (fun k_ hk => ⟨hk.1, hk.2⟩))))) (Reps.one (show Kd.FK (Kd.slice 49 k49) _ _ l0_7 [.slice A0_7 l0_7.length c0_7] from (Kd.FK_slice_mk (Kd.V_reads' (Kd.V_mono (ok' := (fun k_ => ((P0_6_ k_ ∨ P0_7_ k_ ∨ P0_8_ k_ ∨ P0_9_ k_) ∨ w.heap.size ≤ k_) ∧ k_ ≠ gb101)) (HO0_7.out) (fun k_ hk => ⟨hk.1, hk.2⟩))).2.1 (Kd.V_F (Kd.V_mono (ok' := (fun k_ => ((P0_6_ k_ ∨ P0_7_ k_ ∨ P0_8_ k_ ∨ P0_9_ k_) ∨ w.heap.size ≤ k_) ∧ k_ ≠ gb101)) (HO0_7.out) (fun k_ hk => ⟨hk.1, hk.2⟩))))) (Reps.one (show Kd.FK (Kd.slice 49 k49) _ _ l0_8 [.slice A0_8 l0_8.length c0_8] from (Kd.FK_slice_mk (Kd.V_reads' (Kd.V_mono (ok' := (fun k_ => ((P0_6_ k_ ∨ P0_7_ k_ ∨ P0_8_ k_ ∨ P0_9_ k_) ∨ w.heap.size ≤ k_) ∧ k_ ≠ gb101)) (HO0_8.out) (fun k_ hk => ⟨hk.1, hk.2⟩))).2.1 (Kd.V_F (Kd.V_mono (ok' := (fun k_ => ((P0_6_ k_ ∨ P0_7_ k_ ∨ P0_8_ k_ ∨ P0_9_ k_) ∨ w.heap.size ≤ k_) ∧ k_ ≠ gb101)) (HO0_8.out) (fun k_ hk => ⟨hk.1, hk.2⟩))))) (Reps.one (show Kd.FK (Kd.slice 49 k49) _ _ l0_9 [.slice A0_9 l0_9.length c0_9] from (Kd.FK_slice_mk (Kd.V_reads' (Kd.V_mono (ok' := (fun k_ => ((P0_6_ k_ ∨ P0_7_ k_ ∨ P0_8_ k_ ∨ P0_9_ k_) ∨ w.heap.size ≤ k_) ∧ k_ ≠ gb101)) (HO0_9.out) (fun k_ hk => ⟨hk.1, hk.2⟩))).2.1 (Kd.V_F (Kd.V_mono (ok' := (fun k_ => ((P0_6_ k_ ∨ P0_7_ k_ ∨ P0_8_ k_ ∨ P0_9_ k_) ∨ w.heap.size ≤ k_) ∧ k_ ≠ gb101)) (HO0_9.out) (fun k_ hk => ⟨hk.1, hk.2⟩))))) (Reps.none _ _)))))); intro v103 w4 ho5 hb hg_ hnew_; clear hg_ hnew_; (first | rw [← Ny102.out] at ho5 | (simp only [Int.reduceToNat] at ho5; rw [← Ny102.out] at ho5)); have n0_ := Aside0.mk (Kd.V_elder' (by (with_reducible repeat (first | apply Kd.V_alloc | apply Kd.V_drewN | apply Kd.V_drew)); exact HO0_6.out) (Kd.N_base ho5) hb); have n1_ := Aside0.mk (Kd.V_elder' (by (with_reducible repeat (first | apply Kd.V_alloc | apply Kd.V_drewN | apply Kd.V_drew)); exact HO0_7.out) (Kd.N_base ho5) hb); have n2_ := Aside0.mk (Kd.V_elder' (by (with_reducible repeat (first | apply Kd.V_alloc | apply Kd.V_drewN | apply Kd.V_drew)); exact HO0_8.out) (Kd.N_base ho5) hb); have n3_ := Aside0.mk (Kd.V_elder' (by (with_reducible repeat (first | apply Kd.V_alloc | apply Kd.V_drewN | apply Kd.V_drew)); exact HO0_9.out) (Kd.N_base ho5) hb); have n4_ := Aside0.mk (Kd.N_lower ho5 (below_size (by repeat (first | (with_reducible first | exact HB.out | apply below_alloc | apply pw_below_drewN | apply below_drew1 | refine below_set ?_ GE101.out) | exact HB.out)))); have n5_ := Aside0.mk (blk_below (g := gb101) (o := .cells #[.slice A0_0 l0_0.length c0_0, .slice A0_1 l0_1.length c0_1, .slice A0_2 l0_2.length c0_2, .slice A0_3 l0_3.length c0_3, .int .i64 a0_4, .int .i64 a0_5, .slice A0_6 l0_6.length c0_6, .slice A0_7 l0_7.length c0_7, .slice A0_8 l0_8.length c0_8, .slice A0_9 l0_9.length c0_9] 26 (0, 0)) (by (with_reducible repeat (first | refine blk_drewN ?_ _ | refine blk_drew ?_ | refine blk_alloc ?_ _)); exact BK101.out) hb); have n6_ := Aside0.mk (below_step (by repeat (first | (with_reducible first | exact HB.out | apply below_alloc | apply pw_below_drewN | apply below_drew1 | refine below_set ?_ GE101.out) | exact HB.out)) hb); clear HO0_6; clear HO0_7; clear HO0_8; clear HO0_9; clear BK101; clear HB; have HO0_6 := n0_; have HO0_7 := n1_; have HO0_8 := n2_; have HO0_9 := n3_; have HO104 := n4_; have BK101 := n5_; have HB := n6_; clear n0_ n1_ n2_ n3_ n4_ n5_ n6_; clear hb ho5))
 go_ret
 exact ⟨_, by first | rfl | (simp [errW_none, errW_some] <;> rfl) | (simp [*, errW_none, errW_some] <;> rfl), by (with_reducible repeat (first | apply Kd.N_alloc | apply Kd.N_drewN | apply Kd.N_drew)); exact Kd.N_mono HO104.out (fun _ hk => hk.1), by repeat (first | (with_reducible first | exact HB.out | apply below_alloc | apply pw_below_drewN | apply below_drew1 | refine below_set ?_ GE101.out) | exact HB.out)⟩

-- NOT PRINTED: function 101 (astrolaberef17_One)

-- NOT PRINTED: function 62 (astrolaberef17_Wrong)

-- NOT PRINTED: function 22 (astrolaberef17_Right)

end Go.Proofs.YtgalkkolbobmbaaGreat.V
