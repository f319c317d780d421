/- The Go functions verify.Right and verify.Most. -/
import Derived.Test.YtgalkkolbobmbaaGreatVHWrong2
import Derived.Test.YtgalkkolbobmbaaGreatVHContains

namespace Go.Proofs.YtgalkkolbobmbaaGreat.V
set_option linter.unusedVariables false
set_option linter.unusedSimpArgs false
open Go.RowKit Go.Proofs.YtgalkkolbobmbaaGreatW.PrintWords Go.Proofs.YtgalkkolbobmbaaGreatW.PrintLast Go.Proofs.YtgalkkolbobmbaaGreatW.PrintMore

def four {α : Type} (a b c d : α) : Nat → α
 | 0 => a
 | 1 => b
 | 2 => c
 | _ => d
/-- The first k of five numbers are below a most. -/
def bankN (a b c d e : Int) : Nat → Int
 | 0 => a
 | 1 => b
 | 2 => c
 | 3 => d
 | _ => e
def banksB (a b c d e : Int) : Bool := belowB a 201 && (belowB b 201 && (belowB c 201 && (belowB d 201 && belowB e 201)))
def longB (a b c d : Int) : Bool := decide (a ≤ 4000) && (decide (b ≤ 4000) && (decide (c ≤ 4000) && decide (d ≤ 4000)))
def rightO (l0_0 l0_1 l0_2 l0_3 : List Int) (a0_4 a0_5 : Int) (l0_6 l0_7 l0_8 l0_9 : List S49) : Bool :=
 !(l0_0.any kindB) && (!(l0_1.any kindB) && (belowB a0_5 4 && (banksB l0_0.length l0_1.length l0_2.length l0_3.length a0_4 && (longB l0_6.length l0_7.length l0_8.length l0_9.length && (wrongPs (rightB l0_0.length l0_1.length l0_2.length l0_3.length a0_4) (four l0_6 l0_7 l0_8 l0_9) 4).isEmpty))))
def verify_Right.f (l0_0 l0_1 l0_2 l0_3 : List Int) (a0_4 a0_5 : Int) (l0_6 l0_7 l0_8 l0_9 : List S49) : Option Bool := some (rightO l0_0 l0_1 l0_2 l0_3 a0_4 a0_5 l0_6 l0_7 l0_8 l0_9)
def verify_Wrong.f (l0_0 l0_1 l0_2 l0_3 : List Int) (a0_4 _a0_5 : Int) (l0_6 l0_7 l0_8 l0_9 : List S49) : Option (Int × Int × Bool) :=
 some (match wrongPs (rightB l0_0.length l0_1.length l0_2.length l0_3.length a0_4) (four l0_6 l0_7 l0_8 l0_9) 4 with | [] => (0, 0, false) | x :: _ => (x.1, x.2, true))
theorem verify_Wrong.calls (A0_0 : Option Addr) (c0_0 : Nat) (l0_0 : List Int) (A0_1 : Option Addr) (c0_1 : Nat) (l0_1 : List Int) (A0_2 : Option Addr) (c0_2 : Nat) (l0_2 : List Int) (A0_3 : Option Addr) (c0_3 : Nat) (l0_3 : List Int) (a0_4 : Int) (a0_5 : Int) (A0_6 : Option Addr) (c0_6 : Nat) (l0_6 : List (S49)) (A0_7 : Option Addr) (c0_7 : Nat) (l0_7 : List (S49)) (A0_8 : Option Addr) (c0_8 : Nat) (l0_8 : List (S49)) (A0_9 : Option Addr) (c0_9 : Nat) (l0_9 : List (S49)) (r1 r2 : Int) (r3 : Bool) (w : World)
 (hr0_0 : Kd.C (Kd.int .i64) w A0_0 l0_0.length l0_0) (hc0_0 : l0_0.length ≤ c0_0) (hr0_1 : Kd.C (Kd.int .i64) w A0_1 l0_1.length l0_1) (hc0_1 : l0_1.length ≤ c0_1) (hr0_2 : Kd.C (Kd.int .i64) w A0_2 l0_2.length l0_2) (hc0_2 : l0_2.length ≤ c0_2) (hr0_3 : Kd.C (Kd.int .i64) w A0_3 l0_3.length l0_3) (hc0_3 : l0_3.length ≤ c0_3)
 (hr0_6 : Kd.C k49 w A0_6 l0_6.length l0_6) (hc0_6 : l0_6.length ≤ c0_6) (hr0_7 : Kd.C k49 w A0_7 l0_7.length l0_7) (hc0_7 : l0_7.length ≤ c0_7) (hr0_8 : Kd.C k49 w A0_8 l0_8.length l0_8) (hc0_8 : l0_8.length ≤ c0_8) (hr0_9 : Kd.C k49 w A0_9 l0_9.length l0_9) (hc0_9 : l0_9.length ≤ c0_9)
 (h : verify_Wrong.f l0_0 l0_1 l0_2 l0_3 a0_4 a0_5 l0_6 l0_7 l0_8 l0_9 = some (r1, r2, r3)) :
 Calls Tryz.prog 106 #[.agg #[.slice A0_0 l0_0.length c0_0, .slice A0_1 l0_1.length c0_1, .slice A0_2 l0_2.length c0_2, .slice A0_3 l0_3.length c0_3, .int .i64 a0_4, .int .i64 a0_5, .slice A0_6 l0_6.length c0_6, .slice A0_7 l0_7.length c0_7, .slice A0_8 l0_8.length c0_8, .slice A0_9 l0_9.length c0_9]] w fun e w' => e = .returned (.tuple #[.int .i64 r1, .int .i64 r2, .bool r3]) ∧ Below w.heap.size w w' := by
 refine (Wrong_any A0_0 A0_1 A0_2 A0_3 l0_0.length c0_0 l0_1.length c0_1 l0_2.length c0_2 l0_3.length c0_3 a0_4 a0_5 (four A0_6 A0_7 A0_8 A0_9) (four c0_6 c0_7 c0_8 c0_9) (four l0_6 l0_7 l0_8 l0_9) w ?_ ?_).mono ?_
 · intro k hk W' hW'
   rcases (by omega : k = 0 ∨ k = 1 ∨ k = 2 ∨ k = 3) with rfl | rfl | rfl | rfl
   · exact Kd.C_below hr0_6 hW'
   · exact Kd.C_below hr0_7 hW'
   · exact Kd.C_below hr0_8 hW'
   · exact Kd.C_below hr0_9 hW'
 · intro k hk
   rcases (by omega : k = 0 ∨ k = 1 ∨ k = 2 ∨ k = 3) with rfl | rfl | rfl | rfl
   · exact hc0_6
   · exact hc0_7
   · exact hc0_8
   · exact hc0_9
 · rintro e W' ⟨rfl, hB⟩
   refine ⟨?_, hB⟩
   have h' := Option.some.inj h
   unfold wrongRes
   split at h' <;> (rename_i heq; rw [heq]; cases h'; rfl)

set_option maxHeartbeats 4000000 in
set_option maxRecDepth 100000 in
theorem verify_Right.calls (A0_0 : Option Addr) (c0_0 : Nat) (l0_0 : List Int) (A0_1 : Option Addr) (c0_1 : Nat) (l0_1 : List Int) (A0_2 : Option Addr) (c0_2 : Nat) (l0_2 : List Int) (A0_3 : Option Addr) (c0_3 : Nat) (l0_3 : List Int) (a0_4 : Int) (a0_5 : Int) (A0_6 : Option Addr) (c0_6 : Nat) (l0_6 : List (S49)) (A0_7 : Option Addr) (c0_7 : Nat) (l0_7 : List (S49)) (A0_8 : Option Addr) (c0_8 : Nat) (l0_8 : List (S49)) (A0_9 : Option Addr) (c0_9 : Nat) (l0_9 : List (S49)) (r : Bool) (w : World)
 (hr0_0 : Kd.C (Kd.int .i64) w A0_0 l0_0.length l0_0) (hc0_0 : l0_0.length ≤ c0_0) (hr0_1 : Kd.C (Kd.int .i64) w A0_1 l0_1.length l0_1) (hc0_1 : l0_1.length ≤ c0_1) (hr0_2 : Kd.C (Kd.int .i64) w A0_2 l0_2.length l0_2) (hc0_2 : l0_2.length ≤ c0_2) (hr0_3 : Kd.C (Kd.int .i64) w A0_3 l0_3.length l0_3) (hc0_3 : l0_3.length ≤ c0_3)
 (hr0_6 : Kd.C k49 w A0_6 l0_6.length l0_6) (hc0_6 : l0_6.length ≤ c0_6) (hr0_7 : Kd.C k49 w A0_7 l0_7.length l0_7) (hc0_7 : l0_7.length ≤ c0_7) (hr0_8 : Kd.C k49 w A0_8 l0_8.length l0_8) (hc0_8 : l0_8.length ≤ c0_8) (hr0_9 : Kd.C k49 w A0_9 l0_9.length l0_9) (hc0_9 : l0_9.length ≤ c0_9)
 (h : verify_Right.f l0_0 l0_1 l0_2 l0_3 a0_4 a0_5 l0_6 l0_7 l0_8 l0_9 = some r) :
 Calls Tryz.prog 63 #[.agg #[.slice A0_0 l0_0.length c0_0, .slice A0_1 l0_1.length c0_1, .slice A0_2 l0_2.length c0_2, .slice A0_3 l0_3.length c0_3, .int .i64 a0_4, .int .i64 a0_5, .slice A0_6 l0_6.length c0_6, .slice A0_7 l0_7.length c0_7, .slice A0_8 l0_8.length c0_8, .slice A0_9 l0_9.length c0_9]] w fun e w' => e = .returned (.bool r) ∧ Below w.heap.size w w' := by
 have h' : rightO l0_0 l0_1 l0_2 l0_3 a0_4 a0_5 l0_6 l0_7 l0_8 l0_9 = r := Option.some.inj h
 have HRR := Aside0.mk h'
 clear h h'
 have HC0 := Aside0.mk (And.intro hr0_0 hc0_0)
 have HC1 := Aside0.mk (And.intro hr0_1 hc0_1)
 have HPC := Aside0.mk (And.intro (And.intro hr0_6 hc0_6) (And.intro (And.intro hr0_7 hc0_7) (And.intro (And.intro hr0_8 hc0_8) (And.intro hr0_9 hc0_9))))
 have HWR := Aside0.mk (fun (r1 r2 : Int) (r3 : Bool) (W : World) (hW : Below w.heap.size w W) (hh : verify_Wrong.f l0_0 l0_1 l0_2 l0_3 a0_4 a0_5 l0_6 l0_7 l0_8 l0_9 = some (r1, r2, r3)) => verify_Wrong.calls A0_0 c0_0 l0_0 A0_1 c0_1 l0_1 A0_2 c0_2 l0_2 A0_3 c0_3 l0_3 a0_4 a0_5 A0_6 c0_6 l0_6 A0_7 c0_7 l0_7 A0_8 c0_8 l0_8 A0_9 c0_9 l0_9 r1 r2 r3 W (Kd.C_below hr0_0 hW) hc0_0 (Kd.C_below hr0_1 hW) hc0_1 (Kd.C_below hr0_2 hW) hc0_2 (Kd.C_below hr0_3 hW) hc0_3 (Kd.C_below hr0_6 hW) hc0_6 (Kd.C_below hr0_7 hW) hc0_7 (Kd.C_below hr0_8 hW) hc0_8 (Kd.C_below hr0_9 hW) hc0_9 hh)
 clear hr0_0 hc0_0 hr0_1 hc0_1 hr0_2 hc0_2 hr0_3 hc0_3 hr0_6 hc0_6 hr0_7 hc0_7 hr0_8 hc0_8 hr0_9 hc0_9
 obtain ⟨b0, hb0⟩ : ∃ b, l0_0.any kindB = b := ⟨_, rfl⟩
 obtain ⟨b1, hb1⟩ : ∃ b, l0_1.any kindB = b := ⟨_, rfl⟩
 obtain ⟨b2, hb2⟩ : ∃ b, belowB a0_5 4 = b := ⟨_, rfl⟩
 have B0 := Aside0.mk hb0
 have B1 := Aside0.mk hb1
 have B2 := Aside0.mk hb2
 clear hb0 hb1 hb2
 cases b0 with
 | true =>
  have E := Aside0.mk (show r = false by rw [← HRR.out, rightO, B0.out]; rfl)
  go_enter Tryz.func63, Tryz.ntmps63
  go_wp2_with fail
  refine (containsKind_any A0_0 c0_0 l0_0 _ (Kd.C_below HC0.out.1 ((Below.refl _ _).alloc (Nat.le_refl _) _)) HC0.out.2).mono ?_
  rintro e w' ⟨rfl, rfl⟩
  rw [B0.out]
  go_wp2
  go_ret
  exact ⟨by rw [E.out]; rfl, (Below.refl _ _).alloc (Nat.le_refl _) _⟩
 | false =>
  cases b1 with
  | true =>
   have E := Aside0.mk (show r = false by rw [← HRR.out, rightO, B0.out, B1.out]; rfl)
   go_enter Tryz.func63, Tryz.ntmps63
   go_wp2_with fail
   refine (containsKind_any A0_0 c0_0 l0_0 _ (Kd.C_below HC0.out.1 ((Below.refl _ _).alloc (Nat.le_refl _) _)) HC0.out.2).mono ?_
   rintro e w' ⟨rfl, rfl⟩
   rw [B0.out]
   go_wp2_with fail
   refine (containsKind_any A0_1 c0_1 l0_1 _ (Kd.C_below HC1.out.1 ((Below.refl _ _).alloc (Nat.le_refl _) _)) HC1.out.2).mono ?_
   rintro e w' ⟨rfl, rfl⟩
   rw [B1.out]
   go_wp2
   go_ret
   exact ⟨by rw [E.out]; rfl, (Below.refl _ _).alloc (Nat.le_refl _) _⟩
  | false =>
   cases b2 with
   | false =>
    have E := Aside0.mk (show r = false by rw [← HRR.out, rightO, B0.out, B1.out, B2.out]; rfl)
    go_enter Tryz.func63, Tryz.ntmps63
    go_wp2_with fail
    refine (containsKind_any A0_0 c0_0 l0_0 _ (Kd.C_below HC0.out.1 ((Below.refl _ _).alloc (Nat.le_refl _) _)) HC0.out.2).mono ?_
    rintro e w' ⟨rfl, rfl⟩
    rw [B0.out]
    go_wp2_with fail
    refine (containsKind_any A0_1 c0_1 l0_1 _ (Kd.C_below HC1.out.1 ((Below.refl _ _).alloc (Nat.le_refl _) _)) HC1.out.2).mono ?_
    rintro e w' ⟨rfl, rfl⟩
    rw [B1.out]
    go_wp2_with fail
    refine (below_any a0_5 4 _).mono ?_
    rintro e w' ⟨rfl, rfl⟩
    rw [B2.out]
    go_wp2
    go_ret
    exact ⟨by rw [E.out]; rfl, (Below.refl _ _).alloc (Nat.le_refl _) _⟩
   | true =>
    have E := Aside0.mk (show r = (banksB l0_0.length l0_1.length l0_2.length l0_3.length a0_4 && (longB l0_6.length l0_7.length l0_8.length l0_9.length && (wrongPs (rightB l0_0.length l0_1.length l0_2.length l0_3.length a0_4) (four l0_6 l0_7 l0_8 l0_9) 4).isEmpty)) by rw [← HRR.out, rightO, B0.out, B1.out, B2.out]; rfl)
    clear HRR
    go_enter Tryz.func63, Tryz.ntmps63
    go_wp2_with fail
    refine (containsKind_any A0_0 c0_0 l0_0 _ (Kd.C_below HC0.out.1 ((Below.refl _ _).alloc (Nat.le_refl _) _)) HC0.out.2).mono ?_
    rintro e w' ⟨rfl, rfl⟩
    rw [B0.out]
    go_wp2_with fail
    refine (containsKind_any A0_1 c0_1 l0_1 _ (Kd.C_below HC1.out.1 ((Below.refl _ _).alloc (Nat.le_refl _) _)) HC1.out.2).mono ?_
    rintro e w' ⟨rfl, rfl⟩
    rw [B1.out]
    go_wp2_with fail
    refine (below_any a0_5 4 _).mono ?_
    rintro e w' ⟨rfl, rfl⟩
    rw [B2.out]
    go_wp2_with fail
    obtain ⟨W2, hW2⟩ : ∃ W2, W2 = (w.alloc (Obj.cells #[.slice A0_0 l0_0.length c0_0, .slice A0_1 l0_1.length c0_1, .slice A0_2 l0_2.length c0_2, .slice A0_3 l0_3.length c0_3, .int .i64 a0_4, .int .i64 a0_5, .slice A0_6 l0_6.length c0_6, .slice A0_7 l0_7.length c0_7, .slice A0_8 l0_8.length c0_8, .slice A0_9 l0_9.length c0_9] 26)).alloc (Obj.cells #[.int .i64 l0_0.length, .int .i64 l0_1.length, .int .i64 l0_2.length, .int .i64 l0_3.length, .int .i64 a0_4] 3) := ⟨_, rfl⟩
    have HB2 := Aside0.mk (show Below w.heap.size w W2 by rw [hW2]; exact ((Below.refl _ _).alloc (Nat.le_refl _) _).alloc (by simp) _)
    have HO2 := Aside0.mk (show W2.heap[w.heap.size]? = some (.cells #[.slice A0_0 l0_0.length c0_0, .slice A0_1 l0_1.length c0_1, .slice A0_2 l0_2.length c0_2, .slice A0_3 l0_3.length c0_3, .int .i64 a0_4, .int .i64 a0_5, .slice A0_6 l0_6.length c0_6, .slice A0_7 l0_7.length c0_7, .slice A0_8 l0_8.length c0_8, .slice A0_9 l0_9.length c0_9] 26 (0, 0)) by rw [hW2]; exact blk_elder (blk_fresh _ _) _)
    have hS2 : W2.heap[w.heap.size + 1]? = some (.cells #[.int .i64 l0_0.length, .int .i64 l0_1.length, .int .i64 l0_2.length, .int .i64 l0_3.length, .int .i64 a0_4] 3 (0, 0)) := by rw [hW2]; have := blk_fresh (w.alloc (Obj.cells #[.slice A0_0 l0_0.length c0_0, .slice A0_1 l0_1.length c0_1, .slice A0_2 l0_2.length c0_2, .slice A0_3 l0_3.length c0_3, .int .i64 a0_4, .int .i64 a0_5, .slice A0_6 l0_6.length c0_6, .slice A0_7 l0_7.length c0_7, .slice A0_8 l0_8.length c0_8, .slice A0_9 l0_9.length c0_9] 26)) (Obj.cells #[.int .i64 l0_0.length, .int .i64 l0_1.length, .int .i64 l0_2.length, .int .i64 l0_3.length, .int .i64 a0_4] 3); simpa using this
    rw [← hW2]
    clear hW2
    have q0 := cell_of_row W2 (w.heap.size + 1) 0 _ _ _ hS2
    have q1 := cell_of_row W2 (w.heap.size + 1) 1 _ _ _ hS2
    have q2 := cell_of_row W2 (w.heap.size + 1) 2 _ _ _ hS2
    have q3 := cell_of_row W2 (w.heap.size + 1) 3 _ _ _ hS2
    have q4 := cell_of_row W2 (w.heap.size + 1) 4 _ _ _ hS2
    simp only [List.getElem?_toArray, List.getElem?_cons_zero, List.getElem?_cons_succ] at q0 q1 q2 q3 q4
    clear hS2
    obtain ⟨bk, hbk⟩ : ∃ b, banksB l0_0.length l0_1.length l0_2.length l0_3.length a0_4 = b := ⟨_, rfl⟩
    rw [hbk] at E
    have HBK := Aside0.mk hbk
    clear hbk
    go_loopw [43, 5] (fun i _ wr => ∃ (k : Int), 0 ≤ k ∧ k ≤ 5 ∧ i = .int .i64 k ∧ wr = W2 ∧ Aside0 (∀ j : Nat, (j : Int) < k → belowB (bankN l0_0.length l0_1.length l0_2.length l0_3.length a0_4 j) 201 = true)) (fun i _ _ => 5 - (intOf i).toNat)
    case atStart => exact ⟨0, by omega, by omega, rfl, rfl, ⟨fun j hj => absurd hj (by omega)⟩⟩
    case round =>
     obtain ⟨k, hk0, hk, rfl, rfl, HP⟩ := hrel
     rcases (by omega : k = 0 ∨ k = 1 ∨ k = 2 ∨ k = 3 ∨ k = 4 ∨ k = 5) with rfl | rfl | rfl | rfl | rfl | rfl
     · obtain ⟨bb, hbb⟩ : ∃ b, belowB (l0_0.length : Int) 201 = b := ⟨_, rfl⟩
       have HBB := Aside0.mk hbb
       clear hbb
       cases bb with
       | true =>
        go_wp2_with fail
        refine (below_any (l0_0.length : Int) 201 _).mono ?_
        rintro e w' ⟨rfl, rfl⟩
        rw [HBB.out]
        go_wp2
        go_roundw
        case rel => exact ⟨1, by omega, by omega, by go_num, by trivial, ⟨fun j hj => by
         by_cases hj2 : j = 0
         · subst hj2; exact HBB.out
         · exact HP.out j (by omega)⟩⟩
        case measure => simp [intOf]
       | false =>
        have E2 := Aside0.mk (show r = false by
         rw [E.out, ← HBK.out]
         have := HBB.out
         simp [banksB, this])
        go_wp2_with fail
        refine (below_any (l0_0.length : Int) 201 _).mono ?_
        rintro e w' ⟨rfl, rfl⟩
        rw [HBB.out]
        go_wp2
        go_ret
        exact ⟨by rw [E2.out]; rfl, HB2.out⟩
     · obtain ⟨bb, hbb⟩ : ∃ b, belowB (l0_1.length : Int) 201 = b := ⟨_, rfl⟩
       have HBB := Aside0.mk hbb
       clear hbb
       cases bb with
       | true =>
        go_wp2_with fail
        refine (below_any (l0_1.length : Int) 201 _).mono ?_
        rintro e w' ⟨rfl, rfl⟩
        rw [HBB.out]
        go_wp2
        go_roundw
        case rel => exact ⟨2, by omega, by omega, by go_num, by trivial, ⟨fun j hj => by
         by_cases hj2 : j = 1
         · subst hj2; exact HBB.out
         · exact HP.out j (by omega)⟩⟩
        case measure => simp [intOf]
       | false =>
        have E2 := Aside0.mk (show r = false by
         rw [E.out, ← HBK.out]
         have := HBB.out
         simp [banksB, this])
        go_wp2_with fail
        refine (below_any (l0_1.length : Int) 201 _).mono ?_
        rintro e w' ⟨rfl, rfl⟩
        rw [HBB.out]
        go_wp2
        go_ret
        exact ⟨by rw [E2.out]; rfl, HB2.out⟩
     · obtain ⟨bb, hbb⟩ : ∃ b, belowB (l0_2.length : Int) 201 = b := ⟨_, rfl⟩
       have HBB := Aside0.mk hbb
       clear hbb
       cases bb with
       | true =>
        go_wp2_with fail
        refine (below_any (l0_2.length : Int) 201 _).mono ?_
        rintro e w' ⟨rfl, rfl⟩
        rw [HBB.out]
        go_wp2
        go_roundw
        case rel => exact ⟨3, by omega, by omega, by go_num, by trivial, ⟨fun j hj => by
         by_cases hj2 : j = 2
         · subst hj2; exact HBB.out
         · exact HP.out j (by omega)⟩⟩
        case measure => simp [intOf]
       | false =>
        have E2 := Aside0.mk (show r = false by
         rw [E.out, ← HBK.out]
         have := HBB.out
         simp [banksB, this])
        go_wp2_with fail
        refine (below_any (l0_2.length : Int) 201 _).mono ?_
        rintro e w' ⟨rfl, rfl⟩
        rw [HBB.out]
        go_wp2
        go_ret
        exact ⟨by rw [E2.out]; rfl, HB2.out⟩
     · obtain ⟨bb, hbb⟩ : ∃ b, belowB (l0_3.length : Int) 201 = b := ⟨_, rfl⟩
       have HBB := Aside0.mk hbb
       clear hbb
       cases bb with
       | true =>
        go_wp2_with fail
        refine (below_any (l0_3.length : Int) 201 _).mono ?_
        rintro e w' ⟨rfl, rfl⟩
        rw [HBB.out]
        go_wp2
        go_roundw
        case rel => exact ⟨4, by omega, by omega, by go_num, by trivial, ⟨fun j hj => by
         by_cases hj2 : j = 3
         · subst hj2; exact HBB.out
         · exact HP.out j (by omega)⟩⟩
        case measure => simp [intOf]
       | false =>
        have E2 := Aside0.mk (show r = false by
         rw [E.out, ← HBK.out]
         have := HBB.out
         simp [banksB, this])
        go_wp2_with fail
        refine (below_any (l0_3.length : Int) 201 _).mono ?_
        rintro e w' ⟨rfl, rfl⟩
        rw [HBB.out]
        go_wp2
        go_ret
        exact ⟨by rw [E2.out]; rfl, HB2.out⟩
     · obtain ⟨bb, hbb⟩ : ∃ b, belowB a0_4 201 = b := ⟨_, rfl⟩
       have HBB := Aside0.mk hbb
       clear hbb
       cases bb with
       | true =>
        go_wp2_with fail
        refine (below_any a0_4 201 _).mono ?_
        rintro e w' ⟨rfl, rfl⟩
        rw [HBB.out]
        go_wp2
        go_roundw
        case rel => exact ⟨5, by omega, by omega, by go_num, by trivial, ⟨fun j hj => by
         by_cases hj2 : j = 4
         · subst hj2; exact HBB.out
         · exact HP.out j (by omega)⟩⟩
        case measure => simp [intOf]
       | false =>
        have E2 := Aside0.mk (show r = false by
         rw [E.out, ← HBK.out]
         have := HBB.out
         simp [banksB, this])
        go_wp2_with fail
        refine (below_any a0_4 201 _).mono ?_
        rintro e w' ⟨rfl, rfl⟩
        rw [HBB.out]
        go_wp2
        go_ret
        exact ⟨by rw [E2.out]; rfl, HB2.out⟩
     · have hbt : bk = true := by
        rw [← HBK.out]
        have p0 : belowB l0_0.length 201 = true := HP.out 0 (by omega)
        have p1 : belowB l0_1.length 201 = true := HP.out 1 (by omega)
        have p2 : belowB l0_2.length 201 = true := HP.out 2 (by omega)
        have p3 : belowB l0_3.length 201 = true := HP.out 3 (by omega)
        have p4 : belowB a0_4 201 = true := HP.out 4 (by omega)
        simp [banksB, p0, p1, p2, p3, p4]
       have E3 := Aside0.mk (show r = (longB l0_6.length l0_7.length l0_8.length l0_9.length && (wrongPs (rightB l0_0.length l0_1.length l0_2.length l0_3.length a0_4) (four l0_6 l0_7 l0_8 l0_9) 4).isEmpty) by rw [E.out, hbt]; rfl)
       clear hbt HP HBK E q0 q1 q2 q3 q4
       go_wp2_with (first | (refine wpList_load_row rfl 26 _ rfl w.heap.size rfl 26 #[.slice A0_0 l0_0.length c0_0, .slice A0_1 l0_1.length c0_1, .slice A0_2 l0_2.length c0_2, .slice A0_3 l0_3.length c0_3, .int .i64 a0_4, .int .i64 a0_5, .slice A0_6 l0_6.length c0_6, .slice A0_7 l0_7.length c0_7, .slice A0_8 l0_8.length c0_8, .slice A0_9 l0_9.length c0_9] (0, 0) _ HO2.out Tryz.underlying26 rfl (by kernel_rfl) ?_))
       refine (pieces_any _ _ _ _ _ _ _ _ _ _ _ _ _ _ _ _ _ _ _).mono ?_
       rintro e w3 ⟨rfl, hb3⟩
       have HO3 := Aside0.mk (below_heap hb3 HO2.out)
       have HB3 := Aside0.mk (HB2.out.trans (hb3.mono HB2.out.size))
       clear hb3 HO2 HB2
       obtain ⟨lb, hlb⟩ : ∃ b, longB l0_6.length l0_7.length l0_8.length l0_9.length = b := ⟨_, rfl⟩
       obtain ⟨wb, hwb⟩ : ∃ b, wrongPs (rightB l0_0.length l0_1.length l0_2.length l0_3.length a0_4) (four l0_6 l0_7 l0_8 l0_9) 4 = b := ⟨_, rfl⟩
       rw [hlb, hwb] at E3
       have HLB := Aside0.mk hlb
       have HWB := Aside0.mk hwb
       clear hlb hwb
       have hix0 : ∀ (x y z t : Value) (w : World), (Instr.index 193 (.agg #[x, y, z, t]) (.int .i64 0)).run Tryz.prog w = .ok x w := fun _ _ _ _ _ => by kernel_rfl
       have hix1 : ∀ (x y z t : Value) (w : World), (Instr.index 193 (.agg #[x, y, z, t]) (.int .i64 1)).run Tryz.prog w = .ok y w := fun _ _ _ _ _ => by kernel_rfl
       have hix2 : ∀ (x y z t : Value) (w : World), (Instr.index 193 (.agg #[x, y, z, t]) (.int .i64 2)).run Tryz.prog w = .ok z w := fun _ _ _ _ _ => by kernel_rfl
       have hix3 : ∀ (x y z t : Value) (w : World), (Instr.index 193 (.agg #[x, y, z, t]) (.int .i64 3)).run Tryz.prog w = .ok t w := fun _ _ _ _ _ => by kernel_rfl
       go_wp2_with fail
       go_loopw [53, 7] (fun i _ wr => ∃ (k : Int), 0 ≤ k ∧ k ≤ 4 ∧ i = .int .i64 k ∧ wr = w3 ∧ Aside0 (∀ j : Nat, (j : Int) < k → (bankN l0_6.length l0_7.length l0_8.length l0_9.length 0 j) ≤ 4000)) (fun i _ _ => 4 - (intOf i).toNat)
       case atStart => exact ⟨0, by omega, by omega, rfl, rfl, ⟨fun j hj => absurd hj (by omega)⟩⟩
       case round =>
        obtain ⟨k, hk0, hk, rfl, rfl, HP⟩ := hrel
        rcases (by omega : k = 0 ∨ k = 1 ∨ k = 2 ∨ k = 3 ∨ k = 4) with rfl | rfl | rfl | rfl | rfl
        · by_cases hle : (l0_6.length : Int) ≤ 4000
          · have HLE := Aside0.mk hle
            go_wp2
            go_roundw
            case rel => exact ⟨1, by omega, by omega, by go_num, by trivial, ⟨fun j hj => by
             by_cases hj2 : j = 0
             · subst hj2; exact HLE.out
             · exact HP.out j (by omega)⟩⟩
            case measure => simp [intOf]
          · have E4 := Aside0.mk (show r = false by
             rw [E3.out, ← HLB.out]
             simp only [longB, decide_eq_false hle, Bool.false_and, Bool.and_false])
            go_wp2
            go_ret
            exact ⟨by rw [E4.out]; rfl, HB3.out⟩
        · by_cases hle : (l0_7.length : Int) ≤ 4000
          · have HLE := Aside0.mk hle
            go_wp2
            go_roundw
            case rel => exact ⟨2, by omega, by omega, by go_num, by trivial, ⟨fun j hj => by
             by_cases hj2 : j = 1
             · subst hj2; exact HLE.out
             · exact HP.out j (by omega)⟩⟩
            case measure => simp [intOf]
          · have E4 := Aside0.mk (show r = false by
             rw [E3.out, ← HLB.out]
             simp only [longB, decide_eq_false hle, Bool.false_and, Bool.and_false])
            go_wp2
            go_ret
            exact ⟨by rw [E4.out]; rfl, HB3.out⟩
        · by_cases hle : (l0_8.length : Int) ≤ 4000
          · have HLE := Aside0.mk hle
            go_wp2
            go_roundw
            case rel => exact ⟨3, by omega, by omega, by go_num, by trivial, ⟨fun j hj => by
             by_cases hj2 : j = 2
             · subst hj2; exact HLE.out
             · exact HP.out j (by omega)⟩⟩
            case measure => simp [intOf]
          · have E4 := Aside0.mk (show r = false by
             rw [E3.out, ← HLB.out]
             simp only [longB, decide_eq_false hle, Bool.false_and, Bool.and_false])
            go_wp2
            go_ret
            exact ⟨by rw [E4.out]; rfl, HB3.out⟩
        · by_cases hle : (l0_9.length : Int) ≤ 4000
          · have HLE := Aside0.mk hle
            go_wp2
            go_roundw
            case rel => exact ⟨4, by omega, by omega, by go_num, by trivial, ⟨fun j hj => by
             by_cases hj2 : j = 3
             · subst hj2; exact HLE.out
             · exact HP.out j (by omega)⟩⟩
            case measure => simp [intOf]
          · have E4 := Aside0.mk (show r = false by
             rw [E3.out, ← HLB.out]
             simp only [longB, decide_eq_false hle, Bool.false_and, Bool.and_false])
            go_wp2
            go_ret
            exact ⟨by rw [E4.out]; rfl, HB3.out⟩
        · have hbt : lb = true := by
           rw [← HLB.out]
           have p0 : (l0_6.length : Int) ≤ 4000 := HP.out 0 (by omega)
           have p1 : (l0_7.length : Int) ≤ 4000 := HP.out 1 (by omega)
           have p2 : (l0_8.length : Int) ≤ 4000 := HP.out 2 (by omega)
           have p3 : (l0_9.length : Int) ≤ 4000 := HP.out 3 (by omega)
           rw [longB, decide_eq_true p0, decide_eq_true p1, decide_eq_true p2, decide_eq_true p3]; rfl
          have E4 := Aside0.mk (show r = wb.isEmpty by rw [E3.out, hbt]; rfl)
          clear hbt HP HLB E3 hix0 hix1 hix2 hix3
          cases wb with
          | nil =>
           go_wp2_with (first | (refine wpList_load_row rfl 26 _ rfl w.heap.size rfl 26 #[.slice A0_0 l0_0.length c0_0, .slice A0_1 l0_1.length c0_1, .slice A0_2 l0_2.length c0_2, .slice A0_3 l0_3.length c0_3, .int .i64 a0_4, .int .i64 a0_5, .slice A0_6 l0_6.length c0_6, .slice A0_7 l0_7.length c0_7, .slice A0_8 l0_8.length c0_8, .slice A0_9 l0_9.length c0_9] (0, 0) _ HO3.out Tryz.underlying26 rfl (by kernel_rfl) ?_))
           refine (HWR.out 0 0 false _ HB3.out (by rw [verify_Wrong.f, HWB.out])).mono ?_
           rintro e w4 ⟨rfl, hb4⟩
           have HB4 := Aside0.mk (HB3.out.trans (hb4.mono HB3.out.size))
           go_wp2
           go_ret
           exact ⟨by rw [E4.out]; rfl, HB4.out⟩
          | cons x xs =>
           go_wp2_with (first | (refine wpList_load_row rfl 26 _ rfl w.heap.size rfl 26 #[.slice A0_0 l0_0.length c0_0, .slice A0_1 l0_1.length c0_1, .slice A0_2 l0_2.length c0_2, .slice A0_3 l0_3.length c0_3, .int .i64 a0_4, .int .i64 a0_5, .slice A0_6 l0_6.length c0_6, .slice A0_7 l0_7.length c0_7, .slice A0_8 l0_8.length c0_8, .slice A0_9 l0_9.length c0_9] (0, 0) _ HO3.out Tryz.underlying26 rfl (by kernel_rfl) ?_))
           refine (HWR.out x.1 x.2 true _ HB3.out (by rw [verify_Wrong.f, HWB.out])).mono ?_
           rintro e w4 ⟨rfl, hb4⟩
           have HB4 := Aside0.mk (HB3.out.trans (hb4.mono HB3.out.size))
           go_wp2
           go_ret
           exact ⟨by rw [E4.out]; rfl, HB4.out⟩
end Go.Proofs.YtgalkkolbobmbaaGreat.V
