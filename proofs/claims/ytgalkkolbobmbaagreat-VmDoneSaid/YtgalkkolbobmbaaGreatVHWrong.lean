/- The Go function verify.wrong: its iterator hands over the wrong instructions in order. -/
import Derived.RangeFuncNested
import Derived.RangeFuncBound
import Derived.RangeFuncCalls
import Derived.RangeFuncLeaves
import Derived.RangeFuncBox
import Derived.Shelf.Abstract
import Derived.WalkKit
import Derived.OwnWalkIn
import Derived.TacticsInMore
import Derived.LoopNIn
import Derived.LoopIn
import Derived.Test.YtgalkkolbobmbaaGreatVHRight1

namespace Go.Proofs.YtgalkkolbobmbaaGreat.V
open Go.RowKit Go.Shelf Go.Proofs.YtgalkkolbobmbaaGreatW.PrintWords Go.Proofs.YtgalkkolbobmbaaGreatW.PrintLast Go.Proofs.YtgalkkolbobmbaaGreatW.PrintMore
attribute [local go_sem] Oper.semAt_some

/-- The wrong ones of the first n instructions of a piece. -/
def wrongTo (R : Int → S49 → Int → Bool) (piece : Int) (l : List S49) : Nat → List (Int × Int)
 | 0 => []
 | n + 1 => wrongTo R piece l n ++ (if R piece (rd_T49 l (n : Int)) ((l.length : Int) - n - 1) = true then [] else [(piece, (n : Int))])
theorem wrongTo_length (R : Int → S49 → Int → Bool) (piece : Int) (l : List S49) : ∀ n, (wrongTo R piece l n).length ≤ n
 | 0 => Nat.le_refl _
 | n + 1 => by
  have := wrongTo_length R piece l n
  rw [wrongTo, List.length_append]
  split <;> simp <;> omega
/-- The wrong ones of the first k pieces. -/
def wrongPs (R : Int → S49 → Int → Bool) (ps : Nat → List S49) : Nat → List (Int × Int)
 | 0 => []
 | k + 1 => wrongPs R ps k ++ wrongTo R (k : Int) (ps k) (ps k).length
def sumLen (ps : Nat → List S49) : Nat → Nat
 | 0 => 0
 | k + 1 => sumLen ps k + (ps k).length
theorem wrongPs_length (R : Int → S49 → Int → Bool) (ps : Nat → List S49) : ∀ k, (wrongPs R ps k).length ≤ sumLen ps k
 | 0 => Nat.le_refl _
 | k + 1 => by
  have := wrongPs_length R ps k
  have := wrongTo_length R (k : Int) (ps k) (ps k).length
  simp only [wrongPs, sumLen, List.length_append]; omega
theorem wrongTo_prefix (R : Int → S49 → Int → Bool) (piece : Int) (l : List S49) (n : Nat) : ∀ m, wrongTo R piece l n <+: wrongTo R piece l (n + m)
 | 0 => List.prefix_refl _
 | m + 1 => (wrongTo_prefix R piece l n m).trans (List.prefix_append _ _)
theorem wrongPs_prefix (R : Int → S49 → Int → Bool) (ps : Nat → List S49) (n : Nat) : ∀ m, wrongPs R ps n <+: wrongPs R ps (n + m)
 | 0 => List.prefix_refl _
 | m + 1 => (wrongPs_prefix R ps n m).trans (List.prefix_append _ _)
theorem sumLen_le (ps : Nat → List S49) (n : Nat) : ∀ m, sumLen ps n ≤ sumLen ps (n + m)
 | 0 => Nat.le_refl _
 | m + 1 => Nat.le_trans (sumLen_le ps n m) (Nat.le_add_right _ _)
theorem grown_of_below {W W' : World} (h : Below W.heap.size W W') : W.grownBy W' none := ⟨h.os, h.tape, h.output, h.size, fun k hk _ => h.block k hk⟩

set_option maxRecDepth 100000 in
set_option maxHeartbeats 4000000 in
theorem wrong1_in (l Bn n₀ : Nat) (s0 s1 s2 s3 : Option Addr) (n0 c0 n1 c1 n2 c2 n3 c3 : Nat) (cross a5 : Int) (A : Nat → Option Addr) (cp : Nat → Nat) (ps : Nat → List S49) (J Jx : List (Int × Int) → World → Prop)
 (W : World) (hBn : W.heap[Bn]? = some (.cells #[.slice s0 n0 c0, .slice s1 n1 c1, .slice s2 n2 c2, .slice s3 n3 c3, .int .i64 cross, .int .i64 a5, .slice (A 0) (ps 0).length (cp 0), .slice (A 1) (ps 1).length (cp 1), .slice (A 2) (ps 2).length (cp 2), .slice (A 3) (ps 3).length (cp 3)] 26 (0, 0))) (hb : Bn < n₀) (hn₀ : n₀ ≤ W.heap.size)
 (hL : ∀ k, k < 4 → ∀ W', Below n₀ W W' → Kd.C k49 W' (A k) (ps k).length (ps k)) (hc : ∀ k, k < 4 → (ps k).length ≤ cp k)
 (hJ : AbidesFrom W.heap.size J)
 (hY0 : Aside0 (∀ pre x W1, J pre W1 → pre.length < sumLen ps 4 → YieldAt Fence.wide 4 Tryz.prog l #[.int .i64 x.1, .int .i64 x.2] W1 fun e W' =>
  (e = .returned (.bool true) ∧ J (pre ++ [x]) W' ∧ Below n₀ W1 W') ∨ (e = .returned (.bool false) ∧ Jx (pre ++ [x]) W')))
 (h0 : J [] W) :
 CallsIn Fence.wide 5 Tryz.prog 205 #[.func (.yield l) #[] #[], .pointer (some ⟨Bn, 0, none⟩)] W fun e W' => (∃ v, e = .returned v) ∧
  ((∃ ys, ys = wrongPs (rightB n0 n1 n2 n3 cross) ps 4 ∧ J ys W') ∨ (∃ pre, pre <+: wrongPs (rightB n0 n1 n2 n3 cross) ps 4 ∧ Jx pre W')) := by
 have hg : ∀ pre {W1 W2 : World}, J pre W1 → Below W1.heap.size W1 W2 → J pre W2 := fun pre W1 W2 hj hbl => hJ pre W1 W2 none hj (grown_of_below hbl) (fun r e => by cases e)
 have hro : Fence.wide.round = none := rfl
 have hix0 : ∀ (x y z t : Value) (w : World), (Instr.index 193 (.agg #[x, y, z, t]) (.int .i64 0)).run Tryz.prog w = .ok x w := fun _ _ _ _ _ => by kernel_rfl
 have hix1 : ∀ (x y z t : Value) (w : World), (Instr.index 193 (.agg #[x, y, z, t]) (.int .i64 1)).run Tryz.prog w = .ok y w := fun _ _ _ _ _ => by kernel_rfl
 have hix2 : ∀ (x y z t : Value) (w : World), (Instr.index 193 (.agg #[x, y, z, t]) (.int .i64 2)).run Tryz.prog w = .ok z w := fun _ _ _ _ _ => by kernel_rfl
 have hix3 : ∀ (x y z t : Value) (w : World), (Instr.index 193 (.agg #[x, y, z, t]) (.int .i64 3)).run Tryz.prog w = .ok t w := fun _ _ _ _ _ => by kernel_rfl
 have HIX := Aside0.mk (And.intro hix0 (And.intro hix1 (And.intro hix2 hix3)))
 clear hix0 hix1 hix2 hix3
 refine callsIn_of_wp Tryz.func205 rfl trivial ?_ hro
 simp only [Tryz.ntmps205, List.size_toArray, List.length_cons, List.length_nil, Nat.reduceAdd, Nat.reduceSub, Array.replicate_succ, Array.replicate_zero, List.push_toArray, List.append_toArray, List.nil_append, List.cons_append]
 have k0 := cell_of_row W Bn 0 _ _ _ hBn
 have k1 := cell_of_row W Bn 1 _ _ _ hBn
 have k2 := cell_of_row W Bn 2 _ _ _ hBn
 have k3 := cell_of_row W Bn 3 _ _ _ hBn
 have k4 := cell_of_row W Bn 4 _ _ _ hBn
 have k5 := cell_of_row W Bn 5 _ _ _ hBn
 have k6 := cell_of_row W Bn 6 _ _ _ hBn
 have k7 := cell_of_row W Bn 7 _ _ _ hBn
 have k8 := cell_of_row W Bn 8 _ _ _ hBn
 have k9 := cell_of_row W Bn 9 _ _ _ hBn
 simp only [List.getElem?_toArray, List.getElem?_cons_zero, List.getElem?_cons_succ] at k0 k1 k2 k3 k4 k5 k6 k7 k8 k9
 gi_wp2_with (refine ⟨trivial, ?_⟩; gi_at_call 105; refine (callsIn_wide.2 (pieces_any _ _ _ _ _ _ _ _ _ _ _ _ _ _ _ _ _ _ _)).mono ?_; rintro e w1 ⟨rfl, hb1⟩)
 gi_loopw [9] (fun i wr => ∃ k : Nat, k ≤ 4 ∧ i = .int .i64 k ∧ J (wrongPs (rightB n0 n1 n2 n3 cross) ps k) wr ∧ Below n₀ W wr) (fun i _ => 4 - (intOf i).toNat)
 case atStart => exact ⟨0, by omega, rfl, hg _ h0 hb1, hb1.mono hn₀⟩
 case round =>
  clear hb1 h0 k0 k1 k2 k3 k4 k5 k6 k7 k8 k9
  obtain ⟨k, hk, rfl, hJs, hnx⟩ := hrel
  by_cases hlt : k < 4
  · have hix : ∀ w, (Instr.index 193 (.agg #[.slice (A 0) (ps 0).length (cp 0), .slice (A 1) (ps 1).length (cp 1), .slice (A 2) (ps 2).length (cp 2), .slice (A 3) (ps 3).length (cp 3)]) (.int .i64 (k : Int))).run Tryz.prog w = .ok (.slice (A k) (ps k).length (cp k)) w := by
     obtain ⟨i0, i1, i2, i3⟩ := HIX.out
     rcases (by omega : k = 0 ∨ k = 1 ∨ k = 2 ∨ k = 3) with rfl | rfl | rfl | rfl
     · exact fun w => i0 _ _ _ _ w
     · exact fun w => i1 _ _ _ _ w
     · exact fun w => i2 _ _ _ _ w
     · exact fun w => i3 _ _ _ _ w
    have hkc := (hL k hlt _ hnx)
    have hkl : (ps k).length ≤ 9223372036854775807 := hkc.2.1
    have hkcp := hc k hlt
    clear hkc
    obtain ⟨Ak, hAk⟩ : ∃ z, A k = z := ⟨_, rfl⟩
    rw [hAk] at hix
    have HAK := Aside0.mk hAk
    clear hAk
    have HJ0 := Aside0.mk hJs
    have HNX := Aside0.mk hnx
    clear hJs hnx
    have hlt' : (k : Int) < 4 := by omega
    have hltb : decide ((k : Int) < 4) = true := decide_eq_true hlt'
    gi_wp2
    gi_loopw [15] (fun i wr => ∃ n : Nat, n ≤ (ps k).length ∧ i = .int .i64 n ∧ Aside0 (J (wrongPs (rightB n0 n1 n2 n3 cross) ps k ++ wrongTo (rightB n0 n1 n2 n3 cross) k (ps k) n) wr) ∧ Aside0 (Below n₀ W wr)) (fun i _ => (ps k).length - (intOf i).toNat)
    case atStart => exact ⟨0, by omega, rfl, ⟨by simpa [wrongTo] using HJ0.out⟩, HNX⟩
    case round =>
     clear HJ0 HNX hix
     obtain ⟨n, hn, rfl, HJ1, HN1⟩ := hrel
     by_cases hlt2 : n < (ps k).length
     · obtain ⟨ad, e0, c0_0, c0_1, c0_2, c0_3, c0_4, c0_5⟩ := at_T49 (show Kd.C k49 wr Ak (ps k).length (ps k) from by rw [← HAK.out]; exact hL k hlt _ HN1.out) (n : Int) (by omega) (by omega)
       have hBr := Aside0.mk ((HN1.out.block Bn hb).trans hBn)
       have k0 : ∀ o, (wr.alloc o).cell? ⟨Bn, 0, none⟩ = some (.slice s0 n0 c0) := fun o => cell_of_row (wr.alloc o) Bn 0 _ _ _ (blk_elder hBr.out o)
       have k1 : ∀ o, (wr.alloc o).cell? ⟨Bn, 1, none⟩ = some (.slice s1 n1 c1) := fun o => cell_of_row (wr.alloc o) Bn 1 _ _ _ (blk_elder hBr.out o)
       have k2 : ∀ o, (wr.alloc o).cell? ⟨Bn, 2, none⟩ = some (.slice s2 n2 c2) := fun o => cell_of_row (wr.alloc o) Bn 2 _ _ _ (blk_elder hBr.out o)
       have k3 : ∀ o, (wr.alloc o).cell? ⟨Bn, 3, none⟩ = some (.slice s3 n3 c3) := fun o => cell_of_row (wr.alloc o) Bn 3 _ _ _ (blk_elder hBr.out o)
       have k4 : ∀ o, (wr.alloc o).cell? ⟨Bn, 4, none⟩ = some (.int .i64 cross) := fun o => cell_of_row (wr.alloc o) Bn 4 _ _ _ (blk_elder hBr.out o)
       have k5 : ∀ o, (wr.alloc o).cell? ⟨Bn, 5, none⟩ = some (.int .i64 a5) := fun o => cell_of_row (wr.alloc o) Bn 5 _ _ _ (blk_elder hBr.out o)
       have k6 : ∀ o, (wr.alloc o).cell? ⟨Bn, 6, none⟩ = some (.slice (A 0) (ps 0).length (cp 0)) := fun o => cell_of_row (wr.alloc o) Bn 6 _ _ _ (blk_elder hBr.out o)
       have k7 : ∀ o, (wr.alloc o).cell? ⟨Bn, 7, none⟩ = some (.slice (A 1) (ps 1).length (cp 1)) := fun o => cell_of_row (wr.alloc o) Bn 7 _ _ _ (blk_elder hBr.out o)
       have k8 : ∀ o, (wr.alloc o).cell? ⟨Bn, 8, none⟩ = some (.slice (A 2) (ps 2).length (cp 2)) := fun o => cell_of_row (wr.alloc o) Bn 8 _ _ _ (blk_elder hBr.out o)
       have k9 : ∀ o, (wr.alloc o).cell? ⟨Bn, 9, none⟩ = some (.slice (A 3) (ps 3).length (cp 3)) := fun o => cell_of_row (wr.alloc o) Bn 9 _ _ _ (blk_elder hBr.out o)
       obtain ⟨x, hx⟩ : ∃ x, rd_T49 (ps k) (n : Int) = x := ⟨_, rfl⟩
       have hW1 : wrongTo (rightB n0 n1 n2 n3 cross) k (ps k) (n + 1) = wrongTo (rightB n0 n1 n2 n3 cross) k (ps k) n ++ (if rightB n0 n1 n2 n3 cross k x (((ps k).length : Int) - n - 1) = true then [] else [((k : Int), (n : Int))]) := by rw [wrongTo, hx]
       simp only [Int.toNat_natCast] at c0_0 c0_1 c0_2 c0_3 c0_4 c0_5
       rw [hx] at c0_0 c0_1 c0_2 c0_3 c0_4 c0_5
       obtain ⟨op, d, a, b, c, v⟩ := x
       dsimp only at c0_0 c0_1 c0_2 c0_3 c0_4 c0_5
       have HLN := Aside0.mk (show (wrongPs (rightB n0 n1 n2 n3 cross) ps k ++ wrongTo (rightB n0 n1 n2 n3 cross) k (ps k) n).length < sumLen ps 4 by
        have h1 := wrongPs_length (rightB n0 n1 n2 n3 cross) ps k
        have h2 := wrongTo_length (rightB n0 n1 n2 n3 cross) k (ps k) n
        have h3 : sumLen ps (k + 1) ≤ sumLen ps 4 := by have := sumLen_le ps (k + 1) (3 - k); rwa [show k + 1 + (3 - k) = 4 by omega] at this
        have h4 : sumLen ps k + (ps k).length ≤ sumLen ps 4 := h3
        rw [List.length_append]
        omega)
       obtain ⟨beh, hbeh⟩ : ∃ z, ((ps k).length : Int) - n - 1 = z := ⟨_, rfl⟩
       rw [hbeh] at hW1
       obtain ⟨rb, hrb⟩ : ∃ z, rightB n0 n1 n2 n3 cross k ⟨op, d, a, b, c, v⟩ beh = z := ⟨_, rfl⟩
       rw [hrb] at hW1
       have HW1 := Aside0.mk hW1
       have HBH := Aside0.mk hbeh
       have HRB := Aside0.mk hrb
       clear hW1 hrb hx hbeh
       cases e0
       cases rb with
       | true =>
        gi_wp2_with (refine ⟨trivial, ?_⟩; gi_at_call 206; rw [HBH.out]; refine (callsIn_wide.2 (right_any _ _ _ _ _ _ _ _ _ _ _ _ _ _ _ _ _ _ _ _ _ _ _ _ _ _ _ (by omega) (by omega))).mono ?_; rintro e w3 ⟨rfl, hb3⟩; rw [HRB.out]; have hb4 := Aside0.mk (show Below wr.heap.size wr w3 from ((Below.refl _ _).alloc (Nat.le_refl _) _).trans (hb3.mono (by simp))))
        refine ⟨fun _ h => (by cases h), ?_⟩
        gi_wp2
        go_roundw
        case rel => exact ⟨n + 1, by omega, by simp, ⟨by rw [HW1.out]; simpa using hg _ HJ1.out hb4.out⟩, ⟨HN1.out.trans (hb4.out.mono (Nat.le_trans hn₀ HN1.out.size))⟩⟩
        case measure => simp [intOf]; omega
       | false =>
        gi_wp2_with (refine ⟨trivial, ?_⟩; gi_at_call 206; rw [HBH.out]; refine (callsIn_wide.2 (right_any _ _ _ _ _ _ _ _ _ _ _ _ _ _ _ _ _ _ _ _ _ _ _ _ _ _ _ (by omega) (by omega))).mono ?_; rintro e w3 ⟨rfl, hb3⟩; rw [HRB.out]; have hb4 := Aside0.mk (show Below wr.heap.size wr w3 from ((Below.refl _ _).alloc (Nat.le_refl _) _).trans (hb3.mono (by simp))); obtain ⟨fn, tmps, assign, body, hy, hR⟩ := hY0.out _ ((k : Int), (n : Int)) w3 (hg _ HJ1.out hb4.out) HLN.out; dsimp only at hy)
        refine hR.mono ?_
        rintro e W3 (⟨rfl, hJ3, hk3⟩ | ⟨rfl, hJx3⟩)
        · gi_wp2
          go_roundw
          case rel => exact ⟨n + 1, by omega, by simp, ⟨by rw [HW1.out]; simpa [List.append_assoc] using hJ3⟩, ⟨(HN1.out.trans (hb4.out.mono (Nat.le_trans hn₀ HN1.out.size))).trans hk3⟩⟩
          case measure => simp [intOf]; omega
        · gi_wp2
          refine bodyPost_ret (results_none rfl _ _ _) rfl ?_
          refine ⟨⟨_, rfl⟩, .inr ⟨_, ?_, hJx3⟩⟩
          have h1 : wrongPs (rightB n0 n1 n2 n3 cross) ps (k + 1) <+: wrongPs (rightB n0 n1 n2 n3 cross) ps 4 := by have := wrongPs_prefix (rightB n0 n1 n2 n3 cross) ps (k + 1) (3 - k); rwa [show k + 1 + (3 - k) = 4 by omega] at this
          have h2 : wrongTo (rightB n0 n1 n2 n3 cross) k (ps k) (n + 1) <+: wrongTo (rightB n0 n1 n2 n3 cross) k (ps k) (ps k).length := by have := wrongTo_prefix (rightB n0 n1 n2 n3 cross) k (ps k) (n + 1) ((ps k).length - (n + 1)); rwa [show n + 1 + ((ps k).length - (n + 1)) = (ps k).length by omega] at this
          rw [HW1.out] at h2
          refine List.IsPrefix.trans ?_ h1
          rw [wrongPs, List.append_assoc]
          exact (List.prefix_append_right_inj _).2 (by simpa using h2)
     · obtain rfl : n = (ps k).length := by omega
       gi_wp2
       go_roundw
       case rel => exact ⟨k + 1, by omega, by simp, HJ1.out, HN1.out⟩
       case measure => simp [intOf]; omega
  · obtain rfl : k = 4 := by omega
    gi_wp2
    go_end0
    exact ⟨⟨_, rfl⟩, .inl ⟨_, rfl, hJs⟩⟩
end Go.Proofs.YtgalkkolbobmbaaGreat.V
