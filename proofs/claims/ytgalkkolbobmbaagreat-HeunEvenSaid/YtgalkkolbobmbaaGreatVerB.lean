/- verify: Wrong, Right. -/
import Derived.RangeFuncNested
import Derived.RangeFuncBound
import Derived.RangeFuncCalls
import Derived.RangeFuncLeaves
import Derived.RangeFuncBox
import Derived.Shelf.Abstract
import Derived.WalkKit
import Derived.OwnWalkIn
import Derived.TacticsInMore
import Derived.LoopNIn
import Derived.LoopIn
import Derived.Test.YtgalkkolbobmbaaGreatVerA
/- The Go function verify.wrong: its iterator hands over the wrong instructions in order. -/
namespace Go.Proofs.YtgalkkolbobmbaaGreat.V
open Go.RowKit Go.Shelf Go.Proofs.YtgalkkolbobmbaaGreatW.PrintWords Go.Proofs.YtgalkkolbobmbaaGreatW.PrintLast Go.Proofs.YtgalkkolbobmbaaGreatW.PrintMore
attribute [local go_sem] Oper.semAt_some

/-- The wrong ones of the first n instructions of a piece. -/
def wrongTo (R : Int → S49 → Int → Bool) (piece : Int) (l : List S49) : Nat → List (Int × Int)
  | 0 => []
  | n + 1 => wrongTo R piece l n ++ (if R piece (rd_T49 l (n : Int)) ((l.length : Int) - n - 1) = true then [] else [(piece, (n : Int))])
theorem wrongTo_length (R : Int → S49 → Int → Bool) (piece : Int) (l : List S49) : ∀ n, (wrongTo R piece l n).length ≤ n
  | 0 => Nat.le_refl _
  | n + 1 => by
    have := wrongTo_length R piece l n
    rw [wrongTo, List.length_append]
    split <;> simp <;> omega
/-- The wrong ones of the first k pieces. -/
def wrongPs (R : Int → S49 → Int → Bool) (ps : Nat → List S49) : Nat → List (Int × Int)
  | 0 => []
  | k + 1 => wrongPs R ps k ++ wrongTo R (k : Int) (ps k) (ps k).length
def sumLen (ps : Nat → List S49) : Nat → Nat
  | 0 => 0
  | k + 1 => sumLen ps k + (ps k).length
theorem wrongPs_length (R : Int → S49 → Int → Bool) (ps : Nat → List S49) : ∀ k, (wrongPs R ps k).length ≤ sumLen ps k
  | 0 => Nat.le_refl _
  | k + 1 => by
    have := wrongPs_length R ps k
    have := wrongTo_length R (k : Int) (ps k) (ps k).length
    simp only [wrongPs, sumLen, List.length_append]; omega
theorem wrongTo_prefix (R : Int → S49 → Int → Bool) (piece : Int) (l : List S49) (n : Nat) : ∀ m, wrongTo R piece l n <+: wrongTo R piece l (n + m)
  | 0 => List.prefix_refl _
  | m + 1 => (wrongTo_prefix R piece l n m).trans (List.prefix_append _ _)
theorem wrongPs_prefix (R : Int → S49 → Int → Bool) (ps : Nat → List S49) (n : Nat) : ∀ m, wrongPs R ps n <+: wrongPs R ps (n + m)
  | 0 => List.prefix_refl _
  | m + 1 => (wrongPs_prefix R ps n m).trans (List.prefix_append _ _)
theorem sumLen_le (ps : Nat → List S49) (n : Nat) : ∀ m, sumLen ps n ≤ sumLen ps (n + m)
  | 0 => Nat.le_refl _
  | m + 1 => Nat.le_trans (sumLen_le ps n m) (Nat.le_add_right _ _)
theorem grown_of_below {W W' : World} (h : Below W.heap.size W W') : W.grownBy W' none := ⟨h.os, h.tape, h.output, h.size, fun k hk _ => h.block k hk⟩

set_option maxRecDepth 100000 in
set_option maxHeartbeats 4000000 in
theorem wrong1_in (l Bn n₀ : Nat) (s0 s1 s2 s3 : Option Addr) (n0 c0 n1 c1 n2 c2 n3 c3 : Nat) (cross a5 : Int) (A : Nat → Option Addr) (cp : Nat → Nat) (ps : Nat → List S49) (J Jx : List (Int × Int) → World → Prop)
    (W : World) (hBn : W.heap[Bn]? = some (.cells #[.slice s0 n0 c0, .slice s1 n1 c1, .slice s2 n2 c2, .slice s3 n3 c3, .int .i64 cross, .int .i64 a5, .slice (A 0) (ps 0).length (cp 0), .slice (A 1) (ps 1).length (cp 1), .slice (A 2) (ps 2).length (cp 2), .slice (A 3) (ps 3).length (cp 3)] 26 (0, 0))) (hb : Bn < n₀) (hn₀ : n₀ ≤ W.heap.size)
    (hL : ∀ k, k < 4 → ∀ W', Below n₀ W W' → Kd.C k49 W' (A k) (ps k).length (ps k)) (hc : ∀ k, k < 4 → (ps k).length ≤ cp k)
    (hJ : AbidesFrom W.heap.size J)
    (hY0 : Aside0 (∀ pre x W1, J pre W1 → pre.length < sumLen ps 4 → YieldAt Fence.wide 4 Tryz.prog l #[.int .i64 x.1, .int .i64 x.2] W1 fun e W' =>
      (e = .returned (.bool true) ∧ J (pre ++ [x]) W' ∧ Below n₀ W1 W') ∨ (e = .returned (.bool false) ∧ Jx (pre ++ [x]) W')))
    (h0 : J [] W) :
    CallsIn Fence.wide 5 Tryz.prog 205 #[.func (.yield l) #[] #[], .pointer (some ⟨Bn, 0, none⟩)] W fun e W' => (∃ v, e = .returned v) ∧
      ((∃ ys, ys = wrongPs (rightB n0 n1 n2 n3 cross) ps 4 ∧ J ys W') ∨ (∃ pre, pre <+: wrongPs (rightB n0 n1 n2 n3 cross) ps 4 ∧ Jx pre W')) := by
  have hg : ∀ pre {W1 W2 : World}, J pre W1 → Below W1.heap.size W1 W2 → J pre W2 := fun pre W1 W2 hj hbl => hJ pre W1 W2 none hj (grown_of_below hbl) (fun r e => by cases e)
  have hro : Fence.wide.round = none := rfl
  have hix0 : ∀ (x y z t : Value) (w : World), (Instr.index 193 (.agg #[x, y, z, t]) (.int .i64 0)).run Tryz.prog w = .ok x w := fun _ _ _ _ _ => by kernel_rfl
  have hix1 : ∀ (x y z t : Value) (w : World), (Instr.index 193 (.agg #[x, y, z, t]) (.int .i64 1)).run Tryz.prog w = .ok y w := fun _ _ _ _ _ => by kernel_rfl
  have hix2 : ∀ (x y z t : Value) (w : World), (Instr.index 193 (.agg #[x, y, z, t]) (.int .i64 2)).run Tryz.prog w = .ok z w := fun _ _ _ _ _ => by kernel_rfl
  have hix3 : ∀ (x y z t : Value) (w : World), (Instr.index 193 (.agg #[x, y, z, t]) (.int .i64 3)).run Tryz.prog w = .ok t w := fun _ _ _ _ _ => by kernel_rfl
  have HIX := Aside0.mk (And.intro hix0 (And.intro hix1 (And.intro hix2 hix3)))
  clear hix0 hix1 hix2 hix3
  refine callsIn_of_wp Tryz.func205 rfl trivial ?_ hro
  simp only [Tryz.ntmps205, List.size_toArray, List.length_cons, List.length_nil, Nat.reduceAdd, Nat.reduceSub, Array.replicate_succ, Array.replicate_zero, List.push_toArray, List.append_toArray, List.nil_append, List.cons_append]
  have k0 := cell_of_row W Bn 0 _ _ _ hBn
  have k1 := cell_of_row W Bn 1 _ _ _ hBn
  have k2 := cell_of_row W Bn 2 _ _ _ hBn
  have k3 := cell_of_row W Bn 3 _ _ _ hBn
  have k4 := cell_of_row W Bn 4 _ _ _ hBn
  have k5 := cell_of_row W Bn 5 _ _ _ hBn
  have k6 := cell_of_row W Bn 6 _ _ _ hBn
  have k7 := cell_of_row W Bn 7 _ _ _ hBn
  have k8 := cell_of_row W Bn 8 _ _ _ hBn
  have k9 := cell_of_row W Bn 9 _ _ _ hBn
  simp only [List.getElem?_toArray, List.getElem?_cons_zero, List.getElem?_cons_succ] at k0 k1 k2 k3 k4 k5 k6 k7 k8 k9
  gi_wp2_with (refine ⟨trivial, ?_⟩; gi_at_call 105; refine (callsIn_wide.2 (pieces_any _ _ _ _ _ _ _ _ _ _ _ _ _ _ _ _ _ _ _)).mono ?_; rintro e w1 ⟨rfl, hb1⟩)
  gi_loopw [9] (fun i wr => ∃ k : Nat, k ≤ 4 ∧ i = .int .i64 k ∧ J (wrongPs (rightB n0 n1 n2 n3 cross) ps k) wr ∧ Below n₀ W wr) (fun i _ => 4 - (intOf i).toNat)
  case atStart => exact ⟨0, by omega, rfl, hg _ h0 hb1, hb1.mono hn₀⟩
  case round =>
    clear hb1 h0 k0 k1 k2 k3 k4 k5 k6 k7 k8 k9
    obtain ⟨k, hk, rfl, hJs, hnx⟩ := hrel
    by_cases hlt : k < 4
    · have hix : ∀ w, (Instr.index 193 (.agg #[.slice (A 0) (ps 0).length (cp 0), .slice (A 1) (ps 1).length (cp 1), .slice (A 2) (ps 2).length (cp 2), .slice (A 3) (ps 3).length (cp 3)]) (.int .i64 (k : Int))).run Tryz.prog w = .ok (.slice (A k) (ps k).length (cp k)) w := by
        obtain ⟨i0, i1, i2, i3⟩ := HIX.out
        rcases (by omega : k = 0 ∨ k = 1 ∨ k = 2 ∨ k = 3) with rfl | rfl | rfl | rfl
        · exact fun w => i0 _ _ _ _ w
        · exact fun w => i1 _ _ _ _ w
        · exact fun w => i2 _ _ _ _ w
        · exact fun w => i3 _ _ _ _ w
      have hkc := (hL k hlt _ hnx)
      have hkl : (ps k).length ≤ 9223372036854775807 := hkc.2.1
      have hkcp := hc k hlt
      clear hkc
      obtain ⟨Ak, hAk⟩ : ∃ z, A k = z := ⟨_, rfl⟩
      rw [hAk] at hix
      have HAK := Aside0.mk hAk
      clear hAk
      have HJ0 := Aside0.mk hJs
      have HNX := Aside0.mk hnx
      clear hJs hnx
      have hlt' : (k : Int) < 4 := by omega
      have hltb : decide ((k : Int) < 4) = true := decide_eq_true hlt'
      gi_wp2
      gi_loopw [15] (fun i wr => ∃ n : Nat, n ≤ (ps k).length ∧ i = .int .i64 n ∧ Aside0 (J (wrongPs (rightB n0 n1 n2 n3 cross) ps k ++ wrongTo (rightB n0 n1 n2 n3 cross) k (ps k) n) wr) ∧ Aside0 (Below n₀ W wr)) (fun i _ => (ps k).length - (intOf i).toNat)
      case atStart => exact ⟨0, by omega, rfl, ⟨by simpa [wrongTo] using HJ0.out⟩, HNX⟩
      case round =>
        clear HJ0 HNX hix
        obtain ⟨n, hn, rfl, HJ1, HN1⟩ := hrel
        by_cases hlt2 : n < (ps k).length
        · obtain ⟨ad, e0, c0_0, c0_1, c0_2, c0_3, c0_4, c0_5⟩ := at_T49 (show Kd.C k49 wr Ak (ps k).length (ps k) from by rw [← HAK.out]; exact hL k hlt _ HN1.out) (n : Int) (by omega) (by omega)
          have hBr := Aside0.mk ((HN1.out.block Bn hb).trans hBn)
          have k0 : ∀ o, (wr.alloc o).cell? ⟨Bn, 0, none⟩ = some (.slice s0 n0 c0) := fun o => cell_of_row (wr.alloc o) Bn 0 _ _ _ (blk_elder hBr.out o)
          have k1 : ∀ o, (wr.alloc o).cell? ⟨Bn, 1, none⟩ = some (.slice s1 n1 c1) := fun o => cell_of_row (wr.alloc o) Bn 1 _ _ _ (blk_elder hBr.out o)
          have k2 : ∀ o, (wr.alloc o).cell? ⟨Bn, 2, none⟩ = some (.slice s2 n2 c2) := fun o => cell_of_row (wr.alloc o) Bn 2 _ _ _ (blk_elder hBr.out o)
          have k3 : ∀ o, (wr.alloc o).cell? ⟨Bn, 3, none⟩ = some (.slice s3 n3 c3) := fun o => cell_of_row (wr.alloc o) Bn 3 _ _ _ (blk_elder hBr.out o)
          have k4 : ∀ o, (wr.alloc o).cell? ⟨Bn, 4, none⟩ = some (.int .i64 cross) := fun o => cell_of_row (wr.alloc o) Bn 4 _ _ _ (blk_elder hBr.out o)
          have k5 : ∀ o, (wr.alloc o).cell? ⟨Bn, 5, none⟩ = some (.int .i64 a5) := fun o => cell_of_row (wr.alloc o) Bn 5 _ _ _ (blk_elder hBr.out o)
          have k6 : ∀ o, (wr.alloc o).cell? ⟨Bn, 6, none⟩ = some (.slice (A 0) (ps 0).length (cp 0)) := fun o => cell_of_row (wr.alloc o) Bn 6 _ _ _ (blk_elder hBr.out o)
          have k7 : ∀ o, (wr.alloc o).cell? ⟨Bn, 7, none⟩ = some (.slice (A 1) (ps 1).length (cp 1)) := fun o => cell_of_row (wr.alloc o) Bn 7 _ _ _ (blk_elder hBr.out o)
          have k8 : ∀ o, (wr.alloc o).cell? ⟨Bn, 8, none⟩ = some (.slice (A 2) (ps 2).length (cp 2)) := fun o => cell_of_row (wr.alloc o) Bn 8 _ _ _ (blk_elder hBr.out o)
          have k9 : ∀ o, (wr.alloc o).cell? ⟨Bn, 9, none⟩ = some (.slice (A 3) (ps 3).length (cp 3)) := fun o => cell_of_row (wr.alloc o) Bn 9 _ _ _ (blk_elder hBr.out o)
          obtain ⟨x, hx⟩ : ∃ x, rd_T49 (ps k) (n : Int) = x := ⟨_, rfl⟩
          have hW1 : wrongTo (rightB n0 n1 n2 n3 cross) k (ps k) (n + 1) = wrongTo (rightB n0 n1 n2 n3 cross) k (ps k) n ++ (if rightB n0 n1 n2 n3 cross k x (((ps k).length : Int) - n - 1) = true then [] else [((k : Int), (n : Int))]) := by rw [wrongTo, hx]
          simp only [Int.toNat_natCast] at c0_0 c0_1 c0_2 c0_3 c0_4 c0_5
          rw [hx] at c0_0 c0_1 c0_2 c0_3 c0_4 c0_5
          obtain ⟨op, d, a, b, c, v⟩ := x
          dsimp only at c0_0 c0_1 c0_2 c0_3 c0_4 c0_5
          have HLN := Aside0.mk (show (wrongPs (rightB n0 n1 n2 n3 cross) ps k ++ wrongTo (rightB n0 n1 n2 n3 cross) k (ps k) n).length < sumLen ps 4 by
            have h1 := wrongPs_length (rightB n0 n1 n2 n3 cross) ps k
            have h2 := wrongTo_length (rightB n0 n1 n2 n3 cross) k (ps k) n
            have h3 : sumLen ps (k + 1) ≤ sumLen ps 4 := by have := sumLen_le ps (k + 1) (3 - k); rwa [show k + 1 + (3 - k) = 4 by omega] at this
            have h4 : sumLen ps k + (ps k).length ≤ sumLen ps 4 := h3
            rw [List.length_append]
            omega)
          obtain ⟨beh, hbeh⟩ : ∃ z, ((ps k).length : Int) - n - 1 = z := ⟨_, rfl⟩
          rw [hbeh] at hW1
          obtain ⟨rb, hrb⟩ : ∃ z, rightB n0 n1 n2 n3 cross k ⟨op, d, a, b, c, v⟩ beh = z := ⟨_, rfl⟩
          rw [hrb] at hW1
          have HW1 := Aside0.mk hW1
          have HBH := Aside0.mk hbeh
          have HRB := Aside0.mk hrb
          clear hW1 hrb hx hbeh
          cases e0
          cases rb with
          | true =>
            gi_wp2_with (refine ⟨trivial, ?_⟩; gi_at_call 206; rw [HBH.out]; refine (callsIn_wide.2 (right_any _ _ _ _ _ _ _ _ _ _ _ _ _ _ _ _ _ _ _ _ _ _ _ _ _ _ _ (by omega) (by omega))).mono ?_; rintro e w3 ⟨rfl, hb3⟩; rw [HRB.out]; have hb4 := Aside0.mk (show Below wr.heap.size wr w3 from ((Below.refl _ _).alloc (Nat.le_refl _) _).trans (hb3.mono (by simp))))
            refine ⟨fun _ h => (by cases h), ?_⟩
            gi_wp2
            go_roundw
            case rel => exact ⟨n + 1, by omega, by simp, ⟨by rw [HW1.out]; simpa using hg _ HJ1.out hb4.out⟩, ⟨HN1.out.trans (hb4.out.mono (Nat.le_trans hn₀ HN1.out.size))⟩⟩
            case measure => simp [intOf]; omega
          | false =>
            gi_wp2_with (refine ⟨trivial, ?_⟩; gi_at_call 206; rw [HBH.out]; refine (callsIn_wide.2 (right_any _ _ _ _ _ _ _ _ _ _ _ _ _ _ _ _ _ _ _ _ _ _ _ _ _ _ _ (by omega) (by omega))).mono ?_; rintro e w3 ⟨rfl, hb3⟩; rw [HRB.out]; have hb4 := Aside0.mk (show Below wr.heap.size wr w3 from ((Below.refl _ _).alloc (Nat.le_refl _) _).trans (hb3.mono (by simp))); obtain ⟨fn, tmps, assign, body, hy, hR⟩ := hY0.out _ ((k : Int), (n : Int)) w3 (hg _ HJ1.out hb4.out) HLN.out; dsimp only at hy)
            refine hR.mono ?_
            rintro e W3 (⟨rfl, hJ3, hk3⟩ | ⟨rfl, hJx3⟩)
            · gi_wp2
              go_roundw
              case rel => exact ⟨n + 1, by omega, by simp, ⟨by rw [HW1.out]; simpa [List.append_assoc] using hJ3⟩, ⟨(HN1.out.trans (hb4.out.mono (Nat.le_trans hn₀ HN1.out.size))).trans hk3⟩⟩
              case measure => simp [intOf]; omega
            · gi_wp2
              refine bodyPost_ret (results_none rfl _ _ _) rfl ?_
              refine ⟨⟨_, rfl⟩, .inr ⟨_, ?_, hJx3⟩⟩
              have h1 : wrongPs (rightB n0 n1 n2 n3 cross) ps (k + 1) <+: wrongPs (rightB n0 n1 n2 n3 cross) ps 4 := by have := wrongPs_prefix (rightB n0 n1 n2 n3 cross) ps (k + 1) (3 - k); rwa [show k + 1 + (3 - k) = 4 by omega] at this
              have h2 : wrongTo (rightB n0 n1 n2 n3 cross) k (ps k) (n + 1) <+: wrongTo (rightB n0 n1 n2 n3 cross) k (ps k) (ps k).length := by have := wrongTo_prefix (rightB n0 n1 n2 n3 cross) k (ps k) (n + 1) ((ps k).length - (n + 1)); rwa [show n + 1 + ((ps k).length - (n + 1)) = (ps k).length by omega] at this
              rw [HW1.out] at h2
              refine List.IsPrefix.trans ?_ h1
              rw [wrongPs, List.append_assoc]
              exact (List.prefix_append_right_inj _).2 (by simpa using h2)
        · obtain rfl : n = (ps k).length := by omega
          gi_wp2
          go_roundw
          case rel => exact ⟨k + 1, by omega, by simp, HJ1.out, HN1.out⟩
          case measure => simp [intOf]; omega
    · obtain rfl : k = 4 := by omega
      gi_wp2
      go_end0
      exact ⟨⟨_, rfl⟩, .inl ⟨_, rfl, hJs⟩⟩
end Go.Proofs.YtgalkkolbobmbaaGreat.V
/- The Go function verify.Wrong: the first wrong instruction. -/
namespace Go.Proofs.YtgalkkolbobmbaaGreat.V
open Go.RowKit Go.Shelf Go.Proofs.YtgalkkolbobmbaaGreatW.PrintWords Go.Proofs.YtgalkkolbobmbaaGreatW.PrintLast Go.Proofs.YtgalkkolbobmbaaGreatW.PrintMore
attribute [local go_sem] Oper.semAt_some

theorem wrong_in (n : Nat) (w : World) (a0 a1 a2 a3 a4 a5 a6 a7 a8 a9 : Value) :
    CallsIn Fence.wide n Tryz.prog 180 #[.agg #[a0, a1, a2, a3, a4, a5, a6, a7, a8, a9]] w fun e w' => e = .returned (.func (.func 205) #[] #[.pointer (some ⟨w.heap.size, 0, none⟩)]) ∧ w' = w.alloc (.cells #[a0, a1, a2, a3, a4, a5, a6, a7, a8, a9] 26) := by
  have hmf : ∀ (first : Array Value) (cap : Array Value) (w : World), (Instr.makeFunc (.func 205) first cap).run Tryz.prog w = .ok (.func (.func 205) first cap) w := fun _ _ _ => rfl
  refine callsIn_of_wp Tryz.func180 rfl trivial ?_ rfl
  simp only [Tryz.ntmps180, List.size_toArray, List.length_cons, List.length_nil, Nat.reduceAdd, Nat.reduceSub, Array.replicate_succ, Array.replicate_zero, List.push_toArray, List.append_toArray, List.nil_append, List.cons_append]
  gi_wp2
  go_ret
  exact ⟨rfl, rfl⟩

theorem three_set (W : World) (g : Nat) (a b c : Value) {o1 o2 o3 : Value} (c1 : W.cell? ⟨g + 1, 0, none⟩ = some o1) (c2 : W.cell? ⟨g + 1 + 1, 0, none⟩ = some o2) (c3 : W.cell? ⟨g + 1 + 1 + 1, 0, none⟩ = some o3) :
    (((W.setCell ⟨g + 1, 0, none⟩ a).setCell ⟨g + 1 + 1, 0, none⟩ b).setCell ⟨g + 1 + 1 + 1, 0, none⟩ c).cell? ⟨g + 1, 0, none⟩ = some a ∧ (((W.setCell ⟨g + 1, 0, none⟩ a).setCell ⟨g + 1 + 1, 0, none⟩ b).setCell ⟨g + 1 + 1 + 1, 0, none⟩ c).cell? ⟨g + 1 + 1, 0, none⟩ = some b ∧ (((W.setCell ⟨g + 1, 0, none⟩ a).setCell ⟨g + 1 + 1, 0, none⟩ b).setCell ⟨g + 1 + 1 + 1, 0, none⟩ c).cell? ⟨g + 1 + 1 + 1, 0, none⟩ = some c := by
  refine ⟨?_, ?_, ?_⟩ <;> simp [go_sem, c1, c2, c3]
def wrongRes : List (Int × Int) → Value
  | [] => .tuple #[.int .i64 0, .int .i64 0, .bool false]
  | x :: _ => .tuple #[.int .i64 x.1, .int .i64 x.2, .bool true]
set_option maxRecDepth 100000 in
set_option maxHeartbeats 4000000 in
theorem Wrong_any (s0 s1 s2 s3 : Option Addr) (n0 c0 n1 c1 n2 c2 n3 c3 : Nat) (cross a5 : Int) (A : Nat → Option Addr) (cp : Nat → Nat) (ps : Nat → List S49) (w : World)
    (hL : ∀ k, k < 4 → ∀ W', Below w.heap.size w W' → Kd.C k49 W' (A k) (ps k).length (ps k)) (hc : ∀ k, k < 4 → (ps k).length ≤ cp k) :
    Calls Tryz.prog 106 #[.agg #[.slice s0 n0 c0, .slice s1 n1 c1, .slice s2 n2 c2, .slice s3 n3 c3, .int .i64 cross, .int .i64 a5, .slice (A 0) (ps 0).length (cp 0), .slice (A 1) (ps 1).length (cp 1), .slice (A 2) (ps 2).length (cp 2), .slice (A 3) (ps 3).length (cp 3)]] w fun e W' => e = .returned (wrongRes (wrongPs (rightB n0 n1 n2 n3 cross) ps 4)) ∧ Below w.heap.size w W' := by
  refine (callsIn_wide (n := 6)).1 ?_
  have hro : Fence.wide.round = none := rfl
  have h1 : 1 ≤ 6 := by omega
  refine callsIn_of_wp_marks Tryz.func106 rfl trivial ?_ hro
  simp only [Tryz.ntmps106, List.size_toArray, List.length_cons, List.length_nil, Nat.reduceAdd, Nat.reduceSub, Array.replicate_succ, Array.replicate_zero, List.push_toArray, List.append_toArray, List.nil_append, List.cons_append]
  gi_wp2_with (refine ⟨trivial, ?_⟩; gi_at_call 180; refine (wrong_in _ _ _ _ _ _ _ _ _ _ _ _).mono ?_; rintro e w' ⟨rfl, rfl⟩)
  obtain ⟨W0, hW0⟩ : ∃ W0, W0 = ((((w.alloc (Obj.cells #[.slice s0 n0 c0, .slice s1 n1 c1, .slice s2 n2 c2, .slice s3 n3 c3, .int .i64 cross, .int .i64 a5, .slice (A 0) (ps 0).length (cp 0), .slice (A 1) (ps 1).length (cp 1), .slice (A 2) (ps 2).length (cp 2), .slice (A 3) (ps 3).length (cp 3)] 26)).alloc (Obj.cells #[.int .i64 0] 3)).alloc (Obj.cells #[.int .i64 0] 3)).alloc (Obj.cells #[.bool false] 4)).alloc (Obj.cells #[.slice s0 n0 c0, .slice s1 n1 c1, .slice s2 n2 c2, .slice s3 n3 c3, .int .i64 cross, .int .i64 a5, .slice (A 0) (ps 0).length (cp 0), .slice (A 1) (ps 1).length (cp 1), .slice (A 2) (ps 2).length (cp 2), .slice (A 3) (ps 3).length (cp 3)] 26) := ⟨_, rfl⟩
  have hsz : W0.heap.size = w.heap.size + 5 := by rw [hW0]; simp
  have hB0 : Below w.heap.size w W0 := by rw [hW0]; exact (((((Below.refl _ _).alloc (Nat.le_refl _) _).alloc (by simp) _).alloc (by simp; omega) _).alloc (by simp; omega) _).alloc (by simp; omega) _
  have hb1 : W0.heap[w.heap.size + 1]? = some (.cells #[.int .i64 0] 3 (0, 0)) := by
    rw [hW0]; have := blk_elder (blk_elder (blk_elder (blk_fresh (w.alloc (Obj.cells #[.slice s0 n0 c0, .slice s1 n1 c1, .slice s2 n2 c2, .slice s3 n3 c3, .int .i64 cross, .int .i64 a5, .slice (A 0) (ps 0).length (cp 0), .slice (A 1) (ps 1).length (cp 1), .slice (A 2) (ps 2).length (cp 2), .slice (A 3) (ps 3).length (cp 3)] 26)) (Obj.cells #[.int .i64 0] 3)) (Obj.cells #[.int .i64 0] 3)) (Obj.cells #[.bool false] 4)) (Obj.cells #[.slice s0 n0 c0, .slice s1 n1 c1, .slice s2 n2 c2, .slice s3 n3 c3, .int .i64 cross, .int .i64 a5, .slice (A 0) (ps 0).length (cp 0), .slice (A 1) (ps 1).length (cp 1), .slice (A 2) (ps 2).length (cp 2), .slice (A 3) (ps 3).length (cp 3)] 26); simpa using this
  have hb2 : W0.heap[w.heap.size + 1 + 1]? = some (.cells #[.int .i64 0] 3 (0, 0)) := by
    rw [hW0]; have := blk_elder (blk_elder (blk_fresh ((w.alloc (Obj.cells #[.slice s0 n0 c0, .slice s1 n1 c1, .slice s2 n2 c2, .slice s3 n3 c3, .int .i64 cross, .int .i64 a5, .slice (A 0) (ps 0).length (cp 0), .slice (A 1) (ps 1).length (cp 1), .slice (A 2) (ps 2).length (cp 2), .slice (A 3) (ps 3).length (cp 3)] 26)).alloc (Obj.cells #[.int .i64 0] 3)) (Obj.cells #[.int .i64 0] 3)) (Obj.cells #[.bool false] 4)) (Obj.cells #[.slice s0 n0 c0, .slice s1 n1 c1, .slice s2 n2 c2, .slice s3 n3 c3, .int .i64 cross, .int .i64 a5, .slice (A 0) (ps 0).length (cp 0), .slice (A 1) (ps 1).length (cp 1), .slice (A 2) (ps 2).length (cp 2), .slice (A 3) (ps 3).length (cp 3)] 26); simpa using this
  have hb3 : W0.heap[w.heap.size + 1 + 1 + 1]? = some (.cells #[.bool false] 4 (0, 0)) := by
    rw [hW0]; have := blk_elder (blk_fresh (((w.alloc (Obj.cells #[.slice s0 n0 c0, .slice s1 n1 c1, .slice s2 n2 c2, .slice s3 n3 c3, .int .i64 cross, .int .i64 a5, .slice (A 0) (ps 0).length (cp 0), .slice (A 1) (ps 1).length (cp 1), .slice (A 2) (ps 2).length (cp 2), .slice (A 3) (ps 3).length (cp 3)] 26)).alloc (Obj.cells #[.int .i64 0] 3)).alloc (Obj.cells #[.int .i64 0] 3)) (Obj.cells #[.bool false] 4)) (Obj.cells #[.slice s0 n0 c0, .slice s1 n1 c1, .slice s2 n2 c2, .slice s3 n3 c3, .int .i64 cross, .int .i64 a5, .slice (A 0) (ps 0).length (cp 0), .slice (A 1) (ps 1).length (cp 1), .slice (A 2) (ps 2).length (cp 2), .slice (A 3) (ps 3).length (cp 3)] 26); simpa using this
  have hb4 : W0.heap[w.heap.size + 1 + 1 + 1 + 1]? = some (.cells #[.slice s0 n0 c0, .slice s1 n1 c1, .slice s2 n2 c2, .slice s3 n3 c3, .int .i64 cross, .int .i64 a5, .slice (A 0) (ps 0).length (cp 0), .slice (A 1) (ps 1).length (cp 1), .slice (A 2) (ps 2).length (cp 2), .slice (A 3) (ps 3).length (cp 3)] 26 (0, 0)) := by
    rw [hW0]; have := blk_fresh ((((w.alloc (Obj.cells #[.slice s0 n0 c0, .slice s1 n1 c1, .slice s2 n2 c2, .slice s3 n3 c3, .int .i64 cross, .int .i64 a5, .slice (A 0) (ps 0).length (cp 0), .slice (A 1) (ps 1).length (cp 1), .slice (A 2) (ps 2).length (cp 2), .slice (A 3) (ps 3).length (cp 3)] 26)).alloc (Obj.cells #[.int .i64 0] 3)).alloc (Obj.cells #[.int .i64 0] 3)).alloc (Obj.cells #[.bool false] 4)) (Obj.cells #[.slice s0 n0 c0, .slice s1 n1 c1, .slice s2 n2 c2, .slice s3 n3 c3, .int .i64 cross, .int .i64 a5, .slice (A 0) (ps 0).length (cp 0), .slice (A 1) (ps 1).length (cp 1), .slice (A 2) (ps 2).length (cp 2), .slice (A 3) (ps 3).length (cp 3)] 26); simpa using this
  rw [← hW0]
  clear hW0
  have q1 := cell_of_row W0 _ 0 _ _ _ hb1
  have q2 := cell_of_row W0 _ 0 _ _ _ hb2
  have q3 := cell_of_row W0 _ 0 _ _ _ hb3
  have r1 := frozen_of_row W0 _ 0 _ _ hb1
  have r2 := frozen_of_row W0 _ 0 _ _ hb2
  have r3 := frozen_of_row W0 _ 0 _ _ hb3
  simp only [List.getElem?_toArray, List.getElem?_cons_zero] at q1 q2 q3
  obtain ⟨g, hg⟩ : ∃ g, g = w.heap.size := ⟨_, rfl⟩
  rw [← hg] at hsz hb1 hb2 hb3 hb4 q1 q2 q3 r1 r2 r3 ⊢
  have hcon : SeqStopsK Fence.wide 5 Tryz.prog 205 #[.pointer (some ⟨g + 1 + 1 + 1 + 1, 0, none⟩)] (fun x : Int × Int => #[Value.int .i64 x.1, Value.int .i64 x.2]) (Below (g + 5)) (fun ys => ys = wrongPs (rightB n0 n1 n2 n3 cross) ps 4) (fun pre => pre <+: wrongPs (rightB n0 n1 n2 n3 cross) ps 4) (sumLen ps 4) W0 := by
    intro l J Jx W hW hJ _ hY h0
    refine wrong1_in l (g + 1 + 1 + 1 + 1) (g + 5) s0 s1 s2 s3 n0 c0 n1 c1 n2 c2 n3 c3 cross a5 A cp ps J Jx W ?_ (by omega) (by rw [← hsz]; exact hW.size) ?_ hc hJ ⟨hY⟩ h0
    · rw [hW.block _ (by omega)]; exact hb4
    · intro k hk W' hW'
      exact hL k hk W' (hB0.trans ((hW.mono (by omega)).trans (hW'.mono (by omega))))
  have HG := Aside0.mk hg
  clear hg
  refine wpIn_rangeFunc_ownG hro h1 (gf := 205) (lb := #[.pointer (some ⟨g + 1 + 1 + 1 + 1, 0, none⟩)]) rfl trivial (enters_of Tryz.func205 (by kernel_rfl) rfl)
    hcon belowK_t (belowK_b (by omega)) (Below.refl _ _) (fun _ => rfl)
    (fun pre W => (pre = [] ∧ W.cell? ⟨g + 1, 0, none⟩ = some (.int .i64 0) ∧ W.frozen? ⟨g + 1, 0, none⟩ = false ∧ W.cell? ⟨g + 1 + 1, 0, none⟩ = some (.int .i64 0) ∧ W.frozen? ⟨g + 1 + 1, 0, none⟩ = false ∧ W.cell? ⟨g + 1 + 1 + 1, 0, none⟩ = some (.bool false) ∧ W.frozen? ⟨g + 1 + 1 + 1, 0, none⟩ = false) ∧ Below g w W)
    (fun c pre W => (c = .ret ∧ ∃ x, pre = [x] ∧ W.cell? ⟨g + 1, 0, none⟩ = some (.int .i64 x.1) ∧ W.cell? ⟨g + 1 + 1, 0, none⟩ = some (.int .i64 x.2) ∧ W.cell? ⟨g + 1 + 1 + 1, 0, none⟩ = some (.bool true)) ∧ Below g w W)
    (OwnFrom.and (Own.from (fun s A B row hs hg hr => ⟨hs.1, cell_kept hs.2.1 hg hr, (frozen_kept hs.2.1 hg hr).trans hs.2.2.1, cell_kept hs.2.2.2.1 hg hr, (frozen_kept hs.2.2.2.1 hg hr).trans hs.2.2.2.2.1, cell_kept hs.2.2.2.2.2.1 hg hr, (frozen_kept hs.2.2.2.2.2.1 hg hr).trans hs.2.2.2.2.2.2⟩) _) (ownFrom_below (by have := HG.out; omega) (by have := HG.out; omega)))
    (fun c => OwnFrom.and (Own.from (fun s A B row hs hg hr => by obtain ⟨hc, x, e1, e2, e3, e4⟩ := hs; exact ⟨hc, x, e1, cell_kept e2 hg hr, cell_kept e3 hg hr, cell_kept e4 hg hr⟩) _) (ownFrom_below (by have := HG.out; omega) (by have := HG.out; omega)))
    ⟨⟨rfl, q1, r1, q2, r2, q3, r3⟩, HG.out ▸ hB0⟩
    (fun x => { tmps := #[.agg #[.slice s0 n0 c0, .slice s1 n1 c1, .slice s2 n2 c2, .slice s3 n3 c3, .int .i64 cross, .int .i64 a5, .slice (A 0) (ps 0).length (cp 0), .slice (A 1) (ps 1).length (cp 1), .slice (A 2) (ps 2).length (cp 2), .slice (A 3) (ps 3).length (cp 3)], .pointer (some ⟨g, 0, none⟩), .pointer (some ⟨g + 1, 0, none⟩), .pointer (some ⟨g + 1 + 1, 0, none⟩), .pointer (some ⟨g + 1 + 1 + 1, 0, none⟩), .int .i64 x.1, .int .i64 x.2, .agg #[.slice s0 n0 c0, .slice s1 n1 c1, .slice s2 n2 c2, .slice s3 n3 c3, .int .i64 cross, .int .i64 a5, .slice (A 0) (ps 0).length (cp 0), .slice (A 1) (ps 1).length (cp 1), .slice (A 2) (ps 2).length (cp 2), .slice (A 3) (ps 3).length (cp 3)], .func (.func 205) #[] #[.pointer (some ⟨g + 1 + 1 + 1 + 1, 0, none⟩)], .int .i64 x.1, .int .i64 x.2, undef, undef], defers := [] }) ?assign ?body ?done ?stop
  case assign =>
    intro l x W K hK
    gi_wp2
    exact hK
  case body =>
    rintro l pre x W ⟨⟨rfl, c1, z1, c2, z2, c3, z3⟩, hB⟩ _
    gi_wp2
    obtain ⟨d1, d2, d3⟩ := three_set W g (.int .i64 x.1) (.int .i64 x.2) (.bool true) c1 c2 c3
    exact ⟨(((KeepsOthers.setCell _ _ _).trans (KeepsOthers.setCell _ _ _)).trans (KeepsOthers.setCell _ _ _)).from _, ⟨rfl, x, rfl, d1, d2, d3⟩, ((hB.setCell (p := ⟨g + 1, 0, none⟩) (by simp) _).setCell (p := ⟨g + 1 + 1, 0, none⟩) (by simp; omega) _).setCell (p := ⟨g + 1 + 1 + 1, 0, none⟩) (by simp; omega) _⟩
  case done =>
    rintro D ys W hD rfl ⟨⟨hne, c1, z1, c2, z2, c3, z3⟩, hB⟩ hK
    gi_wp2
    obtain ⟨d1, d2, d3⟩ := three_set W g (.int .i64 0) (.int .i64 0) (.bool false) c1 c2 c3
    have hK' := (((KeepsOthers.setCell W ⟨g + 1, 0, none⟩ (.int .i64 0)).trans (KeepsOthers.setCell _ ⟨g + 1 + 1, 0, none⟩ (.int .i64 0))).trans (KeepsOthers.setCell _ ⟨g + 1 + 1 + 1, 0, none⟩ (.bool false))).same D _ hK rfl
    refine ⟨by simp, .inl ⟨_, _, rfl, run_takeDeferred hK', ?_⟩⟩
    have e1 := cell_kept d1 (grownBy_putObj' _ D (.deferred none)) (fun r e => by cases e; exact ⟨_, hK', rfl⟩)
    have e2 := cell_kept d2 (grownBy_putObj' _ D (.deferred none)) (fun r e => by cases e; exact ⟨_, hK', rfl⟩)
    have e3 := cell_kept d3 (grownBy_putObj' _ D (.deferred none)) (fun r e => by cases e; exact ⟨_, hK', rfl⟩)
    have hB3 : Below w.heap.size w (((W.setCell ⟨g + 1, 0, none⟩ (.int .i64 0)).setCell ⟨g + 1 + 1, 0, none⟩ (.int .i64 0)).setCell ⟨g + 1 + 1 + 1, 0, none⟩ (.bool false)) := by
      rw [← HG.out]
      exact ((hB.setCell (p := ⟨g + 1, 0, none⟩) (by simp) _).setCell (p := ⟨g + 1 + 1, 0, none⟩) (by simp; omega) _).setCell (p := ⟨g + 1 + 1 + 1, 0, none⟩) (by simp; omega) _
    refine ⟨.tuple #[.int .i64 0, .int .i64 0, .bool false], ?_, by rw [hne]; rfl, hB3.trans (belowK_b (w := w) (Nat.le_refl _) _ D _ _ (by have := HG.out; omega) hK' rfl rfl)⟩
    simp [results, Tryz.f106, go_sem, e1, e2, e3]
  case stop =>
    rintro D c pre W hD hpre ⟨⟨rfl, x, rfl, c1, c2, c3⟩, hB⟩ hK
    gi_wp2
    refine ⟨by simp, .inl ⟨_, _, rfl, run_takeDeferred hK, ?_⟩⟩
    have e1 := cell_kept c1 (grownBy_putObj' _ D (.deferred none)) (fun r e => by cases e; exact ⟨_, hK, rfl⟩)
    have e2 := cell_kept c2 (grownBy_putObj' _ D (.deferred none)) (fun r e => by cases e; exact ⟨_, hK, rfl⟩)
    have e3 := cell_kept c3 (grownBy_putObj' _ D (.deferred none)) (fun r e => by cases e; exact ⟨_, hK, rfl⟩)
    obtain ⟨zs, hzs⟩ := hpre
    have hB3 : Below w.heap.size w W := by rw [← HG.out]; exact hB
    refine ⟨.tuple #[.int .i64 x.1, .int .i64 x.2, .bool true], ?_, by rw [← hzs]; rfl, hB3.trans (belowK_b (w := w) (Nat.le_refl _) _ D _ _ (by have := HG.out; omega) hK rfl rfl)⟩
    simp [results, Tryz.f106, go_sem, e1, e2, e3]
end Go.Proofs.YtgalkkolbobmbaaGreat.V
/- slices.ContainsFunc over the types of an object's inputs or outputs. -/
namespace Go.Proofs.YtgalkkolbobmbaaGreat.V
open Go.RowKit Go.Proofs.YtgalkkolbobmbaaGreatW.PrintWords Go.Proofs.YtgalkkolbobmbaaGreatW.PrintLast Go.Proofs.YtgalkkolbobmbaaGreatW.PrintMore
set_option maxHeartbeats 2000000 in
theorem indexKind_any (A : Option Addr) (c : Nat) (l : List Int) (w : World) (hr : Kd.C (Kd.int .i64) w A l.length l) (hc : l.length ≤ c) :
    Calls Tryz.prog 179 #[.slice A l.length c, .func (.func 102) #[] #[]] w fun e w' => (∃ r : Int, e = .returned (.int .i64 r) ∧ (l.any kindB = decide (0 ≤ r))) ∧ w' = w := by
  have HR := Aside0.mk hr
  have HC := Aside0.mk hc
  have hm : l.length ≤ 9223372036854775807 := hr.2.1
  clear hr hc
  go_enter Tryz.func179, Tryz.ntmps179
  go_wp2
  go_loopw [8] (fun i wr => ∃ (k : Int), 0 ≤ k ∧ k ≤ l.length ∧ i = .int .i64 k ∧ Aside0 ((l.take k.toNat).any kindB = false) ∧ wr = w) (fun i _ => l.length - (intOf i).toNat)
  case atStart => exact ⟨0, by omega, by omega, rfl, ⟨by simp⟩, rfl⟩
  case round =>
    obtain ⟨k, hk0, hk, rfl, HT, rfl⟩ := hrel
    by_cases hlt : k < l.length
    · obtain ⟨ad, e0, hx⟩ := Kd.at_int HR.out k hk0 hlt
      cases e0
      obtain ⟨x, hxx⟩ : ∃ x, rd l k = x := ⟨_, rfl⟩
      rw [hxx] at hx
      have hg : l[k.toNat]? = some x := by
        rw [← hxx]; unfold rd
        rw [List.getElem?_eq_getElem (by omega)]
        simp [List.getD_eq_getElem?_getD, List.getElem?_eq_getElem (show k.toNat < l.length by omega)]
      have hT : l.take (k.toNat + 1) = l.take k.toNat ++ [x] := by rw [List.take_add_one, hg]; rfl
      have HT2 := Aside0.mk hT
      have HG := Aside0.mk hg
      clear hT hg hxx
      obtain ⟨b, hb⟩ : ∃ b, kindB x = b := ⟨_, rfl⟩
      have HKB := Aside0.mk hb
      clear hb
      cases b with
      | true =>
        go_wp2_with fail
        refine (kind_any x _).mono ?_
        rintro e w' ⟨rfl, rfl⟩
        rw [HKB.out]
        go_wp2
        go_ret
        refine ⟨⟨k, rfl, ?_⟩, rfl⟩
        rw [decide_eq_true hk0, List.any_eq_true]
        exact ⟨x, List.mem_of_getElem? HG.out, HKB.out⟩
      | false =>
        go_wp2_with fail
        refine (kind_any x _).mono ?_
        rintro e w' ⟨rfl, rfl⟩
        rw [HKB.out]
        go_wp2
        go_roundw
        case rel => exact ⟨k + 1, by omega, by omega, by go_num, ⟨by rw [show (k + 1).toNat = k.toNat + 1 by omega, HT2.out, List.any_append, HT.out]; simp [HKB.out]⟩, by trivial⟩
        case measure => simp [intOf]; omega
    · have hT := HT.out
      rw [show k.toNat = l.length by omega, List.take_length] at hT
      have HT2 := Aside0.mk hT
      clear hT
      go_wp2
      go_ret
      exact ⟨⟨-1, rfl, by rw [HT2.out]; rfl⟩, by first | rfl | trivial⟩
theorem containsKind_any (A : Option Addr) (c : Nat) (l : List Int) (w : World) (hr : Kd.C (Kd.int .i64) w A l.length l) (hc : l.length ≤ c) :
    Calls Tryz.prog 103 #[.slice A l.length c, .func (.func 102) #[] #[]] w fun e w' => e = .returned (.bool (l.any kindB)) ∧ w' = w := by
  have HR := Aside0.mk hr
  have HC := Aside0.mk hc
  clear hr hc
  go_enter Tryz.func103, Tryz.ntmps103
  go_wp2_with fail
  refine (indexKind_any A c l _ HR.out HC.out).mono ?_
  rintro e w' ⟨⟨r, rfl, hr⟩, rfl⟩
  have E := Aside0.mk hr
  clear hr
  go_wp2
  go_ret
  exact ⟨by rw [E.out]; rfl, rfl⟩
end Go.Proofs.YtgalkkolbobmbaaGreat.V
