/- The Go function verify.Most. -/
import Derived.Test.YtccolpkjgjjipaaHRight2
namespace Go.Proofs.Ytccolpkjgjjipaa.Q
set_option linter.unusedVariables false
open Go.RowKit Go.Proofs.YtccolpkjgjjipaaW.PrintWords Go.Proofs.YtccolpkjgjjipaaW.PrintLast Go.Proofs.YtccolpkjgjjipaaW.PrintMore

def mostTo (a b c d : Int) : Nat → Int
  | 0 => 0
  | 1 => wrap64 (0 + a)
  | 2 => wrap64 (wrap64 (0 + a) + b)
  | 3 => wrap64 (wrap64 (wrap64 (0 + a) + b) + c)
  | 4 => wrap64 (wrap64 (wrap64 (wrap64 (0 + a) + b) + c) + d)
  | _ + 5 => 0
theorem most1 (a b c d : Int) : wrap64 (mostTo a b c d 0 + a) = mostTo a b c d 1 := by rw [mostTo, mostTo]
theorem most2 (a b c d : Int) : wrap64 (mostTo a b c d 1 + b) = mostTo a b c d 2 := by rw [mostTo, mostTo]
theorem most3 (a b c d : Int) : wrap64 (mostTo a b c d 2 + c) = mostTo a b c d 3 := by rw [mostTo, mostTo]
theorem most4 (a b c d : Int) : wrap64 (mostTo a b c d 3 + d) = mostTo a b c d 4 := by rw [mostTo, mostTo]
theorem most_f {a b c d : Int} : mostTo a b c d 4 = wrap64 (wrap64 (wrap64 (wrap64 (0 + a) + b) + c) + d) := by rw [mostTo]
set_option maxHeartbeats 4000000 in
set_option maxRecDepth 100000 in
theorem verify_Most.calls (A0_0 : Option Addr) (c0_0 : Nat) (l0_0 : List Int) (A0_1 : Option Addr) (c0_1 : Nat) (l0_1 : List Int) (A0_2 : Option Addr) (c0_2 : Nat) (l0_2 : List Int) (A0_3 : Option Addr) (c0_3 : Nat) (l0_3 : List Int) (a0_4 : Int) (a0_5 : Int) (A0_6 : Option Addr) (c0_6 : Nat) (l0_6 : List (S47)) (A0_7 : Option Addr) (c0_7 : Nat) (l0_7 : List (S47)) (A0_8 : Option Addr) (c0_8 : Nat) (l0_8 : List (S47)) (A0_9 : Option Addr) (c0_9 : Nat) (l0_9 : List (S47)) (r : Int) (w : World)
    (hr0_0 : Kd.C (Kd.int .i64) w A0_0 l0_0.length l0_0) (hc0_0 : l0_0.length ≤ c0_0) (hr0_1 : Kd.C (Kd.int .i64) w A0_1 l0_1.length l0_1) (hc0_1 : l0_1.length ≤ c0_1) (hr0_2 : Kd.C (Kd.int .i64) w A0_2 l0_2.length l0_2) (hc0_2 : l0_2.length ≤ c0_2) (hr0_3 : Kd.C (Kd.int .i64) w A0_3 l0_3.length l0_3) (hc0_3 : l0_3.length ≤ c0_3)
    (hr0_6 : Kd.C k47 w A0_6 l0_6.length l0_6) (hc0_6 : l0_6.length ≤ c0_6) (hr0_7 : Kd.C k47 w A0_7 l0_7.length l0_7) (hc0_7 : l0_7.length ≤ c0_7) (hr0_8 : Kd.C k47 w A0_8 l0_8.length l0_8) (hc0_8 : l0_8.length ≤ c0_8) (hr0_9 : Kd.C k47 w A0_9 l0_9.length l0_9) (hc0_9 : l0_9.length ≤ c0_9)
    (h : verify_Most.f l0_0 l0_1 l0_2 l0_3 a0_4 a0_5 l0_6 l0_7 l0_8 l0_9 = some r) :
    Calls Try.prog 18 #[.agg #[.slice A0_0 l0_0.length c0_0, .slice A0_1 l0_1.length c0_1, .slice A0_2 l0_2.length c0_2, .slice A0_3 l0_3.length c0_3, .int .i64 a0_4, .int .i64 a0_5, .slice A0_6 l0_6.length c0_6, .slice A0_7 l0_7.length c0_7, .slice A0_8 l0_8.length c0_8, .slice A0_9 l0_9.length c0_9]] w fun e w' => e = .returned (.int .i64 r) ∧ Below w.heap.size w w' := by
  unfold verify_Most.f at h
  have hf : mostTo l0_6.length l0_7.length l0_8.length l0_9.length 4 = r := most_f.trans (Option.some.inj h)
  have HF := Aside0.mk hf
  clear h hf hr0_0 hc0_0 hr0_1 hc0_1 hr0_2 hc0_2 hr0_3 hc0_3 hr0_6 hc0_6 hr0_7 hc0_7 hr0_8 hc0_8 hr0_9 hc0_9
  have hix0 : ∀ (x y z t : Value) (w : World), (Instr.index 80 (.agg #[x, y, z, t]) (.int .i64 0)).run Try.prog w = .ok x w := fun _ _ _ _ _ => by kernel_rfl
  have hix1 : ∀ (x y z t : Value) (w : World), (Instr.index 80 (.agg #[x, y, z, t]) (.int .i64 1)).run Try.prog w = .ok y w := fun _ _ _ _ _ => by kernel_rfl
  have hix2 : ∀ (x y z t : Value) (w : World), (Instr.index 80 (.agg #[x, y, z, t]) (.int .i64 2)).run Try.prog w = .ok z w := fun _ _ _ _ _ => by kernel_rfl
  have hix3 : ∀ (x y z t : Value) (w : World), (Instr.index 80 (.agg #[x, y, z, t]) (.int .i64 3)).run Try.prog w = .ok t w := fun _ _ _ _ _ => by kernel_rfl
  go_enter Try.func18, Try.ntmps18
  go_wp2_with fail
  refine (pieces_any _ _ _ _ _ _ _ _ _ _ _ _ _ _ _ _ _ _ _).mono ?_
  rintro e w3 ⟨rfl, hb3⟩
  have HB3 := Aside0.mk (show Below w.heap.size w w3 from ((Below.refl _ _).alloc (Nat.le_refl _) _).trans (hb3.mono (by simp)))
  clear hb3
  go_wp2_with fail
  go_loopw [3, 8, 5] (fun o i _ wr => ∃ (k : Int), 0 ≤ k ∧ k ≤ 4 ∧ i = .int .i64 k ∧ o = .int .i64 (mostTo l0_6.length l0_7.length l0_8.length l0_9.length k.toNat) ∧ wr = w3) (fun _ i _ _ => 4 - (intOf i).toNat)
  case atStart => exact ⟨0, by omega, by omega, rfl, rfl, rfl⟩
  case round =>
    obtain ⟨k, hk0, hk, rfl, rfl, rfl⟩ := hrel
    rcases (by omega : k = 0 ∨ k = 1 ∨ k = 2 ∨ k = 3 ∨ k = 4) with rfl | rfl | rfl | rfl | rfl
    · obtain ⟨z, hz⟩ : ∃ z, mostTo l0_6.length l0_7.length l0_8.length l0_9.length (0 : Int).toNat = z := ⟨_, rfl⟩
      rw [hz]
      have HZ := Aside0.mk (show wrap64 (z + l0_6.length) = mostTo l0_6.length l0_7.length l0_8.length l0_9.length (1 : Int).toNat by rw [← hz]; exact most1 _ _ _ _)
      clear hz
      go_wp2
      go_roundw
      case rel => exact ⟨1, by omega, by omega, by go_num, by rw [← HZ.out], by trivial⟩
      case measure => simp [intOf]
    · obtain ⟨z, hz⟩ : ∃ z, mostTo l0_6.length l0_7.length l0_8.length l0_9.length (1 : Int).toNat = z := ⟨_, rfl⟩
      rw [hz]
      have HZ := Aside0.mk (show wrap64 (z + l0_7.length) = mostTo l0_6.length l0_7.length l0_8.length l0_9.length (2 : Int).toNat by rw [← hz]; exact most2 _ _ _ _)
      clear hz
      go_wp2
      go_roundw
      case rel => exact ⟨2, by omega, by omega, by go_num, by rw [← HZ.out], by trivial⟩
      case measure => simp [intOf]
    · obtain ⟨z, hz⟩ : ∃ z, mostTo l0_6.length l0_7.length l0_8.length l0_9.length (2 : Int).toNat = z := ⟨_, rfl⟩
      rw [hz]
      have HZ := Aside0.mk (show wrap64 (z + l0_8.length) = mostTo l0_6.length l0_7.length l0_8.length l0_9.length (3 : Int).toNat by rw [← hz]; exact most3 _ _ _ _)
      clear hz
      go_wp2
      go_roundw
      case rel => exact ⟨3, by omega, by omega, by go_num, by rw [← HZ.out], by trivial⟩
      case measure => simp [intOf]
    · obtain ⟨z, hz⟩ : ∃ z, mostTo l0_6.length l0_7.length l0_8.length l0_9.length (3 : Int).toNat = z := ⟨_, rfl⟩
      rw [hz]
      have HZ := Aside0.mk (show wrap64 (z + l0_9.length) = mostTo l0_6.length l0_7.length l0_8.length l0_9.length (4 : Int).toNat by rw [← hz]; exact most4 _ _ _ _)
      clear hz
      go_wp2
      go_roundw
      case rel => exact ⟨4, by omega, by omega, by go_num, by rw [← HZ.out], by trivial⟩
      case measure => simp [intOf]
    · have E := Aside0.mk (show mostTo l0_6.length l0_7.length l0_8.length l0_9.length (4 : Int).toNat = r from HF.out)
      rw [E.out]
      go_wp2
      go_ret
      exact ⟨rfl, HB3.out⟩
end Go.Proofs.Ytccolpkjgjjipaa.Q
