/- slices.ContainsFunc over the types of an object's inputs or outputs. -/
import Derived.Test.YtgalkkolbobmbaaGreatVHStable

namespace Go.Proofs.YtgalkkolbobmbaaGreat.V
open Go.RowKit Go.Proofs.YtgalkkolbobmbaaGreatW.PrintWords Go.Proofs.YtgalkkolbobmbaaGreatW.PrintLast Go.Proofs.YtgalkkolbobmbaaGreatW.PrintMore
set_option maxHeartbeats 2000000 in
theorem indexKind_any (A : Option Addr) (c : Nat) (l : List Int) (w : World) (hr : Kd.C (Kd.int .i64) w A l.length l) (hc : l.length ≤ c) :
 Calls Tryz.prog 179 #[.slice A l.length c, .func (.func 102) #[] #[]] w fun e w' => (∃ r : Int, e = .returned (.int .i64 r) ∧ (l.any kindB = decide (0 ≤ r))) ∧ w' = w := by
 have HR := Aside0.mk hr
 have HC := Aside0.mk hc
 have hm : l.length ≤ 9223372036854775807 := hr.2.1
 clear hr hc
 go_enter Tryz.func179, Tryz.ntmps179
 go_wp2
 go_loopw [8] (fun i wr => ∃ (k : Int), 0 ≤ k ∧ k ≤ l.length ∧ i = .int .i64 k ∧ Aside0 ((l.take k.toNat).any kindB = false) ∧ wr = w) (fun i _ => l.length - (intOf i).toNat)
 case atStart => exact ⟨0, by omega, by omega, rfl, ⟨by simp⟩, rfl⟩
 case round =>
  obtain ⟨k, hk0, hk, rfl, HT, rfl⟩ := hrel
  by_cases hlt : k < l.length
  · obtain ⟨ad, e0, hx⟩ := Kd.at_int HR.out k hk0 hlt
    cases e0
    obtain ⟨x, hxx⟩ : ∃ x, rd l k = x := ⟨_, rfl⟩
    rw [hxx] at hx
    have hg : l[k.toNat]? = some x := by
     rw [← hxx]; unfold rd
     rw [List.getElem?_eq_getElem (by omega)]
     simp [List.getD_eq_getElem?_getD, List.getElem?_eq_getElem (show k.toNat < l.length by omega)]
    have hT : l.take (k.toNat + 1) = l.take k.toNat ++ [x] := by rw [List.take_add_one, hg]; rfl
    have HT2 := Aside0.mk hT
    have HG := Aside0.mk hg
    clear hT hg hxx
    obtain ⟨b, hb⟩ : ∃ b, kindB x = b := ⟨_, rfl⟩
    have HKB := Aside0.mk hb
    clear hb
    cases b with
    | true =>
     go_wp2_with fail
     refine (kind_any x _).mono ?_
     rintro e w' ⟨rfl, rfl⟩
     rw [HKB.out]
     go_wp2
     go_ret
     refine ⟨⟨k, rfl, ?_⟩, rfl⟩
     rw [decide_eq_true hk0, List.any_eq_true]
     exact ⟨x, List.mem_of_getElem? HG.out, HKB.out⟩
    | false =>
     go_wp2_with fail
     refine (kind_any x _).mono ?_
     rintro e w' ⟨rfl, rfl⟩
     rw [HKB.out]
     go_wp2
     go_roundw
     case rel => exact ⟨k + 1, by omega, by omega, by go_num, ⟨by rw [show (k + 1).toNat = k.toNat + 1 by omega, HT2.out, List.any_append, HT.out]; simp [HKB.out]⟩, by trivial⟩
     case measure => simp [intOf]; omega
  · have hT := HT.out
    rw [show k.toNat = l.length by omega, List.take_length] at hT
    have HT2 := Aside0.mk hT
    clear hT
    go_wp2
    go_ret
    exact ⟨⟨-1, rfl, by rw [HT2.out]; rfl⟩, by first | rfl | trivial⟩
theorem containsKind_any (A : Option Addr) (c : Nat) (l : List Int) (w : World) (hr : Kd.C (Kd.int .i64) w A l.length l) (hc : l.length ≤ c) :
 Calls Tryz.prog 103 #[.slice A l.length c, .func (.func 102) #[] #[]] w fun e w' => e = .returned (.bool (l.any kindB)) ∧ w' = w := by
 have HR := Aside0.mk hr
 have HC := Aside0.mk hc
 clear hr hc
 go_enter Tryz.func103, Tryz.ntmps103
 go_wp2_with fail
 refine (indexKind_any A c l _ HR.out HC.out).mono ?_
 rintro e w' ⟨⟨r, rfl, hr⟩, rfl⟩
 have E := Aside0.mk hr
 clear hr
 go_wp2
 go_ret
 exact ⟨by rw [E.out]; rfl, rfl⟩
end Go.Proofs.YtgalkkolbobmbaaGreat.V
