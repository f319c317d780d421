/- The Go functions may$1 (is a number outside?), slices.IndexFunc and slices.ContainsFunc over it. -/
import Derived.Test.YtediidkiedifcaaQ0
namespace Go.Proofs.Ytediidkiedifcaa.Q
set_option linter.unusedVariables false
set_option linter.unusedSimpArgs false
open Go.RowKit Go.Proofs.YtediidkiedifcaaW.PrintWords Go.Proofs.YtediidkiedifcaaW.PrintLast Go.Proofs.YtediidkiedifcaaW.PrintMore
def outB (at_ n : Int) : Bool := decide (n < 0) || decide (at_ ≤ n)
abbrev fOut (g : Nat) : Value := .func (.func 47) #[] #[.pointer (some ⟨g, 0, none⟩)]
set_option maxHeartbeats 1000000 in
theorem out_any (g : Nat) (at_ n : Int) (w : World) (h : w.heap[g]? = some (.cells #[.int .i64 at_] 3 (0, 0))) :
    Calls Try.prog 47 #[.int .i64 n, .pointer (some ⟨g, 0, none⟩)] w fun e w' => e = .returned (.bool (outB at_ n)) ∧ w' = w := by
  have c0 := (blk_cell h 0).trans rfl
  by_cases h0 : n < 0
  · have d0 : decide (n < 0) = true := decide_eq_true h0
    have HX := Aside0.mk (show outB at_ n = true by unfold outB; rw [d0, Bool.true_or])
    clear h
    go_enter Try.func47, Try.ntmps47
    go_wp2
    go_ret
    exact ⟨by rw [HX.out]; rfl, rfl⟩
  · have d0 : decide (n < 0) = false := decide_eq_false h0
    have HX := Aside0.mk (show outB at_ n = decide (at_ ≤ n) by unfold outB; rw [d0, Bool.false_or])
    clear h
    go_enter Try.func47, Try.ntmps47
    go_wp2
    go_ret
    exact ⟨by rw [HX.out]; rfl, rfl⟩
theorem rd_nat' {l : List Int} {i : Nat} (h : i < l.length) : rd l (i : Int) = l[i] := by
  unfold rd
  simp [List.getD_eq_getElem?_getD, List.getElem?_eq_getElem h]
theorem wrap_i64' {n : Int} (h0 : 0 ≤ n) (h : n ≤ 9223372036854775807) : wrap64 n = n := by
  unfold wrap64; omega
set_option maxHeartbeats 2000000 in
theorem index_out (g : Nat) (at_ : Int) (A : Option Addr) (c : Nat) (l : List Int) (w : World) (hC : Kd.C (Kd.int .i64) w A l.length l) (hc : l.length ≤ c) (hl : l.length ≤ 4000000000000000000) (h : w.heap[g]? = some (.cells #[.int .i64 at_] 3 (0, 0))) :
    Calls Try.prog 60 #[.slice A l.length c, fOut g] w fun e w' => (∃ r : Int, e = .returned (.int .i64 r) ∧ (decide (0 ≤ r)) = l.any (outB at_)) ∧ w' = w := by
  have HC := Aside0.mk hC
  have HK := Aside0.mk h
  have HL := Aside0.mk hl
  clear hC h hl
  go_enter Try.func60, Try.ntmps60
  go_wp2
  go_loopw [5, 8] (fun _ v8 wr => ∃ x : Int, v8 = .int .i64 x ∧ Aside0 (0 ≤ x ∧ x ≤ (l.length : Int) ∧ ((l.drop x.toNat).any (outB at_)) = l.any (outB at_)) ∧ wr = w) (fun _ v8 _ => l.length - (intOf v8).toNat)
  case atStart => exact ⟨0, rfl, ⟨by omega, by omega, by simp⟩, rfl⟩
  case round =>
    obtain ⟨x, rfl, HX, rfl⟩ := hrel
    by_cases hlt : x < (l.length : Int)
    · have p0 := HX.out.1
      have q0 := hlt
      obtain ⟨ad, ea, ha⟩ := Kd.at_int HC.out x p0 q0
      cases ea
      have hi : x.toNat < l.length := by omega
      have hrd : rd l x = l[x.toNat] := by
        have := rd_nat' hi
        rwa [Int.toNat_of_nonneg p0] at this
      have hdrop : (l.drop x.toNat).any (outB at_) = (outB at_ (rd l x) || (l.drop (x.toNat + 1)).any (outB at_)) := by
        rw [List.drop_eq_getElem_cons hi, List.any_cons, hrd]
      have HD := Aside0.mk hdrop
      have HLT := Aside0.mk hlt
      have KO := Aside0.mk (out_any g at_ (rd l x) wr HK.out)
      obtain ⟨b, hb⟩ : ∃ b, outB at_ (rd l x) = b := ⟨_, rfl⟩
      rw [hb] at HD KO
      clear hlt hi hrd hdrop hb
      replace p0 := eq_true p0
      replace q0 := eq_true q0
      cases b with
      | true =>
        go_wp2_with (go_at_call 47; refine KO.out.mono ?_; rintro e w' ⟨rfl, rfl⟩)
        go_ret
        refine ⟨⟨_, rfl, ?_⟩, rfl⟩
        rw [← HX.out.2.2, HD.out, Bool.true_or]
        exact decide_eq_true HX.out.1
      | false =>
        go_wp2_with (go_at_call 47; refine KO.out.mono ?_; rintro e w' ⟨rfl, rfl⟩)
        go_roundw
        case rel =>
          have h1 := HX.out
          have h2 := HLT.out
          have h3 := HL.out
          refine ⟨x + 1, by rw [wrap_i64' (by omega) (by omega)], ⟨by omega, by omega, ?_⟩, by trivial⟩
          rw [← h1.2.2, HD.out, Bool.false_or, show (x + 1).toNat = x.toNat + 1 by omega]
        case measure =>
          have h1 := HX.out
          have h2 := HLT.out
          have h3 := HL.out
          have hw := wrap_i64' (n := x + 1) (by omega) (by omega)
          simp [intOf, hw]
          omega
    · have q0 : decide (x < (l.length : Int)) = false := decide_eq_false hlt
      have HE := Aside0.mk (show l.any (outB at_) = false by
        rw [← HX.out.2.2, List.drop_of_length_le (by omega)]
        rfl)
      clear hlt
      go_wp2
      go_ret
      refine ⟨⟨_, rfl, ?_⟩, rfl⟩
      rw [HE.out]
      decide
set_option maxHeartbeats 1000000 in
theorem contains_out (g : Nat) (at_ : Int) (A : Option Addr) (c : Nat) (l : List Int) (w : World) (hC : Kd.C (Kd.int .i64) w A l.length l) (hc : l.length ≤ c) (hl : l.length ≤ 4000000000000000000) (h : w.heap[g]? = some (.cells #[.int .i64 at_] 3 (0, 0))) :
    Calls Try.prog 50 #[.slice A l.length c, fOut g] w fun e w' => e = .returned (.bool (l.any (outB at_))) ∧ w' = w := by
  have K := Aside0.mk (index_out g at_ A c l w hC hc hl h)
  clear hC hc hl h
  go_enter Try.func50, Try.ntmps50
  go_wp2_with (go_at_call 60; refine K.out.mono ?_; rintro e w' ⟨⟨r, rfl, hr⟩, rfl⟩; have HR := Aside0.mk hr; clear hr)
  go_ret
  exact ⟨by rw [← HR.out]; rfl, rfl⟩
#print axioms contains_out
end Go.Proofs.Ytediidkiedifcaa.Q
