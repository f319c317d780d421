/- The Go functions bytes.Equal, bytes.HasPrefix, bytes.CutPrefix, as code.Object calls them. -/
import Derived.Test.YtccolpkjgjjipaaCStr
namespace Go.Proofs.Ytccolpkjgjjipaa.K
open Go.RowKit Go.Proofs.YtccolpkjgjjipaaW.PrintWords Go.Proofs.YtccolpkjgjjipaaW.PrintLast Go.Proofs.YtccolpkjgjjipaaW.PrintMore
set_option linter.unusedVariables false
set_option linter.unusedSimpArgs false
/-- The same bytes? -/
def sameB (xs ys : List Int) : Bool := (strOfNums xs).toList == (strOfNums ys).toList
set_option maxHeartbeats 1000000 in
theorem bequal_any (A B : Option Addr) (n m c d : Nat) (xs ys : List Int) (w : World) (hx : Kd.C (Kd.int .u8) w A n xs) (hy : Kd.C (Kd.int .u8) w B m ys) :
    Calls Try.prog 36 #[.slice A n c, .slice B m d] w fun e w' => e = .returned (.bool (sameB xs ys)) ∧ w' = w := by
  have h1 := Kd.C_string (P := Try.prog) (c := c) Try.underlying22 Try.underlying5 Try.underlying9 hx
  have h2 := Kd.C_string (P := Try.prog) (c := d) Try.underlying22 Try.underlying5 Try.underlying9 hy
  clear hx hy
  go_enter Try.func36, Try.ntmps36
  go_wp2
  go_ret
  exact ⟨rfl, rfl⟩
theorem C_four {w : World} {gp : Nat} {fr : Nat × Nat} (h : w.heap[gp]? = some (.cells #[.int .u8 65, .int .u8 83, .int .u8 84, .int .u8 49] 5 fr)) : Kd.C (Kd.int .u8) w (some ⟨gp, 0, none⟩) 4 [65, 83, 84, 49] := by
  refine ⟨rfl, by decide, fun _ => ⟨_, rfl, fun j p hj => ?_⟩⟩
  refine ⟨[.int .u8 p], rfl, rfl, fun i u hu => ?_⟩
  have hi : i = 0 := by
    rcases Nat.eq_zero_or_pos i with h0 | h0
    · exact h0
    · rw [List.getElem?_eq_none (by simp; omega)] at hu; cases hu
  subst hi
  have hu' : u = .int .u8 p := by simpa using hu.symm
  subst hu'
  have hsz : (Kd.int .u8).sz = 1 := rfl
  rw [hsz, Addr.add_lit]
  unfold World.cell?
  rw [show (⟨gp, 0 + (j * 1 + 0), none⟩ : Addr).block = gp from rfl, h]
  have hjl : j < 4 := by
    have := (List.getElem?_eq_some_iff.1 hj).1
    simpa using this
  rcases (by omega : j = 0 ∨ j = 1 ∨ j = 2 ∨ j = 3) with rfl | rfl | rfl | rfl <;> simp at hj <;> subst hj <;> rfl
theorem C_take {w : World} {A : Option Addr} {xs : List Int} (k : Nat) (hk : k ≤ xs.length) (h : Kd.C (Kd.int .u8) w A xs.length xs) : Kd.C (Kd.int .u8) w A k (xs.take k) := by
  obtain ⟨h1, h2, h3⟩ := h
  refine ⟨by rw [List.length_take]; omega, by omega, fun hn => ?_⟩
  obtain ⟨ad, e, hc⟩ := h3 (by omega)
  refine ⟨ad, e, fun j p hj => hc j p ?_⟩
  have := (List.getElem?_eq_some_iff.1 hj).1
  rw [List.getElem?_take] at hj
  split at hj
  · exact hj
  · cases hj
set_option maxHeartbeats 1000000 in
theorem hasPrefix_any (A : Option Addr) (c gp : Nat) (fr : Nat × Nat) (xs : List Int) (w : World) (hx : Kd.C (Kd.int .u8) w A xs.length xs) (hc : xs.length ≤ c) (hp : w.heap[gp]? = some (.cells #[.int .u8 65, .int .u8 83, .int .u8 84, .int .u8 49] 5 fr)) :
    Calls Try.prog 63 #[.slice A xs.length c, .slice (some ⟨gp, 0, none⟩) 4 4] w fun e w' => e = .returned (.bool (decide (4 ≤ xs.length) && sameB (xs.take 4) [65, 83, 84, 49])) ∧ w' = w := by
  by_cases h4 : 4 ≤ xs.length
  · have E := Aside0.mk (bequal_any A (some ⟨gp, 0, none⟩) 4 4 c 4 (xs.take 4) [65, 83, 84, 49] w (C_take 4 h4 hx) (C_four hp))
    have d1 : decide (4 ≤ (xs.length : Int)) = true := decide_eq_true (by omega)
    have d2 : (4 : Int) ≤ (c : Int) := by omega
    have HD := Aside0.mk (show decide (4 ≤ xs.length) = true from decide_eq_true h4)
    clear hx hp h4
    go_enter Try.func63, Try.ntmps63
    go_wp2_with (go_at_call 36; refine E.out.mono ?_; rintro e w' ⟨rfl, rfl⟩)
    go_ret
    refine ⟨?_, rfl⟩
    rw [HD.out, Bool.true_and]
    rfl
  · have d1 : decide (4 ≤ (xs.length : Int)) = false := decide_eq_false (by omega)
    have HD := Aside0.mk (show decide (4 ≤ xs.length) = false from decide_eq_false h4)
    clear hx hp h4
    go_enter Try.func63, Try.ntmps63
    go_wp2_with fail
    go_ret
    exact ⟨by rw [HD.out]; rfl, rfl⟩
/-- What is left behind the first four: read as a list. -/
def cutA (A : Option Addr) (c : Nat) : Option Addr := if c = 4 then A else A.map fun ad => ⟨ad.block, ad.off + 4, none⟩
theorem C_cut {w : World} {A : Option Addr} {c : Nat} {xs : List Int} (h4 : 4 ≤ xs.length) (hc : xs.length ≤ c) (h : Kd.C (Kd.int .u8) w A xs.length xs) : Kd.C (Kd.int .u8) w (cutA A c) (xs.drop 4).length (xs.drop 4) := by
  have := Kd.C_drop (m := 4) (c := c) h h4 hc
  have e : cutA A c = if c = 4 then A else A.map (·.add (4 * (Kd.int .u8).sz)) := by
    unfold cutA
    split
    · rfl
    · congr 1
  rw [e]
  exact this
set_option maxHeartbeats 1000000 in
theorem cutPrefix_no (A : Option Addr) (c gp : Nat) (fr : Nat × Nat) (xs : List Int) (w : World) (hx : Kd.C (Kd.int .u8) w A xs.length xs) (hc : xs.length ≤ c) (hp : w.heap[gp]? = some (.cells #[.int .u8 65, .int .u8 83, .int .u8 84, .int .u8 49] 5 fr)) (hb : (decide (4 ≤ xs.length) && sameB (xs.take 4) [65, 83, 84, 49]) = false) :
    Calls Try.prog 28 #[.slice A xs.length c, .slice (some ⟨gp, 0, none⟩) 4 4] w fun e w' => e = .returned (.tuple #[.slice A xs.length c, .bool false]) ∧ w' = w := by
  have E := hasPrefix_any A c gp fr xs w hx hc hp
  rw [hb] at E
  have EE := Aside0.mk E
  clear E hb hx hp
  go_enter Try.func28, Try.ntmps28
  go_wp2_with (go_at_call 63; refine EE.out.mono ?_; rintro e w' ⟨rfl, rfl⟩)
  go_ret2
  exact ⟨rfl, rfl⟩
set_option maxHeartbeats 1000000 in
theorem cutPrefix_yes (A : Option Addr) (c gp : Nat) (fr : Nat × Nat) (xs : List Int) (w : World) (hx : Kd.C (Kd.int .u8) w A xs.length xs) (hc : xs.length ≤ c) (hp : w.heap[gp]? = some (.cells #[.int .u8 65, .int .u8 83, .int .u8 84, .int .u8 49] 5 fr)) (hb : (decide (4 ≤ xs.length) && sameB (xs.take 4) [65, 83, 84, 49]) = true) :
    Calls Try.prog 28 #[.slice A xs.length c, .slice (some ⟨gp, 0, none⟩) 4 4] w fun e w' => e = .returned (.tuple #[.slice (cutA A c) (xs.length - 4) (c - 4), .bool true]) ∧ w' = w := by
  have E := hasPrefix_any A c gp fr xs w hx hc hp
  rw [hb] at E
  have EE := Aside0.mk E
  have h4 : 4 ≤ xs.length := by
    simp only [Bool.and_eq_true, decide_eq_true_eq] at hb
    exact hb.1
  obtain ⟨ad, rfl, _⟩ := hx.2.2 (by omega)
  have d2 : (4 : Int) ≤ (xs.length : Int) := by omega
  have d3 : (xs.length : Int) ≤ (c : Int) := by omega
  clear E hb hx hp
  by_cases h1 : c = 4
  · subst h1
    have HA := Aside0.mk (show cutA (some ad) 4 = some ad from rfl)
    go_enter Try.func28, Try.ntmps28
    go_wp2_with (go_at_call 63; refine EE.out.mono ?_; rintro e w' ⟨rfl, rfl⟩)
    go_ret2
    refine ⟨?_, rfl⟩
    rw [HA.out, show xs.length - 4 = 0 by omega]
    rfl
  · have HA := Aside0.mk (show cutA (some ad) c = some ⟨ad.block, ad.off + 4, none⟩ by unfold cutA; rw [if_neg h1]; rfl)
    go_enter Try.func28, Try.ntmps28
    go_wp2_with (go_at_call 63; refine EE.out.mono ?_; rintro e w' ⟨rfl, rfl⟩)
    go_ret2
    refine ⟨?_, rfl⟩
    rw [HA.out]
    rfl
#print axioms cutPrefix_yes
#print axioms cutPrefix_no
end Go.Proofs.Ytccolpkjgjjipaa.K
