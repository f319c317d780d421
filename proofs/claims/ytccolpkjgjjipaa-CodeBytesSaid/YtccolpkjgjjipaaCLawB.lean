/- The law CodeBytes, walked. -/
import Derived.Test.YtccolpkjgjjipaaCEq
import Derived.Test.YtccolpkjgjjipaaCSame
import Derived.Test.YtccolpkjgjjipaaCRound
import Derived.Test.YtccolpkjgjjipaaK3
import Derived.Test.YtccolpkjgjjipaaCInv
import Derived.Lib.SmallJoins
namespace Go.Proofs.Ytccolpkjgjjipaa.K
set_option linter.unusedVariables false
set_option linter.unusedSimpArgs false
open Go.RowKit Go.Proofs.YtccolpkjgjjipaaW.PrintWords Go.Proofs.YtccolpkjgjjipaaW.PrintLast Go.Proofs.YtccolpkjgjjipaaW.PrintMore Go.Proofs.Ytccolpkjgjjipaa.Inv
theorem aliveB_true : astrolabelaw16_alive.f = some true := by decide +kernel
theorem great_some  (l0 : List Int) (l1 : List Int) (l2 : List Int) (l3 : List Int) (a4 : Int) (a5 : Int) (l6 : List S47) (l7 : List S47) (l8 : List S47) (l9 : List S47) : ∃ b, astrolaberef16_Great.f l0 l1 l2 l3 a4 a5 l6 l7 l8 l9 = some b := by
  unfold astrolaberef16_Great.f
  split
  · exact ⟨_, rfl⟩
  · exact ⟨_, rfl⟩
theorem great_no {l0 : List Int} {l1 : List Int} {l2 : List Int} {l3 : List Int} {a4 : Int} {a5 : Int} {l6 : List S47} {l7 : List S47} {l8 : List S47} {l9 : List S47} (h : astrolaberef16_Great.f l0 l1 l2 l3 a4 a5 l6 l7 l8 l9 = some false) (hn0 : l0.length ≤ 140737488351232) (hn1 : l1.length ≤ 140737488351232) (hn2 : l2.length ≤ 140737488351232) (hn3 : l3.length ≤ 140737488351232) (hn6 : l6.length ≤ 140737488351232) (hn7 : l7.length ≤ 140737488351232) (hn8 : l8.length ≤ 140737488351232) (hn9 : l9.length ≤ 140737488351232) : l0.length + l1.length + l2.length + l3.length ≤ 400 ∧ l6.length + l7.length + l8.length + l9.length ≤ 3000 := by
  unfold astrolaberef16_Great.f at h
  rw [wrap_i64 (n := (l0.length : Int) + (l1.length : Int)) (by omega) (by omega), wrap_i64 (n := (l0.length : Int) + (l1.length : Int) + (l2.length : Int)) (by omega) (by omega), wrap_i64 (n := (l0.length : Int) + (l1.length : Int) + (l2.length : Int) + (l3.length : Int)) (by omega) (by omega), wrap_i64 (n := (l6.length : Int) + (l7.length : Int)) (by omega) (by omega), wrap_i64 (n := (l6.length : Int) + (l7.length : Int) + (l8.length : Int)) (by omega) (by omega), wrap_i64 (n := (l6.length : Int) + (l7.length : Int) + (l8.length : Int) + (l9.length : Int)) (by omega) (by omega)] at h
  by_cases c : (l0.length : Int) + (l1.length : Int) + (l2.length : Int) + (l3.length : Int) > 400
  · rw [if_pos c] at h
    cases h
  · rw [if_neg c] at h
    have h2 := of_decide_eq_false (Option.some.inj h)
    omega
/-- What each operation that is over has left; the world has only grown. -/
structure IV (wR : World) (A : Nat → Value → World → Prop) (l : Nat → Bool) (vs : Nat → Value) (W : World) : Prop where
  b : Below wR.heap.size wR W
  a : ∀ j, l j = true → A j (vs j) W
theorem IV.plain {wR W : World} {A : Nat → Value → World → Prop} {l : Nat → Bool} {vs : Nat → Value} (h : IV wR A l vs W) (i : Nat) (v : Value) (hv : A i v W) : IV wR A (don l i) (upd vs i v) W := by
  refine ⟨h.b, fun j hj => ?_⟩
  by_cases e : j = i
  · subst e
    rw [upd_self]
    exact hv
  · rw [upd_ne vs v e]
    rw [don_ne l e] at hj
    exact h.a j hj
theorem IV.call {wR W W' : World} {A : Nat → Value → World → Prop} {l : Nat → Bool} {vs : Nat → Value} (h : IV wR A l vs W) (hA : ∀ j v W W', A j v W → Below W.heap.size W W' → A j v W') (hb : Below W.heap.size W W') (i : Nat) (v : Value) (hv : A i v W') : IV wR A (don l i) (upd vs i v) W' := by
  refine ⟨h.b.trans (hb.mono h.b.size), fun j hj => ?_⟩
  by_cases e : j = i
  · subst e
    rw [upd_self]
    exact hv
  · rw [upd_ne vs v e]
    rw [don_ne l e] at hj
    exact hA _ _ _ _ (h.a j hj) hb
theorem wanted_of {o : Oper} {ops : Array Oper} {tmps : Array Value} {j x : Nat} {want b : Bool} (hg : o.guard = some (j, want)) (hd : (ops[j]?).bind (·.dst) = some x) (hv : tmps[x]? = some (.bool b)) : Region.wanted o (yielded ops tmps) = (b == want) := by
  unfold Region.wanted yielded
  rw [hg]
  simp only [hd, Option.bind_some, hv]
  cases b <;> cases want <;> rfl
theorem eqF_same (l0_0 : List Int) (l0_1 : List Int) (l0_2 : List Int) (l0_3 : List Int) (a0_4 : Int) (a0_5 : Int) (l0_6 : List S47) (l0_7 : List S47) (l0_8 : List S47) (l0_9 : List S47) (l1_0 : List Int) (l1_1 : List Int) (l1_2 : List Int) (l1_3 : List Int) (a1_4 : Int) (a1_5 : Int) (l1_6 : List S47) (l1_7 : List S47) (l1_8 : List S47) (l1_9 : List S47) : eqF l0_0 l0_1 l0_2 l0_3 a0_4 a0_5 l0_6 l0_7 l0_8 l0_9 l1_0 l1_1 l1_2 l1_3 a1_4 a1_5 l1_6 l1_7 l1_8 l1_9 = sameF l0_0 l0_1 l0_2 l0_3 a0_4 a0_5 l0_6 l0_7 l0_8 l0_9 l1_0 l1_1 l1_2 l1_3 a1_4 a1_5 l1_6 l1_7 l1_8 l1_9 := by
  unfold eqF sameF
  generalize (l0_0 == l1_0) = b0
  generalize (l0_1 == l1_1) = b1
  generalize (l0_2 == l1_2) = b2
  generalize (l0_3 == l1_3) = b3
  generalize (a0_4 == a1_4) = b4
  generalize (a0_5 == a1_5) = b5
  generalize eqS l0_6 l1_6 = b6
  generalize eqS l0_7 l1_7 = b7
  generalize eqS l0_8 l1_8 = b8
  generalize eqS l0_9 l1_9 = b9
  cases b0 <;> cases b1 <;> cases b2 <;> cases b3 <;> cases b4 <;> cases b5 <;> simp
theorem eqF_self (l0 : List Int) (l1 : List Int) (l2 : List Int) (l3 : List Int) (a4 : Int) (a5 : Int) (l6 : List S47) (l7 : List S47) (l8 : List S47) (l9 : List S47) : eqF l0 l1 l2 l3 a4 a5 l6 l7 l8 l9 l0 l1 l2 l3 a4 a5 l6 l7 l8 l9 = true := by
  have e : ∀ l : List S47, eqS l l = true := fun l => eqS_iff.2 rfl
  simp [eqF, e]
def RB (y : List Int) (q : Bool) (YV AA AB AO : Value) (j : Nat) (v : Value) (W : World) : Prop :=
  match j with
  | 0 => v = YV
  | 1 => v = .string (strOfNums y)
  | 2 => v = AA
  | 3 => ∃ A c, v = .slice A y.length c ∧ Kd.C (Kd.int .u8) W A y.length y
  | 4 => v = .string (strOfNums y)
  | 5 => v = .bool true
  | 6 => v = .bool true
  | 7 => v = .bool true
  | 8 => v = .bool true
  | 9 => v = .bool true
  | 10 => v = AO
  | 11 => v = AA
  | 12 => v = .bool true
  | 13 => v = .bool true
  | 14 => v = .bool true
  | 15 => v = AA
  | 16 => v = .int .i64 (y.length : Int)
  | 17 => v = YV
  | 18 => v = .int .i64 (y.length : Int)
  | 19 => v = .bool true
  | 20 => v = .bool true
  | 21 => v = .bool true
  | 22 => v = AA
  | 23 => v = AB
  | 24 => v = .bool q
  | 25 => v = AA
  | 26 => v = AB
  | 27 => v = .bool q
  | 28 => v = .bool true
  | 29 => v = .bool true
  | 30 => v = .bool true
  | 31 => v = AA
  | 32 => v = AO
  | 33 => v = .bool true
  | 34 => v = .bool true
  | 35 => v = .bool true
  | _ => True
theorem RB_keep {y : List Int} {q : Bool} {YV AA AB AO : Value} {j : Nat} {v : Value} {W W' : World} (h : RB y q YV AA AB AO j v W) (hb : Below W.heap.size W W') : RB y q YV AA AB AO j v W' := by
  unfold RB at h ⊢
  split at h
  · exact h
  · exact h
  · exact h
  · obtain ⟨A, c, e, hc⟩ := h
    exact ⟨A, c, e, Kd.C_below hc hb⟩
  · exact h
  · exact h
  · exact h
  · exact h
  · exact h
  · exact h
  · exact h
  · exact h
  · exact h
  · exact h
  · exact h
  · exact h
  · exact h
  · exact h
  · exact h
  · exact h
  · exact h
  · exact h
  · exact h
  · exact h
  · exact h
  · exact h
  · exact h
  · exact h
  · exact h
  · exact h
  · exact h
  · exact h
  · exact h
  · exact h
  · exact h
  · exact h
  · trivial
set_option maxHeartbeats 8000000 in
set_option maxRecDepth 100000 in
theorem bytes_walk (A0_0 : Option Addr) (c0_0 : Nat) (l0_0 : List Int) (A0_1 : Option Addr) (c0_1 : Nat) (l0_1 : List Int) (A0_2 : Option Addr) (c0_2 : Nat) (l0_2 : List Int) (A0_3 : Option Addr) (c0_3 : Nat) (l0_3 : List Int) (a0_4 : Int) (a0_5 : Int) (A0_6 : Option Addr) (c0_6 : Nat) (l0_6 : List S47) (A0_7 : Option Addr) (c0_7 : Nat) (l0_7 : List S47) (A0_8 : Option Addr) (c0_8 : Nat) (l0_8 : List S47) (A0_9 : Option Addr) (c0_9 : Nat) (l0_9 : List S47) (A1_0 : Option Addr) (c1_0 : Nat) (l1_0 : List Int) (A1_1 : Option Addr) (c1_1 : Nat) (l1_1 : List Int) (A1_2 : Option Addr) (c1_2 : Nat) (l1_2 : List Int) (A1_3 : Option Addr) (c1_3 : Nat) (l1_3 : List Int) (a1_4 : Int) (a1_5 : Int) (A1_6 : Option Addr) (c1_6 : Nat) (l1_6 : List S47) (A1_7 : Option Addr) (c1_7 : Nat) (l1_7 : List S47) (A1_8 : Option Addr) (c1_8 : Nat) (l1_8 : List S47) (A1_9 : Option Addr) (c1_9 : Nat) (l1_9 : List S47) (w : World) (hr0_0 : Kd.C (Kd.int .i64) w A0_0 l0_0.length l0_0) (hc0_0 : l0_0.length ≤ c0_0) (hn0_0 : l0_0.length ≤ 140737488351232) (hr0_1 : Kd.C (Kd.int .i64) w A0_1 l0_1.length l0_1) (hc0_1 : l0_1.length ≤ c0_1) (hn0_1 : l0_1.length ≤ 140737488351232) (hr0_2 : Kd.C (Kd.int .i64) w A0_2 l0_2.length l0_2) (hc0_2 : l0_2.length ≤ c0_2) (hn0_2 : l0_2.length ≤ 140737488351232) (hr0_3 : Kd.C (Kd.int .i64) w A0_3 l0_3.length l0_3) (hc0_3 : l0_3.length ≤ c0_3) (hn0_3 : l0_3.length ≤ 140737488351232) (hr0_6 : Kd.C k47 w A0_6 l0_6.length l0_6) (hc0_6 : l0_6.length ≤ c0_6) (hn0_6 : l0_6.length ≤ 140737488351232) (hr0_7 : Kd.C k47 w A0_7 l0_7.length l0_7) (hc0_7 : l0_7.length ≤ c0_7) (hn0_7 : l0_7.length ≤ 140737488351232) (hr0_8 : Kd.C k47 w A0_8 l0_8.length l0_8) (hc0_8 : l0_8.length ≤ c0_8) (hn0_8 : l0_8.length ≤ 140737488351232) (hr0_9 : Kd.C k47 w A0_9 l0_9.length l0_9) (hc0_9 : l0_9.length ≤ c0_9) (hn0_9 : l0_9.length ≤ 140737488351232) (hr1_0 : Kd.C (Kd.int .i64) w A1_0 l1_0.length l1_0) (hc1_0 : l1_0.length ≤ c1_0) (hn1_0 : l1_0.length ≤ 140737488351232) (hr1_1 : Kd.C (Kd.int .i64) w A1_1 l1_1.length l1_1) (hc1_1 : l1_1.length ≤ c1_1) (hn1_1 : l1_1.length ≤ 140737488351232) (hr1_2 : Kd.C (Kd.int .i64) w A1_2 l1_2.length l1_2) (hc1_2 : l1_2.length ≤ c1_2) (hn1_2 : l1_2.length ≤ 140737488351232) (hr1_3 : Kd.C (Kd.int .i64) w A1_3 l1_3.length l1_3) (hc1_3 : l1_3.length ≤ c1_3) (hn1_3 : l1_3.length ≤ 140737488351232) (hr1_6 : Kd.C k47 w A1_6 l1_6.length l1_6) (hc1_6 : l1_6.length ≤ c1_6) (hn1_6 : l1_6.length ≤ 140737488351232) (hr1_7 : Kd.C k47 w A1_7 l1_7.length l1_7) (hc1_7 : l1_7.length ≤ c1_7) (hn1_7 : l1_7.length ≤ 140737488351232) (hr1_8 : Kd.C k47 w A1_8 l1_8.length l1_8) (hc1_8 : l1_8.length ≤ c1_8) (hn1_8 : l1_8.length ≤ 140737488351232) (hr1_9 : Kd.C k47 w A1_9 l1_9.length l1_9) (hc1_9 : l1_9.length ≤ c1_9) (hn1_9 : l1_9.length ≤ 140737488351232) (hin : ObIn l0_0 l0_1 l0_2 l0_3 a0_4 a0_5 l0_6 l0_7 l0_8 l0_9) :
    Calls Try.prog 8 #[.agg #[.slice A0_0 l0_0.length c0_0, .slice A0_1 l0_1.length c0_1, .slice A0_2 l0_2.length c0_2, .slice A0_3 l0_3.length c0_3, .int .i64 a0_4, .int .i64 a0_5, .slice A0_6 l0_6.length c0_6, .slice A0_7 l0_7.length c0_7, .slice A0_8 l0_8.length c0_8, .slice A0_9 l0_9.length c0_9], .agg #[.slice A1_0 l1_0.length c1_0, .slice A1_1 l1_1.length c1_1, .slice A1_2 l1_2.length c1_2, .slice A1_3 l1_3.length c1_3, .int .i64 a1_4, .int .i64 a1_5, .slice A1_6 l1_6.length c1_6, .slice A1_7 l1_7.length c1_7, .slice A1_8 l1_8.length c1_8, .slice A1_9 l1_9.length c1_9]] w fun e w' => e = .returned (.bool true) ∧ Below w.heap.size w w' := by
  obtain ⟨ga, hga⟩ := great_some l0_0 l0_1 l0_2 l0_3 a0_4 a0_5 l0_6 l0_7 l0_8 l0_9
  obtain ⟨gb, hgb⟩ := great_some l1_0 l1_1 l1_2 l1_3 a1_4 a1_5 l1_6 l1_7 l1_8 l1_9
  have hgl : ga = false → l0_0.length + l0_1.length + l0_2.length + l0_3.length ≤ 400 ∧ l0_6.length + l0_7.length + l0_8.length + l0_9.length ≤ 3000 := fun e => great_no (by rw [← e]; exact hga) hn0_0 hn0_1 hn0_2 hn0_3 hn0_6 hn0_7 hn0_8 hn0_9
  have hfew : l1_0.length ≤ 140737488351232 ∧ l1_1.length ≤ 140737488351232 ∧ l1_2.length ≤ 140737488351232 ∧ l1_3.length ≤ 140737488351232 ∧ l1_6.length ≤ 140737488351232 ∧ l1_7.length ≤ 140737488351232 ∧ l1_8.length ≤ 140737488351232 ∧ l1_9.length ≤ 140737488351232 := ⟨hn1_0, hn1_1, hn1_2, hn1_3, hn1_6, hn1_7, hn1_8, hn1_9⟩
  clear hn0_0 hn0_1 hn0_2 hn0_3 hn0_6 hn0_7 hn0_8 hn0_9 hn1_0 hn1_1 hn1_2 hn1_3 hn1_6 hn1_7 hn1_8 hn1_9
  have HR0_0 := Aside0.mk hr0_0
  have HC0_0 := Aside0.mk hc0_0
  clear hr0_0 hc0_0
  have HR0_1 := Aside0.mk hr0_1
  have HC0_1 := Aside0.mk hc0_1
  clear hr0_1 hc0_1
  have HR0_2 := Aside0.mk hr0_2
  have HC0_2 := Aside0.mk hc0_2
  clear hr0_2 hc0_2
  have HR0_3 := Aside0.mk hr0_3
  have HC0_3 := Aside0.mk hc0_3
  clear hr0_3 hc0_3
  have HR0_6 := Aside0.mk hr0_6
  have HC0_6 := Aside0.mk hc0_6
  clear hr0_6 hc0_6
  have HR0_7 := Aside0.mk hr0_7
  have HC0_7 := Aside0.mk hc0_7
  clear hr0_7 hc0_7
  have HR0_8 := Aside0.mk hr0_8
  have HC0_8 := Aside0.mk hc0_8
  clear hr0_8 hc0_8
  have HR0_9 := Aside0.mk hr0_9
  have HC0_9 := Aside0.mk hc0_9
  clear hr0_9 hc0_9
  have HR1_0 := Aside0.mk hr1_0
  have HC1_0 := Aside0.mk hc1_0
  clear hr1_0 hc1_0
  have HR1_1 := Aside0.mk hr1_1
  have HC1_1 := Aside0.mk hc1_1
  clear hr1_1 hc1_1
  have HR1_2 := Aside0.mk hr1_2
  have HC1_2 := Aside0.mk hc1_2
  clear hr1_2 hc1_2
  have HR1_3 := Aside0.mk hr1_3
  have HC1_3 := Aside0.mk hc1_3
  clear hr1_3 hc1_3
  have HR1_6 := Aside0.mk hr1_6
  have HC1_6 := Aside0.mk hc1_6
  clear hr1_6 hc1_6
  have HR1_7 := Aside0.mk hr1_7
  have HC1_7 := Aside0.mk hc1_7
  clear hr1_7 hc1_7
  have HR1_8 := Aside0.mk hr1_8
  have HC1_8 := Aside0.mk hc1_8
  clear hr1_8 hc1_8
  have HR1_9 := Aside0.mk hr1_9
  have HC1_9 := Aside0.mk hc1_9
  clear hr1_9 hc1_9
  have HGA := Aside0.mk hga
  have HGB := Aside0.mk hgb
  have HGL := Aside0.mk hgl
  have HIN := Aside0.mk hin
  clear hga hgb hgl hin hfew
  have hb : Below w.heap.size w ((w.alloc (Obj.cells #[.slice A0_0 l0_0.length c0_0, .slice A0_1 l0_1.length c0_1, .slice A0_2 l0_2.length c0_2, .slice A0_3 l0_3.length c0_3, .int .i64 a0_4, .int .i64 a0_5, .slice A0_6 l0_6.length c0_6, .slice A0_7 l0_7.length c0_7, .slice A0_8 l0_8.length c0_8, .slice A0_9 l0_9.length c0_9] 28)).alloc (Obj.cells #[.slice A1_0 l1_0.length c1_0, .slice A1_1 l1_1.length c1_1, .slice A1_2 l1_2.length c1_2, .slice A1_3 l1_3.length c1_3, .int .i64 a1_4, .int .i64 a1_5, .slice A1_6 l1_6.length c1_6, .slice A1_7 l1_7.length c1_7, .slice A1_8 l1_8.length c1_8, .slice A1_9 l1_9.length c1_9] 28)) := ((Below.refl _ _).alloc (Nat.le_refl _) _).alloc (by simp) _
  have h1 : ((w.alloc (Obj.cells #[.slice A0_0 l0_0.length c0_0, .slice A0_1 l0_1.length c0_1, .slice A0_2 l0_2.length c0_2, .slice A0_3 l0_3.length c0_3, .int .i64 a0_4, .int .i64 a0_5, .slice A0_6 l0_6.length c0_6, .slice A0_7 l0_7.length c0_7, .slice A0_8 l0_8.length c0_8, .slice A0_9 l0_9.length c0_9] 28)).alloc (Obj.cells #[.slice A1_0 l1_0.length c1_0, .slice A1_1 l1_1.length c1_1, .slice A1_2 l1_2.length c1_2, .slice A1_3 l1_3.length c1_3, .int .i64 a1_4, .int .i64 a1_5, .slice A1_6 l1_6.length c1_6, .slice A1_7 l1_7.length c1_7, .slice A1_8 l1_8.length c1_8, .slice A1_9 l1_9.length c1_9] 28)).heap[w.heap.size]? = some (.cells #[.slice A0_0 l0_0.length c0_0, .slice A0_1 l0_1.length c0_1, .slice A0_2 l0_2.length c0_2, .slice A0_3 l0_3.length c0_3, .int .i64 a0_4, .int .i64 a0_5, .slice A0_6 l0_6.length c0_6, .slice A0_7 l0_7.length c0_7, .slice A0_8 l0_8.length c0_8, .slice A0_9 l0_9.length c0_9] 28 (0, 0)) := blk_alloc (blk_new w _) _
  have h2 : ((w.alloc (Obj.cells #[.slice A0_0 l0_0.length c0_0, .slice A0_1 l0_1.length c0_1, .slice A0_2 l0_2.length c0_2, .slice A0_3 l0_3.length c0_3, .int .i64 a0_4, .int .i64 a0_5, .slice A0_6 l0_6.length c0_6, .slice A0_7 l0_7.length c0_7, .slice A0_8 l0_8.length c0_8, .slice A0_9 l0_9.length c0_9] 28)).alloc (Obj.cells #[.slice A1_0 l1_0.length c1_0, .slice A1_1 l1_1.length c1_1, .slice A1_2 l1_2.length c1_2, .slice A1_3 l1_3.length c1_3, .int .i64 a1_4, .int .i64 a1_5, .slice A1_6 l1_6.length c1_6, .slice A1_7 l1_7.length c1_7, .slice A1_8 l1_8.length c1_8, .slice A1_9 l1_9.length c1_9] 28)).heap[w.heap.size + 1]? = some (.cells #[.slice A1_0 l1_0.length c1_0, .slice A1_1 l1_1.length c1_1, .slice A1_2 l1_2.length c1_2, .slice A1_3 l1_3.length c1_3, .int .i64 a1_4, .int .i64 a1_5, .slice A1_6 l1_6.length c1_6, .slice A1_7 l1_7.length c1_7, .slice A1_8 l1_8.length c1_8, .slice A1_9 l1_9.length c1_9] 28 (0, 0)) := by
    have := blk_new (w.alloc (Obj.cells #[.slice A0_0 l0_0.length c0_0, .slice A0_1 l0_1.length c0_1, .slice A0_2 l0_2.length c0_2, .slice A0_3 l0_3.length c0_3, .int .i64 a0_4, .int .i64 a0_5, .slice A0_6 l0_6.length c0_6, .slice A0_7 l0_7.length c0_7, .slice A0_8 l0_8.length c0_8, .slice A0_9 l0_9.length c0_9] 28)) (Obj.cells #[.slice A1_0 l1_0.length c1_0, .slice A1_1 l1_1.length c1_1, .slice A1_2 l1_2.length c1_2, .slice A1_3 l1_3.length c1_3, .int .i64 a1_4, .int .i64 a1_5, .slice A1_6 l1_6.length c1_6, .slice A1_7 l1_7.length c1_7, .slice A1_8 l1_8.length c1_8, .slice A1_9 l1_9.length c1_9] 28)
    simpa using this
  go_enter Try.func8, Try.ntmps8
  go_upto_region 1 with (fail)
  obtain ⟨W0, hW⟩ : ∃ W, W = ((w.alloc (Obj.cells #[.slice A0_0 l0_0.length c0_0, .slice A0_1 l0_1.length c0_1, .slice A0_2 l0_2.length c0_2, .slice A0_3 l0_3.length c0_3, .int .i64 a0_4, .int .i64 a0_5, .slice A0_6 l0_6.length c0_6, .slice A0_7 l0_7.length c0_7, .slice A0_8 l0_8.length c0_8, .slice A0_9 l0_9.length c0_9] 28)).alloc (Obj.cells #[.slice A1_0 l1_0.length c1_0, .slice A1_1 l1_1.length c1_1, .slice A1_2 l1_2.length c1_2, .slice A1_3 l1_3.length c1_3, .int .i64 a1_4, .int .i64 a1_5, .slice A1_6 l1_6.length c1_6, .slice A1_7 l1_7.length c1_7, .slice A1_8 l1_8.length c1_8, .slice A1_9 l1_9.length c1_9] 28)) := ⟨_, rfl⟩
  rw [← hW] at hb h1 h2 ⊢
  clear hW
  have HB0 := Aside0.mk hb
  have HK0 := Aside0.mk h1
  have HL0 := Aside0.mk h2
  clear hb h1 h2
  go_upto_region 3 with (go_at_call 9; refine (astrolabelaw16_alive.calls true _ aliveB_true).mono ?_; rintro e w1 ⟨rfl, hb⟩; have HB1 := Aside0.mk (HB0.out.trans (hb.mono HB0.out.size)); have HK1 := Aside0.mk (blk_below HK0.out hb); have HL1 := Aside0.mk (blk_below HL0.out hb); clear hb HB0 HK0 HL0)
  have hk := HK1.out
  have y0_0 := (blk_cell hk 0).trans rfl
  have y0_1 := (blk_cell hk 1).trans rfl
  have y0_2 := (blk_cell hk 2).trans rfl
  have y0_3 := (blk_cell hk 3).trans rfl
  have y0_4 := (blk_cell hk 4).trans rfl
  have y0_5 := (blk_cell hk 5).trans rfl
  have y0_6 := (blk_cell hk 6).trans rfl
  have y0_7 := (blk_cell hk 7).trans rfl
  have y0_8 := (blk_cell hk 8).trans rfl
  have y0_9 := (blk_cell hk 9).trans rfl
  clear hk
  cases ga with
  | true =>
    clear HGL
    go_wp2_with (go_at_call 14; refine (astrolaberef16_Great.calls A0_0 c0_0 l0_0 A0_1 c0_1 l0_1 A0_2 c0_2 l0_2 A0_3 c0_3 l0_3 a0_4 a0_5 A0_6 c0_6 l0_6 A0_7 c0_7 l0_7 A0_8 c0_8 l0_8 A0_9 c0_9 l0_9 true _ (Kd.C_below HR0_0.out HB1.out) HC0_0.out (Kd.C_below HR0_1.out HB1.out) HC0_1.out (Kd.C_below HR0_2.out HB1.out) HC0_2.out (Kd.C_below HR0_3.out HB1.out) HC0_3.out (Kd.C_below HR0_6.out HB1.out) HC0_6.out (Kd.C_below HR0_7.out HB1.out) HC0_7.out (Kd.C_below HR0_8.out HB1.out) HC0_8.out (Kd.C_below HR0_9.out HB1.out) HC0_9.out HGA.out).mono ?_; rintro e w2 ⟨rfl, hb⟩; have HB2 := Aside0.mk (HB1.out.trans (hb.mono HB1.out.size)); clear hb HB1)
    go_ret
    exact ⟨rfl, HB2.out⟩
  | false =>
    have hgl := HGL.out rfl
    clear HGL
    have KGB := fun W (hW : Below w.heap.size w W) => astrolaberef16_Great.calls A1_0 c1_0 l1_0 A1_1 c1_1 l1_1 A1_2 c1_2 l1_2 A1_3 c1_3 l1_3 a1_4 a1_5 A1_6 c1_6 l1_6 A1_7 c1_7 l1_7 A1_8 c1_8 l1_8 A1_9 c1_9 l1_9 gb W (Kd.C_below HR1_0.out hW) HC1_0.out (Kd.C_below HR1_1.out hW) HC1_1.out (Kd.C_below HR1_2.out hW) HC1_2.out (Kd.C_below HR1_3.out hW) HC1_3.out (Kd.C_below HR1_6.out hW) HC1_6.out (Kd.C_below HR1_7.out hW) HC1_7.out (Kd.C_below HR1_8.out hW) HC1_8.out (Kd.C_below HR1_9.out hW) HC1_9.out HGB.out
    have KG := Aside0.mk KGB
    clear KGB
    cases gb with
    | true =>
      go_wp2_with (first | ((with_reducible refine gate_callee (f := 14) rfl ?_); fail) | (go_at_call 14; (with_reducible refine (astrolaberef16_Great.calls A0_0 c0_0 l0_0 A0_1 c0_1 l0_1 A0_2 c0_2 l0_2 A0_3 c0_3 l0_3 a0_4 a0_5 A0_6 c0_6 l0_6 A0_7 c0_7 l0_7 A0_8 c0_8 l0_8 A0_9 c0_9 l0_9 false _ (Kd.C_below HR0_0.out HB1.out) HC0_0.out (Kd.C_below HR0_1.out HB1.out) HC0_1.out (Kd.C_below HR0_2.out HB1.out) HC0_2.out (Kd.C_below HR0_3.out HB1.out) HC0_3.out (Kd.C_below HR0_6.out HB1.out) HC0_6.out (Kd.C_below HR0_7.out HB1.out) HC0_7.out (Kd.C_below HR0_8.out HB1.out) HC0_8.out (Kd.C_below HR0_9.out HB1.out) HC0_9.out HGA.out).mono ?_); rintro e w2 ⟨rfl, hb⟩; have HB2 := Aside0.mk (HB1.out.trans (hb.mono HB1.out.size)); have hl := blk_below HL1.out hb; have y1_0 := (blk_cell hl 0).trans rfl; have y1_1 := (blk_cell hl 1).trans rfl; have y1_2 := (blk_cell hl 2).trans rfl; have y1_3 := (blk_cell hl 3).trans rfl; have y1_4 := (blk_cell hl 4).trans rfl; have y1_5 := (blk_cell hl 5).trans rfl; have y1_6 := (blk_cell hl 6).trans rfl; have y1_7 := (blk_cell hl 7).trans rfl; have y1_8 := (blk_cell hl 8).trans rfl; have y1_9 := (blk_cell hl 9).trans rfl; clear hb hl) | (go_at_call 14; (with_reducible refine (KG.out _ HB2.out).mono ?_); rintro e w3 ⟨rfl, hb⟩; have HB3 := Aside0.mk (HB2.out.trans (hb.mono HB2.out.size)); clear hb))
      go_ret
      exact ⟨rfl, HB3.out⟩
    | false =>
      go_upto_region 5 with (first | (go_at_call 14; (with_reducible refine (astrolaberef16_Great.calls A0_0 c0_0 l0_0 A0_1 c0_1 l0_1 A0_2 c0_2 l0_2 A0_3 c0_3 l0_3 a0_4 a0_5 A0_6 c0_6 l0_6 A0_7 c0_7 l0_7 A0_8 c0_8 l0_8 A0_9 c0_9 l0_9 false _ (Kd.C_below HR0_0.out HB1.out) HC0_0.out (Kd.C_below HR0_1.out HB1.out) HC0_1.out (Kd.C_below HR0_2.out HB1.out) HC0_2.out (Kd.C_below HR0_3.out HB1.out) HC0_3.out (Kd.C_below HR0_6.out HB1.out) HC0_6.out (Kd.C_below HR0_7.out HB1.out) HC0_7.out (Kd.C_below HR0_8.out HB1.out) HC0_8.out (Kd.C_below HR0_9.out HB1.out) HC0_9.out HGA.out).mono ?_); rintro e w2 ⟨rfl, hb⟩; have HB2 := Aside0.mk (HB1.out.trans (hb.mono HB1.out.size)); have HK2 := Aside0.mk (blk_below HK1.out hb); have HL2 := Aside0.mk (blk_below HL1.out hb); have hl := HL2.out; have y1_0 := (blk_cell hl 0).trans rfl; have y1_1 := (blk_cell hl 1).trans rfl; have y1_2 := (blk_cell hl 2).trans rfl; have y1_3 := (blk_cell hl 3).trans rfl; have y1_4 := (blk_cell hl 4).trans rfl; have y1_5 := (blk_cell hl 5).trans rfl; have y1_6 := (blk_cell hl 6).trans rfl; have y1_7 := (blk_cell hl 7).trans rfl; have y1_8 := (blk_cell hl 8).trans rfl; have y1_9 := (blk_cell hl 9).trans rfl; clear hb hl HB1 HK1 HL1) | (go_at_call 14; (with_reducible refine (KG.out _ HB2.out).mono ?_); rintro e w3 ⟨rfl, hb⟩; have HB3 := Aside0.mk (HB2.out.trans (hb.mono HB2.out.size)); have HK3 := Aside0.mk (blk_below HK2.out hb); have HL3 := Aside0.mk (blk_below HL2.out hb); clear hb HB2 HK2 HL2))
      clear KG HGA HGB
      clear y0_0 y0_1 y0_2 y0_3 y0_4 y0_5 y0_6 y0_7 y0_8 y0_9 y1_0 y1_1 y1_2 y1_3 y1_4 y1_5 y1_6 y1_7 y1_8 y1_9
      have hk := HK3.out
      have y0_0 := (blk_cell hk 0).trans rfl
      have y0_1 := (blk_cell hk 1).trans rfl
      have y0_2 := (blk_cell hk 2).trans rfl
      have y0_3 := (blk_cell hk 3).trans rfl
      have y0_4 := (blk_cell hk 4).trans rfl
      have y0_5 := (blk_cell hk 5).trans rfl
      have y0_6 := (blk_cell hk 6).trans rfl
      have y0_7 := (blk_cell hk 7).trans rfl
      have y0_8 := (blk_cell hk 8).trans rfl
      have y0_9 := (blk_cell hk 9).trans rfl
      clear hk
      obtain ⟨y, hy⟩ : ∃ y, bytesB l0_0 l0_1 l0_2 l0_3 a0_4 a0_5 l0_6 l0_7 l0_8 l0_9 = y := ⟨_, rfl⟩
      have hyl : y.length ≤ 200000 := by have := bytesB_le l0_0 l0_1 l0_2 l0_3 a0_4 a0_5 l0_6 l0_7 l0_8 l0_9; rw [hy] at this; omega
      have hy4 : 4 ≤ y.length := by
        rw [← hy, bytesB, List.length_append]
        show 4 ≤ _ + 4
        omega
      have HF := Aside0.mk (show code_Bytes.f l0_0 l0_1 l0_2 l0_3 a0_4 a0_5 l0_6 l0_7 l0_8 l0_9 = some y by rw [code_Bytes.f, hy, if_pos (by omega)])
      have HOB := Aside0.mk (show code_Object.f y = some (l0_0, l0_1, l0_2, l0_3, a0_4, a0_5, l0_6, l0_7, l0_8, l0_9, true) by rw [← hy]; exact obj_round HIN.out (by omega) (by omega) (by omega) (by omega) (by omega) (by omega) (by omega) (by omega) (by rw [hy]; omega))
      obtain ⟨K, hK⟩ : ∃ K : Nat, K = 1000000 := ⟨_, rfl⟩
      have HRF := Aside0.mk (show astrolaberef16_Bytes.f K l0_0 l0_1 l0_2 l0_3 a0_4 a0_5 l0_6 l0_7 l0_8 l0_9 = some y by rw [← hy]; exact refBytes_f K HIN.out (by rw [hy]; omega) (by rw [hy]; omega))
      have HSZ := Aside0.mk (show code_Size.f l0_0 l0_1 l0_2 l0_3 a0_4 a0_5 l0_6 l0_7 l0_8 l0_9 = some (y.length : Int) by rw [code_Size.f, HF.out]; rfl)
      have HSM := Aside0.mk (show code_Same.f l0_0 l0_1 l0_2 l0_3 a0_4 a0_5 l0_6 l0_7 l0_8 l0_9 l1_0 l1_1 l1_2 l1_3 a1_4 a1_5 l1_6 l1_7 l1_8 l1_9 = some (sameF l0_0 l0_1 l0_2 l0_3 a0_4 a0_5 l0_6 l0_7 l0_8 l0_9 l1_0 l1_1 l1_2 l1_3 a1_4 a1_5 l1_6 l1_7 l1_8 l1_9) by rw [code_Same.f, if_pos ⟨by omega, by omega, by omega, by omega, by omega, by omega, by omega, by omega⟩])
      have HSO := Aside0.mk (show code_Same.f l0_0 l0_1 l0_2 l0_3 a0_4 a0_5 l0_6 l0_7 l0_8 l0_9 l0_0 l0_1 l0_2 l0_3 a0_4 a0_5 l0_6 l0_7 l0_8 l0_9 = some true by rw [code_Same.f, if_pos ⟨by omega, by omega, by omega, by omega, by omega, by omega, by omega, by omega⟩, ← eqF_same, eqF_self])
      have HFEW := Aside0.mk (show l0_0.length ≤ 4000000000000000000 ∧ l0_1.length ≤ 4000000000000000000 ∧ l0_2.length ≤ 4000000000000000000 ∧ l0_3.length ≤ 4000000000000000000 ∧ l0_6.length ≤ 4000000000000000000 ∧ l0_7.length ≤ 4000000000000000000 ∧ l0_8.length ≤ 4000000000000000000 ∧ l0_9.length ≤ 4000000000000000000 by omega)
      clear hy hgl hyl hK HIN
      go_upto_region 6 with (go_at_call 13; refine (code_Bytes.calls A0_0 c0_0 l0_0 A0_1 c0_1 l0_1 A0_2 c0_2 l0_2 A0_3 c0_3 l0_3 a0_4 a0_5 A0_6 c0_6 l0_6 A0_7 c0_7 l0_7 A0_8 c0_8 l0_8 A0_9 c0_9 l0_9 y _ (Kd.C_below HR0_0.out HB3.out) HC0_0.out (Kd.C_below HR0_1.out HB3.out) HC0_1.out (Kd.C_below HR0_2.out HB3.out) HC0_2.out (Kd.C_below HR0_3.out HB3.out) HC0_3.out (Kd.C_below HR0_6.out HB3.out) HC0_6.out (Kd.C_below HR0_7.out HB3.out) HC0_7.out (Kd.C_below HR0_8.out HB3.out) HC0_8.out (Kd.C_below HR0_9.out HB3.out) HC0_9.out HF.out).mono ?_; rintro e wb ⟨vb, rfl, hRb, hBb⟩; obtain ⟨g, dv, rfl, hg1, hg2, _⟩ := Kd.R_form hRb (by omega); have HRB := Aside0.mk hRb; have HB4 := Aside0.mk (HB3.out.trans (hBb.mono HB3.out.size)); have HK4 := Aside0.mk (blk_below HK3.out hBb); have HL4 := Aside0.mk (blk_below HL3.out hBb); clear hRb hBb hg1 hg2 HB3 HK3 HL3)
      clear y0_0 y0_1 y0_2 y0_3 y0_4 y0_5 y0_6 y0_7 y0_8 y0_9
      go_upto_region 7 with (go_at_call 10; refine (code_Object.calls (some ⟨g, 0, none⟩) dv y l0_0 l0_1 l0_2 l0_3 a0_4 a0_5 l0_6 l0_7 l0_8 l0_9 true _ (Kd.R_reads' HRB.out).2.2 (Kd.R_reads' HRB.out).2.1 HOB.out).mono ?_; rintro e wo ⟨v0, v1, v2, v3, v6, v7, v8, v9, rfl, r0, r1, r2, r3, r6, r7, r8, r9, hbo⟩; obtain ⟨B0, b0, rfl⟩ := Kd.R_slice r0; have BR0 := Aside0.mk r0; clear r0; obtain ⟨B1, b1, rfl⟩ := Kd.R_slice r1; have BR1 := Aside0.mk r1; clear r1; obtain ⟨B2, b2, rfl⟩ := Kd.R_slice r2; have BR2 := Aside0.mk r2; clear r2; obtain ⟨B3, b3, rfl⟩ := Kd.R_slice r3; have BR3 := Aside0.mk r3; clear r3; obtain ⟨B6, b6, rfl⟩ := Kd.R_slice r6; have BR6 := Aside0.mk r6; clear r6; obtain ⟨B7, b7, rfl⟩ := Kd.R_slice r7; have BR7 := Aside0.mk r7; clear r7; obtain ⟨B8, b8, rfl⟩ := Kd.R_slice r8; have BR8 := Aside0.mk r8; clear r8; obtain ⟨B9, b9, rfl⟩ := Kd.R_slice r9; have BR9 := Aside0.mk r9; clear r9; have HBO := Aside0.mk hbo; clear hbo)
      have hb5 := (HB4.out.trans (HBO.out.mono HB4.out.size)).alloc (HB4.out.trans (HBO.out.mono HB4.out.size)).size (Obj.cells #[.slice B0 l0_0.length b0, .slice B1 l0_1.length b1, .slice B2 l0_2.length b2, .slice B3 l0_3.length b3, .int .i64 a0_4, .int .i64 a0_5, .slice B6 l0_6.length b6, .slice B7 l0_7.length b7, .slice B8 l0_8.length b8, .slice B9 l0_9.length b9] 28)
      have hbb := HBO.out.alloc HBO.out.size (Obj.cells #[.slice B0 l0_0.length b0, .slice B1 l0_1.length b1, .slice B2 l0_2.length b2, .slice B3 l0_3.length b3, .int .i64 a0_4, .int .i64 a0_5, .slice B6 l0_6.length b6, .slice B7 l0_7.length b7, .slice B8 l0_8.length b8, .slice B9 l0_9.length b9] 28)
      have hk5 := blk_below HK4.out hbb
      have hl5 := blk_below HL4.out hbb
      have ho5 := blk_new wo (Obj.cells #[.slice B0 l0_0.length b0, .slice B1 l0_1.length b1, .slice B2 l0_2.length b2, .slice B3 l0_3.length b3, .int .i64 a0_4, .int .i64 a0_5, .slice B6 l0_6.length b6, .slice B7 l0_7.length b7, .slice B8 l0_8.length b8, .slice B9 l0_9.length b9] 28)
      have hcy := Kd.C_below (Kd.R_reads' HRB.out).2.2 hbb
      have hO0 := Kd.R_alloc BR0.out (Obj.cells #[.slice B0 l0_0.length b0, .slice B1 l0_1.length b1, .slice B2 l0_2.length b2, .slice B3 l0_3.length b3, .int .i64 a0_4, .int .i64 a0_5, .slice B6 l0_6.length b6, .slice B7 l0_7.length b7, .slice B8 l0_8.length b8, .slice B9 l0_9.length b9] 28)
      have hO1 := Kd.R_alloc BR1.out (Obj.cells #[.slice B0 l0_0.length b0, .slice B1 l0_1.length b1, .slice B2 l0_2.length b2, .slice B3 l0_3.length b3, .int .i64 a0_4, .int .i64 a0_5, .slice B6 l0_6.length b6, .slice B7 l0_7.length b7, .slice B8 l0_8.length b8, .slice B9 l0_9.length b9] 28)
      have hO2 := Kd.R_alloc BR2.out (Obj.cells #[.slice B0 l0_0.length b0, .slice B1 l0_1.length b1, .slice B2 l0_2.length b2, .slice B3 l0_3.length b3, .int .i64 a0_4, .int .i64 a0_5, .slice B6 l0_6.length b6, .slice B7 l0_7.length b7, .slice B8 l0_8.length b8, .slice B9 l0_9.length b9] 28)
      have hO3 := Kd.R_alloc BR3.out (Obj.cells #[.slice B0 l0_0.length b0, .slice B1 l0_1.length b1, .slice B2 l0_2.length b2, .slice B3 l0_3.length b3, .int .i64 a0_4, .int .i64 a0_5, .slice B6 l0_6.length b6, .slice B7 l0_7.length b7, .slice B8 l0_8.length b8, .slice B9 l0_9.length b9] 28)
      have hO6 := Kd.R_alloc BR6.out (Obj.cells #[.slice B0 l0_0.length b0, .slice B1 l0_1.length b1, .slice B2 l0_2.length b2, .slice B3 l0_3.length b3, .int .i64 a0_4, .int .i64 a0_5, .slice B6 l0_6.length b6, .slice B7 l0_7.length b7, .slice B8 l0_8.length b8, .slice B9 l0_9.length b9] 28)
      have hO7 := Kd.R_alloc BR7.out (Obj.cells #[.slice B0 l0_0.length b0, .slice B1 l0_1.length b1, .slice B2 l0_2.length b2, .slice B3 l0_3.length b3, .int .i64 a0_4, .int .i64 a0_5, .slice B6 l0_6.length b6, .slice B7 l0_7.length b7, .slice B8 l0_8.length b8, .slice B9 l0_9.length b9] 28)
      have hO8 := Kd.R_alloc BR8.out (Obj.cells #[.slice B0 l0_0.length b0, .slice B1 l0_1.length b1, .slice B2 l0_2.length b2, .slice B3 l0_3.length b3, .int .i64 a0_4, .int .i64 a0_5, .slice B6 l0_6.length b6, .slice B7 l0_7.length b7, .slice B8 l0_8.length b8, .slice B9 l0_9.length b9] 28)
      have hO9 := Kd.R_alloc BR9.out (Obj.cells #[.slice B0 l0_0.length b0, .slice B1 l0_1.length b1, .slice B2 l0_2.length b2, .slice B3 l0_3.length b3, .int .i64 a0_4, .int .i64 a0_5, .slice B6 l0_6.length b6, .slice B7 l0_7.length b7, .slice B8 l0_8.length b8, .slice B9 l0_9.length b9] 28)
      obtain ⟨W5, hW⟩ : ∃ W, W = wo.alloc (Obj.cells #[.slice B0 l0_0.length b0, .slice B1 l0_1.length b1, .slice B2 l0_2.length b2, .slice B3 l0_3.length b3, .int .i64 a0_4, .int .i64 a0_5, .slice B6 l0_6.length b6, .slice B7 l0_7.length b7, .slice B8 l0_8.length b8, .slice B9 l0_9.length b9] 28) := ⟨_, rfl⟩
      rw [← hW] at hb5 hbb hk5 hl5 ho5 hcy hO0 hO1 hO2 hO3 hO6 hO7 hO8 hO9 ⊢
      clear hW
      have HB5 := Aside0.mk hb5
      have HK5 := Aside0.mk hk5
      have HL5 := Aside0.mk hl5
      have HO5 := Aside0.mk ho5
      have HCY := Aside0.mk hcy
      have OO0 := Aside0.mk (Kd.R_reads' hO0)
      have OO1 := Aside0.mk (Kd.R_reads' hO1)
      have OO2 := Aside0.mk (Kd.R_reads' hO2)
      have OO3 := Aside0.mk (Kd.R_reads' hO3)
      have OO6 := Aside0.mk (Kd.R_reads' hO6)
      have OO7 := Aside0.mk (Kd.R_reads' hO7)
      have OO8 := Aside0.mk (Kd.R_reads' hO8)
      have OO9 := Aside0.mk (Kd.R_reads' hO9)
      clear hb5 hbb hk5 hl5 ho5 hcy hO0 hO1 hO2 hO3 hO6 hO7 hO8 hO9 HB4 HK4 HL4 HBO HRB BR0 BR1 BR2 BR3 BR6 BR7 BR8 BR9
      obtain ⟨q, hq⟩ : ∃ q, sameF l0_0 l0_1 l0_2 l0_3 a0_4 a0_5 l0_6 l0_7 l0_8 l0_9 l1_0 l1_1 l1_2 l1_3 a1_4 a1_5 l1_6 l1_7 l1_8 l1_9 = q := ⟨_, rfl⟩
      have HEQ := Aside0.mk (show eqF l0_0 l0_1 l0_2 l0_3 a0_4 a0_5 l0_6 l0_7 l0_8 l0_9 l1_0 l1_1 l1_2 l1_3 a1_4 a1_5 l1_6 l1_7 l1_8 l1_9 = q by rw [eqF_same, hq])
      rw [hq] at HSM
      clear hq
      have RB_keep' : ∀ j v W W', (RB y q (.slice (some ⟨g, 0, none⟩) y.length dv) (.agg #[.slice A0_0 l0_0.length c0_0, .slice A0_1 l0_1.length c0_1, .slice A0_2 l0_2.length c0_2, .slice A0_3 l0_3.length c0_3, .int .i64 a0_4, .int .i64 a0_5, .slice A0_6 l0_6.length c0_6, .slice A0_7 l0_7.length c0_7, .slice A0_8 l0_8.length c0_8, .slice A0_9 l0_9.length c0_9]) (.agg #[.slice A1_0 l1_0.length c1_0, .slice A1_1 l1_1.length c1_1, .slice A1_2 l1_2.length c1_2, .slice A1_3 l1_3.length c1_3, .int .i64 a1_4, .int .i64 a1_5, .slice A1_6 l1_6.length c1_6, .slice A1_7 l1_7.length c1_7, .slice A1_8 l1_8.length c1_8, .slice A1_9 l1_9.length c1_9]) (.agg #[.slice B0 l0_0.length b0, .slice B1 l0_1.length b1, .slice B2 l0_2.length b2, .slice B3 l0_3.length b3, .int .i64 a0_4, .int .i64 a0_5, .slice B6 l0_6.length b6, .slice B7 l0_7.length b7, .slice B8 l0_8.length b8, .slice B9 l0_9.length b9])) j v W → Below W.heap.size W W' → (RB y q (.slice (some ⟨g, 0, none⟩) y.length dv) (.agg #[.slice A0_0 l0_0.length c0_0, .slice A0_1 l0_1.length c0_1, .slice A0_2 l0_2.length c0_2, .slice A0_3 l0_3.length c0_3, .int .i64 a0_4, .int .i64 a0_5, .slice A0_6 l0_6.length c0_6, .slice A0_7 l0_7.length c0_7, .slice A0_8 l0_8.length c0_8, .slice A0_9 l0_9.length c0_9]) (.agg #[.slice A1_0 l1_0.length c1_0, .slice A1_1 l1_1.length c1_1, .slice A1_2 l1_2.length c1_2, .slice A1_3 l1_3.length c1_3, .int .i64 a1_4, .int .i64 a1_5, .slice A1_6 l1_6.length c1_6, .slice A1_7 l1_7.length c1_7, .slice A1_8 l1_8.length c1_8, .slice A1_9 l1_9.length c1_9]) (.agg #[.slice B0 l0_0.length b0, .slice B1 l0_1.length b1, .slice B2 l0_2.length b2, .slice B3 l0_3.length b3, .int .i64 a0_4, .int .i64 a0_5, .slice B6 l0_6.length b6, .slice B7 l0_7.length b7, .slice B8 l0_8.length b8, .slice B9 l0_9.length b9])) j v W' := fun j v W W' => RB_keep
      go_cut [4, 23, 24, 25, 26, 27, 28, 29, 30, 31, 32, 33, 34, 35, 36, 37, 38, 39, 40, 41, 42, 43, 44, 45, 46, 47, 48, 49, 50, 51, 52, 53, 54, 55, 56, 57] (fun v4 _ _ _ _ _ _ _ _ _ _ _ _ _ _ _ _ _ _ _ _ _ _ _ _ _ _ _ _ _ _ _ _ _ _ _ we => v4 = .bool true ∧ Aside0 (Below W5.heap.size W5 we))
      case first =>
        refine wp_region_inv (by kernel_rfl) (by kernel_rfl) (fun vs => { tmps := List.toArray ((.agg #[.slice A0_0 l0_0.length c0_0, .slice A0_1 l0_1.length c0_1, .slice A0_2 l0_2.length c0_2, .slice A0_3 l0_3.length c0_3, .int .i64 a0_4, .int .i64 a0_5, .slice A0_6 l0_6.length c0_6, .slice A0_7 l0_7.length c0_7, .slice A0_8 l0_8.length c0_8, .slice A0_9 l0_9.length c0_9]) :: (.agg #[.slice A1_0 l1_0.length c1_0, .slice A1_1 l1_1.length c1_1, .slice A1_2 l1_2.length c1_2, .slice A1_3 l1_3.length c1_3, .int .i64 a1_4, .int .i64 a1_5, .slice A1_6 l1_6.length c1_6, .slice A1_7 l1_7.length c1_7, .slice A1_8 l1_8.length c1_8, .slice A1_9 l1_9.length c1_9]) :: (.pointer (some ⟨w.heap.size, 0, none⟩)) :: (.pointer (some ⟨w.heap.size + 1, 0, none⟩)) :: (vs 35) :: (.slice (some ⟨g, 0, none⟩) y.length dv) :: (.pointer (some ⟨wo.heap.size, 0, none⟩)) :: (.bool true) :: (.bool true) :: (.bool false) :: (.agg #[.slice A0_0 l0_0.length c0_0, .slice A0_1 l0_1.length c0_1, .slice A0_2 l0_2.length c0_2, .slice A0_3 l0_3.length c0_3, .int .i64 a0_4, .int .i64 a0_5, .slice A0_6 l0_6.length c0_6, .slice A0_7 l0_7.length c0_7, .slice A0_8 l0_8.length c0_8, .slice A0_9 l0_9.length c0_9]) :: (.bool false) :: (.bool false) :: (.agg #[.slice A1_0 l1_0.length c1_0, .slice A1_1 l1_1.length c1_1, .slice A1_2 l1_2.length c1_2, .slice A1_3 l1_3.length c1_3, .int .i64 a1_4, .int .i64 a1_5, .slice A1_6 l1_6.length c1_6, .slice A1_7 l1_7.length c1_7, .slice A1_8 l1_8.length c1_8, .slice A1_9 l1_9.length c1_9]) :: (.bool false) :: (.bool false) :: (.agg #[.slice A0_0 l0_0.length c0_0, .slice A0_1 l0_1.length c0_1, .slice A0_2 l0_2.length c0_2, .slice A0_3 l0_3.length c0_3, .int .i64 a0_4, .int .i64 a0_5, .slice A0_6 l0_6.length c0_6, .slice A0_7 l0_7.length c0_7, .slice A0_8 l0_8.length c0_8, .slice A0_9 l0_9.length c0_9]) :: (.slice (some ⟨g, 0, none⟩) y.length dv) :: (.tuple #[.agg #[.slice B0 l0_0.length b0, .slice B1 l0_1.length b1, .slice B2 l0_2.length b2, .slice B3 l0_3.length b3, .int .i64 a0_4, .int .i64 a0_5, .slice B6 l0_6.length b6, .slice B7 l0_7.length b7, .slice B8 l0_8.length b8, .slice B9 l0_9.length b9], .bool true]) :: (.slice (some ⟨g, 0, none⟩) y.length dv) :: (.tuple #[.agg #[.slice B0 l0_0.length b0, .slice B1 l0_1.length b1, .slice B2 l0_2.length b2, .slice B3 l0_3.length b3, .int .i64 a0_4, .int .i64 a0_5, .slice B6 l0_6.length b6, .slice B7 l0_7.length b7, .slice B8 l0_8.length b8, .slice B9 l0_9.length b9], .bool true]) :: (.agg #[.slice B0 l0_0.length b0, .slice B1 l0_1.length b1, .slice B2 l0_2.length b2, .slice B3 l0_3.length b3, .int .i64 a0_4, .int .i64 a0_5, .slice B6 l0_6.length b6, .slice B7 l0_7.length b7, .slice B8 l0_8.length b8, .slice B9 l0_9.length b9]) :: (.bool true) :: (vs 0) :: (vs 1) :: (vs 2) :: (vs 3) :: (vs 4) :: (vs 5) :: (vs 6) :: (vs 7) :: (vs 8) :: (vs 9) :: (vs 10) :: (vs 11) :: (vs 12) :: (vs 13) :: (vs 14) :: (vs 15) :: (vs 16) :: (vs 17) :: (vs 18) :: (vs 19) :: (vs 20) :: (vs 21) :: (vs 22) :: (vs 23) :: (vs 24) :: (vs 25) :: (vs 26) :: (vs 27) :: (vs 28) :: (vs 29) :: (vs 30) :: (vs 31) :: (vs 32) :: (vs 33) :: (vs 34) :: []), defers := [] }) (fun l vs W => IV W5.drew (RB y q (.slice (some ⟨g, 0, none⟩) y.length dv) (.agg #[.slice A0_0 l0_0.length c0_0, .slice A0_1 l0_1.length c0_1, .slice A0_2 l0_2.length c0_2, .slice A0_3 l0_3.length c0_3, .int .i64 a0_4, .int .i64 a0_5, .slice A0_6 l0_6.length c0_6, .slice A0_7 l0_7.length c0_7, .slice A0_8 l0_8.length c0_8, .slice A0_9 l0_9.length c0_9]) (.agg #[.slice A1_0 l1_0.length c1_0, .slice A1_1 l1_1.length c1_1, .slice A1_2 l1_2.length c1_2, .slice A1_3 l1_3.length c1_3, .int .i64 a1_4, .int .i64 a1_5, .slice A1_6 l1_6.length c1_6, .slice A1_7 l1_7.length c1_7, .slice A1_8 l1_8.length c1_8, .slice A1_9 l1_9.length c1_9]) (.agg #[.slice B0 l0_0.length b0, .slice B1 l0_1.length b1, .slice B2 l0_2.length b2, .slice B3 l0_3.length b3, .int .i64 a0_4, .int .i64 a0_5, .slice B6 l0_6.length b6, .slice B7 l0_7.length b7, .slice B8 l0_8.length b8, .slice B9 l0_9.length b9])) l vs W) ?step ?fin (fun i => match i with | 35 => .bool false | _ => undef) rfl ?start
        case start => exact ⟨Below.refl _ _, nofun⟩
        case step =>
          intro i o ho l vs W h hl hd hcl
          have hi : i < 36 := (Array.getElem?_eq_some_iff.1 ho).1
          rcases (by omega : i = 0 ∨ i = 1 ∨ i = 2 ∨ i = 3 ∨ i = 4 ∨ i = 5 ∨ i = 6 ∨ i = 7 ∨ i = 8 ∨ i = 9 ∨ i = 10 ∨ i = 11 ∨ i = 12 ∨ i = 13 ∨ i = 14 ∨ i = 15 ∨ i = 16 ∨ i = 17 ∨ i = 18 ∨ i = 19 ∨ i = 20 ∨ i = 21 ∨ i = 22 ∨ i = 23 ∨ i = 24 ∨ i = 25 ∨ i = 26 ∨ i = 27 ∨ i = 28 ∨ i = 29 ∨ i = 30 ∨ i = 31 ∨ i = 32 ∨ i = 33 ∨ i = 34 ∨ i = 35) with rfl | rfl | rfl | rfl | rfl | rfl | rfl | rfl | rfl | rfl | rfl | rfl | rfl | rfl | rfl | rfl | rfl | rfl | rfl | rfl | rfl | rfl | rfl | rfl | rfl | rfl | rfl | rfl | rfl | rfl | rfl | rfl | rfl | rfl | rfl | rfl
          · refine wpOp_step ho (fun K' hK => ?_)
            obtain rfl := (Option.some.inj ho).symm
            have HK := Aside0.mk hK
            clear hK ho
            rw [if_pos (by rfl)]
            go_simp
            exact HK.out _ _ ⟨_, by first | rfl | simp [upd, *], h.plain 0 _ rfl⟩
          · refine wpOp_step ho (fun K' hK => ?_)
            obtain rfl := (Option.some.inj ho).symm
            have HK := Aside0.mk hK
            clear hK ho
            have t_0 := hd 0 (by kernel_rfl)
            have v0 : vs 0 = .slice (some ⟨g, 0, none⟩) y.length dv := h.a 0 t_0
            rw [if_pos (by rfl)]
            have kc := Kd.C_string (P := Try.prog) (c := dv) Try.underlying22 Try.underlying5 Try.underlying9 (Kd.C_below (Kd.C_drew HCY.out) h.b)
            go_simp
            exact HK.out _ _ ⟨_, by first | rfl | simp [upd, *], h.plain 1 _ rfl⟩
          · refine wpOp_step ho (fun K' hK => ?_)
            obtain rfl := (Option.some.inj ho).symm
            have HK := Aside0.mk hK
            clear hK ho
            rw [if_pos (by rfl)]
            have hk := blk_below (blk_drew HK5.out) h.b
            have z0 := (blk_cell hk 0).trans rfl
            have z1 := (blk_cell hk 1).trans rfl
            have z2 := (blk_cell hk 2).trans rfl
            have z3 := (blk_cell hk 3).trans rfl
            have z4 := (blk_cell hk 4).trans rfl
            have z5 := (blk_cell hk 5).trans rfl
            have z6 := (blk_cell hk 6).trans rfl
            have z7 := (blk_cell hk 7).trans rfl
            have z8 := (blk_cell hk 8).trans rfl
            have z9 := (blk_cell hk 9).trans rfl
            clear hk
            go_simp
            exact HK.out _ _ ⟨_, by first | rfl | simp [upd, *], h.plain 2 _ rfl⟩
          · refine wpOp_step ho (fun K' hK => ?_)
            obtain rfl := (Option.some.inj ho).symm
            have HK := Aside0.mk hK
            clear hK ho
            have t_2 := hd 2 (by kernel_rfl)
            have v2 : vs 2 = .agg #[.slice A0_0 l0_0.length c0_0, .slice A0_1 l0_1.length c0_1, .slice A0_2 l0_2.length c0_2, .slice A0_3 l0_3.length c0_3, .int .i64 a0_4, .int .i64 a0_5, .slice A0_6 l0_6.length c0_6, .slice A0_7 l0_7.length c0_7, .slice A0_8 l0_8.length c0_8, .slice A0_9 l0_9.length c0_9] := h.a 2 t_2
            rw [if_pos (by rfl)]
            have KE := astrolaberef16_Bytes.calls K A0_0 c0_0 l0_0 A0_1 c0_1 l0_1 A0_2 c0_2 l0_2 A0_3 c0_3 l0_3 a0_4 a0_5 A0_6 c0_6 l0_6 A0_7 c0_7 l0_7 A0_8 c0_8 l0_8 A0_9 c0_9 l0_9 y W (Kd.C_below (Kd.C_drew (Kd.C_below HR0_0.out HB5.out)) h.b) HC0_0.out (Kd.C_below (Kd.C_drew (Kd.C_below HR0_1.out HB5.out)) h.b) HC0_1.out (Kd.C_below (Kd.C_drew (Kd.C_below HR0_2.out HB5.out)) h.b) HC0_2.out (Kd.C_below (Kd.C_drew (Kd.C_below HR0_3.out HB5.out)) h.b) HC0_3.out (Kd.C_below (Kd.C_drew (Kd.C_below HR0_6.out HB5.out)) h.b) HC0_6.out (Kd.C_below (Kd.C_drew (Kd.C_below HR0_7.out HB5.out)) h.b) HC0_7.out (Kd.C_below (Kd.C_drew (Kd.C_below HR0_8.out HB5.out)) h.b) HC0_8.out (Kd.C_below (Kd.C_drew (Kd.C_below HR0_9.out HB5.out)) h.b) HC0_9.out HRF.out
            have KEA := Aside0.mk KE
            clear KE
            go_wp2_with (go_at_call 25; refine KEA.out.mono ?_; rintro e we ⟨vy, rfl, hry, hbe⟩)
            obtain ⟨Ay, cy, rfl⟩ := Kd.R_slice hry
            exact HK.out _ _ ⟨.slice Ay y.length cy, by first | rfl | simp [upd, *], h.call RB_keep' hbe 3 _ ⟨Ay, cy, rfl, (Kd.R_reads' hry).2.2⟩⟩
          · refine wpOp_step ho (fun K' hK => ?_)
            obtain rfl := (Option.some.inj ho).symm
            have HK := Aside0.mk hK
            clear hK ho
            have t_3 := hd 3 (by kernel_rfl)
            obtain ⟨Ay, cy, v3, hy3⟩ : ∃ A c, vs 3 = .slice A y.length c ∧ Kd.C (Kd.int .u8) W A y.length y := h.a 3 t_3
            rw [if_pos (by rfl)]
            have kc := Kd.C_string (P := Try.prog) (c := cy) Try.underlying22 Try.underlying5 Try.underlying9 hy3
            go_simp
            exact HK.out _ _ ⟨_, by first | rfl | simp [upd, *], h.plain 4 _ rfl⟩
          · refine wpOp_step ho (fun K' hK => ?_)
            obtain rfl := (Option.some.inj ho).symm
            have HK := Aside0.mk hK
            clear hK ho
            have t_1 := hd 1 (by kernel_rfl)
            have t_4 := hd 4 (by kernel_rfl)
            have v1 : vs 1 = .string (strOfNums y) := h.a 1 t_1
            have v4 : vs 4 = .string (strOfNums y) := h.a 4 t_4
            rw [if_pos (by rfl)]
            go_simp
            exact HK.out _ _ ⟨_, by first | rfl | simp [upd, *], h.plain 5 _ rfl⟩
          · refine wpOp_step ho (fun K' hK => ?_)
            obtain rfl := (Option.some.inj ho).symm
            have HK := Aside0.mk hK
            clear hK ho
            have t_5 := hd 5 (by kernel_rfl)
            have v5 : vs 5 = .bool true := h.a 5 t_5
            rw [if_pos (by rfl)]
            go_simp
            exact HK.out _ _ ⟨_, by first | rfl | simp [upd, *], h.plain 6 _ rfl⟩
          · refine wpOp_step ho (fun K' hK => ?_)
            obtain rfl := (Option.some.inj ho).symm
            have HK := Aside0.mk hK
            clear hK ho
            have t_6 := hd 6 (by kernel_rfl)
            have v6 : vs 6 = .bool true := h.a 6 t_6
            rw [if_pos (by rw [wanted_of rfl (x := 29) (by kernel_rfl) ((rfl : _ = some (vs 6)).trans (congrArg some v6))]; decide)]
            go_simp
            exact HK.out _ _ ⟨_, by first | rfl | simp [upd, *], h.plain 7 _ rfl⟩
          · refine wpOp_step ho (fun K' hK => ?_)
            obtain rfl := (Option.some.inj ho).symm
            have HK := Aside0.mk hK
            clear hK ho
            have t_6 := hd 6 (by kernel_rfl)
            have t_7 := hd 7 (by kernel_rfl)
            have v6 : vs 6 = .bool true := h.a 6 t_6
            have v7 : vs 7 = .bool true := h.a 7 t_7
            rw [if_pos (by rfl)]
            go_simp
            exact HK.out _ _ ⟨_, by first | rfl | simp [upd, *], h.plain 8 _ rfl⟩
          · refine wpOp_step ho (fun K' hK => ?_)
            obtain rfl := (Option.some.inj ho).symm
            have HK := Aside0.mk hK
            clear hK ho
            have t_8 := hd 8 (by kernel_rfl)
            have v8 : vs 8 = .bool true := h.a 8 t_8
            rw [if_pos (by rfl)]
            go_simp
            exact HK.out _ _ ⟨_, by first | rfl | simp [upd, *], h.plain 9 _ rfl⟩
          · refine wpOp_step ho (fun K' hK => ?_)
            obtain rfl := (Option.some.inj ho).symm
            have HK := Aside0.mk hK
            clear hK ho
            have t_9 := hd 9 (by kernel_rfl)
            have v9 : vs 9 = .bool true := h.a 9 t_9
            rw [if_pos (by rw [wanted_of rfl (x := 32) (by kernel_rfl) ((rfl : _ = some (vs 9)).trans (congrArg some v9))]; decide)]
            have hk := blk_below (blk_drew HO5.out) h.b
            have z0 := (blk_cell hk 0).trans rfl
            have z1 := (blk_cell hk 1).trans rfl
            have z2 := (blk_cell hk 2).trans rfl
            have z3 := (blk_cell hk 3).trans rfl
            have z4 := (blk_cell hk 4).trans rfl
            have z5 := (blk_cell hk 5).trans rfl
            have z6 := (blk_cell hk 6).trans rfl
            have z7 := (blk_cell hk 7).trans rfl
            have z8 := (blk_cell hk 8).trans rfl
            have z9 := (blk_cell hk 9).trans rfl
            clear hk
            go_simp
            exact HK.out _ _ ⟨_, by first | rfl | simp [upd, *], h.plain 10 _ rfl⟩
          · refine wpOp_step ho (fun K' hK => ?_)
            obtain rfl := (Option.some.inj ho).symm
            have HK := Aside0.mk hK
            clear hK ho
            have t_9 := hd 9 (by kernel_rfl)
            have v9 : vs 9 = .bool true := h.a 9 t_9
            rw [if_pos (by rw [wanted_of rfl (x := 32) (by kernel_rfl) ((rfl : _ = some (vs 9)).trans (congrArg some v9))]; decide)]
            have hk := blk_below (blk_drew HK5.out) h.b
            have z0 := (blk_cell hk 0).trans rfl
            have z1 := (blk_cell hk 1).trans rfl
            have z2 := (blk_cell hk 2).trans rfl
            have z3 := (blk_cell hk 3).trans rfl
            have z4 := (blk_cell hk 4).trans rfl
            have z5 := (blk_cell hk 5).trans rfl
            have z6 := (blk_cell hk 6).trans rfl
            have z7 := (blk_cell hk 7).trans rfl
            have z8 := (blk_cell hk 8).trans rfl
            have z9 := (blk_cell hk 9).trans rfl
            clear hk
            go_simp
            exact HK.out _ _ ⟨_, by first | rfl | simp [upd, *], h.plain 11 _ rfl⟩
          · refine wpOp_step ho (fun K' hK => ?_)
            obtain rfl := (Option.some.inj ho).symm
            have HK := Aside0.mk hK
            clear hK ho
            have t_9 := hd 9 (by kernel_rfl)
            have t_10 := hd 10 (by kernel_rfl)
            have t_11 := hd 11 (by kernel_rfl)
            have v9 : vs 9 = .bool true := h.a 9 t_9
            have v10 : vs 10 = .agg #[.slice B0 l0_0.length b0, .slice B1 l0_1.length b1, .slice B2 l0_2.length b2, .slice B3 l0_3.length b3, .int .i64 a0_4, .int .i64 a0_5, .slice B6 l0_6.length b6, .slice B7 l0_7.length b7, .slice B8 l0_8.length b8, .slice B9 l0_9.length b9] := h.a 10 t_10
            have v11 : vs 11 = .agg #[.slice A0_0 l0_0.length c0_0, .slice A0_1 l0_1.length c0_1, .slice A0_2 l0_2.length c0_2, .slice A0_3 l0_3.length c0_3, .int .i64 a0_4, .int .i64 a0_5, .slice A0_6 l0_6.length c0_6, .slice A0_7 l0_7.length c0_7, .slice A0_8 l0_8.length c0_8, .slice A0_9 l0_9.length c0_9] := h.a 11 t_11
            rw [if_pos (by rw [wanted_of rfl (x := 32) (by kernel_rfl) ((rfl : _ = some (vs 9)).trans (congrArg some v9))]; decide)]
            have KE := equal12_any B0 b0 l0_0 B1 b1 l0_1 B2 b2 l0_2 B3 b3 l0_3 a0_4 a0_5 B6 b6 l0_6 B7 b7 l0_7 B8 b8 l0_8 B9 b9 l0_9 A0_0 c0_0 l0_0 A0_1 c0_1 l0_1 A0_2 c0_2 l0_2 A0_3 c0_3 l0_3 a0_4 a0_5 A0_6 c0_6 l0_6 A0_7 c0_7 l0_7 A0_8 c0_8 l0_8 A0_9 c0_9 l0_9 W (Kd.C_below (Kd.C_drew OO0.out.2.2) h.b) OO0.out.2.1 (Kd.C_below (Kd.C_drew OO1.out.2.2) h.b) OO1.out.2.1 (Kd.C_below (Kd.C_drew OO2.out.2.2) h.b) OO2.out.2.1 (Kd.C_below (Kd.C_drew OO3.out.2.2) h.b) OO3.out.2.1 (Kd.C_below (Kd.C_drew OO6.out.2.2) h.b) OO6.out.2.1 (Kd.C_below (Kd.C_drew OO7.out.2.2) h.b) OO7.out.2.1 (Kd.C_below (Kd.C_drew OO8.out.2.2) h.b) OO8.out.2.1 (Kd.C_below (Kd.C_drew OO9.out.2.2) h.b) OO9.out.2.1 (Kd.C_below (Kd.C_drew (Kd.C_below HR0_0.out HB5.out)) h.b) HC0_0.out (Kd.C_below (Kd.C_drew (Kd.C_below HR0_1.out HB5.out)) h.b) HC0_1.out (Kd.C_below (Kd.C_drew (Kd.C_below HR0_2.out HB5.out)) h.b) HC0_2.out (Kd.C_below (Kd.C_drew (Kd.C_below HR0_3.out HB5.out)) h.b) HC0_3.out (Kd.C_below (Kd.C_drew (Kd.C_below HR0_6.out HB5.out)) h.b) HC0_6.out (Kd.C_below (Kd.C_drew (Kd.C_below HR0_7.out HB5.out)) h.b) HC0_7.out (Kd.C_below (Kd.C_drew (Kd.C_below HR0_8.out HB5.out)) h.b) HC0_8.out (Kd.C_below (Kd.C_drew (Kd.C_below HR0_9.out HB5.out)) h.b) HC0_9.out HFEW.out
            rw [eqF_self] at KE
            have KEA := Aside0.mk KE
            clear KE
            go_wp2_with (go_at_call 12; refine KEA.out.mono ?_; rintro e we ⟨rfl, hbe⟩)
            exact HK.out _ _ ⟨_, by first | rfl | simp [upd, *], h.call RB_keep' hbe 12 _ rfl⟩
          · refine wpOp_step ho (fun K' hK => ?_)
            obtain rfl := (Option.some.inj ho).symm
            have HK := Aside0.mk hK
            clear hK ho
            have t_9 := hd 9 (by kernel_rfl)
            have t_12 := hd 12 (by kernel_rfl)
            have v9 : vs 9 = .bool true := h.a 9 t_9
            have v12 : vs 12 = .bool true := h.a 12 t_12
            rw [if_pos (by rfl)]
            go_simp
            exact HK.out _ _ ⟨_, by first | rfl | simp [upd, *], h.plain 13 _ rfl⟩
          · refine wpOp_step ho (fun K' hK => ?_)
            obtain rfl := (Option.some.inj ho).symm
            have HK := Aside0.mk hK
            clear hK ho
            have t_13 := hd 13 (by kernel_rfl)
            have v13 : vs 13 = .bool true := h.a 13 t_13
            rw [if_pos (by rfl)]
            go_simp
            exact HK.out _ _ ⟨_, by first | rfl | simp [upd, *], h.plain 14 _ rfl⟩
          · refine wpOp_step ho (fun K' hK => ?_)
            obtain rfl := (Option.some.inj ho).symm
            have HK := Aside0.mk hK
            clear hK ho
            have t_14 := hd 14 (by kernel_rfl)
            have v14 : vs 14 = .bool true := h.a 14 t_14
            rw [if_pos (by rw [wanted_of rfl (x := 37) (by kernel_rfl) ((rfl : _ = some (vs 14)).trans (congrArg some v14))]; decide)]
            have hk := blk_below (blk_drew HK5.out) h.b
            have z0 := (blk_cell hk 0).trans rfl
            have z1 := (blk_cell hk 1).trans rfl
            have z2 := (blk_cell hk 2).trans rfl
            have z3 := (blk_cell hk 3).trans rfl
            have z4 := (blk_cell hk 4).trans rfl
            have z5 := (blk_cell hk 5).trans rfl
            have z6 := (blk_cell hk 6).trans rfl
            have z7 := (blk_cell hk 7).trans rfl
            have z8 := (blk_cell hk 8).trans rfl
            have z9 := (blk_cell hk 9).trans rfl
            clear hk
            go_simp
            exact HK.out _ _ ⟨_, by first | rfl | simp [upd, *], h.plain 15 _ rfl⟩
          · refine wpOp_step ho (fun K' hK => ?_)
            obtain rfl := (Option.some.inj ho).symm
            have HK := Aside0.mk hK
            clear hK ho
            have t_14 := hd 14 (by kernel_rfl)
            have t_15 := hd 15 (by kernel_rfl)
            have v14 : vs 14 = .bool true := h.a 14 t_14
            have v15 : vs 15 = .agg #[.slice A0_0 l0_0.length c0_0, .slice A0_1 l0_1.length c0_1, .slice A0_2 l0_2.length c0_2, .slice A0_3 l0_3.length c0_3, .int .i64 a0_4, .int .i64 a0_5, .slice A0_6 l0_6.length c0_6, .slice A0_7 l0_7.length c0_7, .slice A0_8 l0_8.length c0_8, .slice A0_9 l0_9.length c0_9] := h.a 15 t_15
            rw [if_pos (by rw [wanted_of rfl (x := 37) (by kernel_rfl) ((rfl : _ = some (vs 14)).trans (congrArg some v14))]; decide)]
            have KE := code_Size.calls A0_0 c0_0 l0_0 A0_1 c0_1 l0_1 A0_2 c0_2 l0_2 A0_3 c0_3 l0_3 a0_4 a0_5 A0_6 c0_6 l0_6 A0_7 c0_7 l0_7 A0_8 c0_8 l0_8 A0_9 c0_9 l0_9 (y.length : Int) W (Kd.C_below (Kd.C_drew (Kd.C_below HR0_0.out HB5.out)) h.b) HC0_0.out (Kd.C_below (Kd.C_drew (Kd.C_below HR0_1.out HB5.out)) h.b) HC0_1.out (Kd.C_below (Kd.C_drew (Kd.C_below HR0_2.out HB5.out)) h.b) HC0_2.out (Kd.C_below (Kd.C_drew (Kd.C_below HR0_3.out HB5.out)) h.b) HC0_3.out (Kd.C_below (Kd.C_drew (Kd.C_below HR0_6.out HB5.out)) h.b) HC0_6.out (Kd.C_below (Kd.C_drew (Kd.C_below HR0_7.out HB5.out)) h.b) HC0_7.out (Kd.C_below (Kd.C_drew (Kd.C_below HR0_8.out HB5.out)) h.b) HC0_8.out (Kd.C_below (Kd.C_drew (Kd.C_below HR0_9.out HB5.out)) h.b) HC0_9.out HSZ.out
            have KEA := Aside0.mk KE
            clear KE
            go_wp2_with (go_at_call 26; refine KEA.out.mono ?_; rintro e we ⟨rfl, hbe⟩)
            exact HK.out _ _ ⟨_, by first | rfl | simp [upd, *], h.call RB_keep' hbe 16 _ rfl⟩
          · refine wpOp_step ho (fun K' hK => ?_)
            obtain rfl := (Option.some.inj ho).symm
            have HK := Aside0.mk hK
            clear hK ho
            have t_14 := hd 14 (by kernel_rfl)
            have v14 : vs 14 = .bool true := h.a 14 t_14
            rw [if_pos (by rw [wanted_of rfl (x := 37) (by kernel_rfl) ((rfl : _ = some (vs 14)).trans (congrArg some v14))]; decide)]
            go_simp
            exact HK.out _ _ ⟨_, by first | rfl | simp [upd, *], h.plain 17 _ rfl⟩
          · refine wpOp_step ho (fun K' hK => ?_)
            obtain rfl := (Option.some.inj ho).symm
            have HK := Aside0.mk hK
            clear hK ho
            have t_14 := hd 14 (by kernel_rfl)
            have t_17 := hd 17 (by kernel_rfl)
            have v14 : vs 14 = .bool true := h.a 14 t_14
            have v17 : vs 17 = .slice (some ⟨g, 0, none⟩) y.length dv := h.a 17 t_17
            rw [if_pos (by rw [wanted_of rfl (x := 37) (by kernel_rfl) ((rfl : _ = some (vs 14)).trans (congrArg some v14))]; decide)]
            go_simp
            exact HK.out _ _ ⟨_, by first | rfl | simp [upd, *], h.plain 18 _ rfl⟩
          · refine wpOp_step ho (fun K' hK => ?_)
            obtain rfl := (Option.some.inj ho).symm
            have HK := Aside0.mk hK
            clear hK ho
            have t_14 := hd 14 (by kernel_rfl)
            have t_16 := hd 16 (by kernel_rfl)
            have t_18 := hd 18 (by kernel_rfl)
            have v14 : vs 14 = .bool true := h.a 14 t_14
            have v16 : vs 16 = .int .i64 (y.length : Int) := h.a 16 t_16
            have v18 : vs 18 = .int .i64 (y.length : Int) := h.a 18 t_18
            rw [if_pos (by rw [wanted_of rfl (x := 37) (by kernel_rfl) ((rfl : _ = some (vs 14)).trans (congrArg some v14))]; decide)]
            go_simp
            exact HK.out _ _ ⟨_, by first | rfl | simp [upd, *], h.plain 19 _ rfl⟩
          · refine wpOp_step ho (fun K' hK => ?_)
            obtain rfl := (Option.some.inj ho).symm
            have HK := Aside0.mk hK
            clear hK ho
            have t_14 := hd 14 (by kernel_rfl)
            have t_19 := hd 19 (by kernel_rfl)
            have v14 : vs 14 = .bool true := h.a 14 t_14
            have v19 : vs 19 = .bool true := h.a 19 t_19
            rw [if_pos (by rfl)]
            go_simp
            exact HK.out _ _ ⟨_, by first | rfl | simp [upd, *], h.plain 20 _ rfl⟩
          · refine wpOp_step ho (fun K' hK => ?_)
            obtain rfl := (Option.some.inj ho).symm
            have HK := Aside0.mk hK
            clear hK ho
            have t_20 := hd 20 (by kernel_rfl)
            have v20 : vs 20 = .bool true := h.a 20 t_20
            rw [if_pos (by rfl)]
            go_simp
            exact HK.out _ _ ⟨_, by first | rfl | simp [upd, *], h.plain 21 _ rfl⟩
          · refine wpOp_step ho (fun K' hK => ?_)
            obtain rfl := (Option.some.inj ho).symm
            have HK := Aside0.mk hK
            clear hK ho
            have t_21 := hd 21 (by kernel_rfl)
            have v21 : vs 21 = .bool true := h.a 21 t_21
            rw [if_pos (by rw [wanted_of rfl (x := 44) (by kernel_rfl) ((rfl : _ = some (vs 21)).trans (congrArg some v21))]; decide)]
            have hk := blk_below (blk_drew HK5.out) h.b
            have z0 := (blk_cell hk 0).trans rfl
            have z1 := (blk_cell hk 1).trans rfl
            have z2 := (blk_cell hk 2).trans rfl
            have z3 := (blk_cell hk 3).trans rfl
            have z4 := (blk_cell hk 4).trans rfl
            have z5 := (blk_cell hk 5).trans rfl
            have z6 := (blk_cell hk 6).trans rfl
            have z7 := (blk_cell hk 7).trans rfl
            have z8 := (blk_cell hk 8).trans rfl
            have z9 := (blk_cell hk 9).trans rfl
            clear hk
            go_simp
            exact HK.out _ _ ⟨_, by first | rfl | simp [upd, *], h.plain 22 _ rfl⟩
          · refine wpOp_step ho (fun K' hK => ?_)
            obtain rfl := (Option.some.inj ho).symm
            have HK := Aside0.mk hK
            clear hK ho
            have t_21 := hd 21 (by kernel_rfl)
            have v21 : vs 21 = .bool true := h.a 21 t_21
            rw [if_pos (by rw [wanted_of rfl (x := 44) (by kernel_rfl) ((rfl : _ = some (vs 21)).trans (congrArg some v21))]; decide)]
            have hk := blk_below (blk_drew HL5.out) h.b
            have z0 := (blk_cell hk 0).trans rfl
            have z1 := (blk_cell hk 1).trans rfl
            have z2 := (blk_cell hk 2).trans rfl
            have z3 := (blk_cell hk 3).trans rfl
            have z4 := (blk_cell hk 4).trans rfl
            have z5 := (blk_cell hk 5).trans rfl
            have z6 := (blk_cell hk 6).trans rfl
            have z7 := (blk_cell hk 7).trans rfl
            have z8 := (blk_cell hk 8).trans rfl
            have z9 := (blk_cell hk 9).trans rfl
            clear hk
            go_simp
            exact HK.out _ _ ⟨_, by first | rfl | simp [upd, *], h.plain 23 _ rfl⟩
          · refine wpOp_step ho (fun K' hK => ?_)
            obtain rfl := (Option.some.inj ho).symm
            have HK := Aside0.mk hK
            clear hK ho
            have t_21 := hd 21 (by kernel_rfl)
            have t_22 := hd 22 (by kernel_rfl)
            have t_23 := hd 23 (by kernel_rfl)
            have v21 : vs 21 = .bool true := h.a 21 t_21
            have v22 : vs 22 = .agg #[.slice A0_0 l0_0.length c0_0, .slice A0_1 l0_1.length c0_1, .slice A0_2 l0_2.length c0_2, .slice A0_3 l0_3.length c0_3, .int .i64 a0_4, .int .i64 a0_5, .slice A0_6 l0_6.length c0_6, .slice A0_7 l0_7.length c0_7, .slice A0_8 l0_8.length c0_8, .slice A0_9 l0_9.length c0_9] := h.a 22 t_22
            have v23 : vs 23 = .agg #[.slice A1_0 l1_0.length c1_0, .slice A1_1 l1_1.length c1_1, .slice A1_2 l1_2.length c1_2, .slice A1_3 l1_3.length c1_3, .int .i64 a1_4, .int .i64 a1_5, .slice A1_6 l1_6.length c1_6, .slice A1_7 l1_7.length c1_7, .slice A1_8 l1_8.length c1_8, .slice A1_9 l1_9.length c1_9] := h.a 23 t_23
            rw [if_pos (by rw [wanted_of rfl (x := 44) (by kernel_rfl) ((rfl : _ = some (vs 21)).trans (congrArg some v21))]; decide)]
            have KE := code_Same.calls A0_0 c0_0 l0_0 A0_1 c0_1 l0_1 A0_2 c0_2 l0_2 A0_3 c0_3 l0_3 a0_4 a0_5 A0_6 c0_6 l0_6 A0_7 c0_7 l0_7 A0_8 c0_8 l0_8 A0_9 c0_9 l0_9 A1_0 c1_0 l1_0 A1_1 c1_1 l1_1 A1_2 c1_2 l1_2 A1_3 c1_3 l1_3 a1_4 a1_5 A1_6 c1_6 l1_6 A1_7 c1_7 l1_7 A1_8 c1_8 l1_8 A1_9 c1_9 l1_9 q W (Kd.C_below (Kd.C_drew (Kd.C_below HR0_0.out HB5.out)) h.b) HC0_0.out (Kd.C_below (Kd.C_drew (Kd.C_below HR0_1.out HB5.out)) h.b) HC0_1.out (Kd.C_below (Kd.C_drew (Kd.C_below HR0_2.out HB5.out)) h.b) HC0_2.out (Kd.C_below (Kd.C_drew (Kd.C_below HR0_3.out HB5.out)) h.b) HC0_3.out (Kd.C_below (Kd.C_drew (Kd.C_below HR0_6.out HB5.out)) h.b) HC0_6.out (Kd.C_below (Kd.C_drew (Kd.C_below HR0_7.out HB5.out)) h.b) HC0_7.out (Kd.C_below (Kd.C_drew (Kd.C_below HR0_8.out HB5.out)) h.b) HC0_8.out (Kd.C_below (Kd.C_drew (Kd.C_below HR0_9.out HB5.out)) h.b) HC0_9.out (Kd.C_below (Kd.C_drew (Kd.C_below HR1_0.out HB5.out)) h.b) HC1_0.out (Kd.C_below (Kd.C_drew (Kd.C_below HR1_1.out HB5.out)) h.b) HC1_1.out (Kd.C_below (Kd.C_drew (Kd.C_below HR1_2.out HB5.out)) h.b) HC1_2.out (Kd.C_below (Kd.C_drew (Kd.C_below HR1_3.out HB5.out)) h.b) HC1_3.out (Kd.C_below (Kd.C_drew (Kd.C_below HR1_6.out HB5.out)) h.b) HC1_6.out (Kd.C_below (Kd.C_drew (Kd.C_below HR1_7.out HB5.out)) h.b) HC1_7.out (Kd.C_below (Kd.C_drew (Kd.C_below HR1_8.out HB5.out)) h.b) HC1_8.out (Kd.C_below (Kd.C_drew (Kd.C_below HR1_9.out HB5.out)) h.b) HC1_9.out HSM.out
            have KEA := Aside0.mk KE
            clear KE
            go_wp2_with (go_at_call 27; refine KEA.out.mono ?_; rintro e we ⟨rfl, hbe⟩)
            exact HK.out _ _ ⟨_, by first | rfl | simp [upd, *], h.call RB_keep' hbe 24 _ rfl⟩
          · refine wpOp_step ho (fun K' hK => ?_)
            obtain rfl := (Option.some.inj ho).symm
            have HK := Aside0.mk hK
            clear hK ho
            have t_21 := hd 21 (by kernel_rfl)
            have v21 : vs 21 = .bool true := h.a 21 t_21
            rw [if_pos (by rw [wanted_of rfl (x := 44) (by kernel_rfl) ((rfl : _ = some (vs 21)).trans (congrArg some v21))]; decide)]
            have hk := blk_below (blk_drew HK5.out) h.b
            have z0 := (blk_cell hk 0).trans rfl
            have z1 := (blk_cell hk 1).trans rfl
            have z2 := (blk_cell hk 2).trans rfl
            have z3 := (blk_cell hk 3).trans rfl
            have z4 := (blk_cell hk 4).trans rfl
            have z5 := (blk_cell hk 5).trans rfl
            have z6 := (blk_cell hk 6).trans rfl
            have z7 := (blk_cell hk 7).trans rfl
            have z8 := (blk_cell hk 8).trans rfl
            have z9 := (blk_cell hk 9).trans rfl
            clear hk
            go_simp
            exact HK.out _ _ ⟨_, by first | rfl | simp [upd, *], h.plain 25 _ rfl⟩
          · refine wpOp_step ho (fun K' hK => ?_)
            obtain rfl := (Option.some.inj ho).symm
            have HK := Aside0.mk hK
            clear hK ho
            have t_21 := hd 21 (by kernel_rfl)
            have v21 : vs 21 = .bool true := h.a 21 t_21
            rw [if_pos (by rw [wanted_of rfl (x := 44) (by kernel_rfl) ((rfl : _ = some (vs 21)).trans (congrArg some v21))]; decide)]
            have hk := blk_below (blk_drew HL5.out) h.b
            have z0 := (blk_cell hk 0).trans rfl
            have z1 := (blk_cell hk 1).trans rfl
            have z2 := (blk_cell hk 2).trans rfl
            have z3 := (blk_cell hk 3).trans rfl
            have z4 := (blk_cell hk 4).trans rfl
            have z5 := (blk_cell hk 5).trans rfl
            have z6 := (blk_cell hk 6).trans rfl
            have z7 := (blk_cell hk 7).trans rfl
            have z8 := (blk_cell hk 8).trans rfl
            have z9 := (blk_cell hk 9).trans rfl
            clear hk
            go_simp
            exact HK.out _ _ ⟨_, by first | rfl | simp [upd, *], h.plain 26 _ rfl⟩
          · refine wpOp_step ho (fun K' hK => ?_)
            obtain rfl := (Option.some.inj ho).symm
            have HK := Aside0.mk hK
            clear hK ho
            have t_21 := hd 21 (by kernel_rfl)
            have t_25 := hd 25 (by kernel_rfl)
            have t_26 := hd 26 (by kernel_rfl)
            have v21 : vs 21 = .bool true := h.a 21 t_21
            have v25 : vs 25 = .agg #[.slice A0_0 l0_0.length c0_0, .slice A0_1 l0_1.length c0_1, .slice A0_2 l0_2.length c0_2, .slice A0_3 l0_3.length c0_3, .int .i64 a0_4, .int .i64 a0_5, .slice A0_6 l0_6.length c0_6, .slice A0_7 l0_7.length c0_7, .slice A0_8 l0_8.length c0_8, .slice A0_9 l0_9.length c0_9] := h.a 25 t_25
            have v26 : vs 26 = .agg #[.slice A1_0 l1_0.length c1_0, .slice A1_1 l1_1.length c1_1, .slice A1_2 l1_2.length c1_2, .slice A1_3 l1_3.length c1_3, .int .i64 a1_4, .int .i64 a1_5, .slice A1_6 l1_6.length c1_6, .slice A1_7 l1_7.length c1_7, .slice A1_8 l1_8.length c1_8, .slice A1_9 l1_9.length c1_9] := h.a 26 t_26
            rw [if_pos (by rw [wanted_of rfl (x := 44) (by kernel_rfl) ((rfl : _ = some (vs 21)).trans (congrArg some v21))]; decide)]
            have KE := equal12_any A0_0 c0_0 l0_0 A0_1 c0_1 l0_1 A0_2 c0_2 l0_2 A0_3 c0_3 l0_3 a0_4 a0_5 A0_6 c0_6 l0_6 A0_7 c0_7 l0_7 A0_8 c0_8 l0_8 A0_9 c0_9 l0_9 A1_0 c1_0 l1_0 A1_1 c1_1 l1_1 A1_2 c1_2 l1_2 A1_3 c1_3 l1_3 a1_4 a1_5 A1_6 c1_6 l1_6 A1_7 c1_7 l1_7 A1_8 c1_8 l1_8 A1_9 c1_9 l1_9 W (Kd.C_below (Kd.C_drew (Kd.C_below HR0_0.out HB5.out)) h.b) HC0_0.out (Kd.C_below (Kd.C_drew (Kd.C_below HR0_1.out HB5.out)) h.b) HC0_1.out (Kd.C_below (Kd.C_drew (Kd.C_below HR0_2.out HB5.out)) h.b) HC0_2.out (Kd.C_below (Kd.C_drew (Kd.C_below HR0_3.out HB5.out)) h.b) HC0_3.out (Kd.C_below (Kd.C_drew (Kd.C_below HR0_6.out HB5.out)) h.b) HC0_6.out (Kd.C_below (Kd.C_drew (Kd.C_below HR0_7.out HB5.out)) h.b) HC0_7.out (Kd.C_below (Kd.C_drew (Kd.C_below HR0_8.out HB5.out)) h.b) HC0_8.out (Kd.C_below (Kd.C_drew (Kd.C_below HR0_9.out HB5.out)) h.b) HC0_9.out (Kd.C_below (Kd.C_drew (Kd.C_below HR1_0.out HB5.out)) h.b) HC1_0.out (Kd.C_below (Kd.C_drew (Kd.C_below HR1_1.out HB5.out)) h.b) HC1_1.out (Kd.C_below (Kd.C_drew (Kd.C_below HR1_2.out HB5.out)) h.b) HC1_2.out (Kd.C_below (Kd.C_drew (Kd.C_below HR1_3.out HB5.out)) h.b) HC1_3.out (Kd.C_below (Kd.C_drew (Kd.C_below HR1_6.out HB5.out)) h.b) HC1_6.out (Kd.C_below (Kd.C_drew (Kd.C_below HR1_7.out HB5.out)) h.b) HC1_7.out (Kd.C_below (Kd.C_drew (Kd.C_below HR1_8.out HB5.out)) h.b) HC1_8.out (Kd.C_below (Kd.C_drew (Kd.C_below HR1_9.out HB5.out)) h.b) HC1_9.out HFEW.out
            rw [HEQ.out] at KE
            have KEA := Aside0.mk KE
            clear KE
            go_wp2_with (go_at_call 12; refine KEA.out.mono ?_; rintro e we ⟨rfl, hbe⟩)
            exact HK.out _ _ ⟨_, by first | rfl | simp [upd, *], h.call RB_keep' hbe 27 _ rfl⟩
          · refine wpOp_step ho (fun K' hK => ?_)
            obtain rfl := (Option.some.inj ho).symm
            have HK := Aside0.mk hK
            clear hK ho
            have t_21 := hd 21 (by kernel_rfl)
            have t_24 := hd 24 (by kernel_rfl)
            have t_27 := hd 27 (by kernel_rfl)
            have v21 : vs 21 = .bool true := h.a 21 t_21
            have v24 : vs 24 = .bool q := h.a 24 t_24
            have v27 : vs 27 = .bool q := h.a 27 t_27
            rw [if_pos (by rw [wanted_of rfl (x := 44) (by kernel_rfl) ((rfl : _ = some (vs 21)).trans (congrArg some v21))]; decide)]
            have hq : (q == q) = true := beq_self_eq_true q
            go_simp
            exact HK.out _ _ ⟨_, by first | rfl | simp [upd, *], h.plain 28 _ rfl⟩
          · refine wpOp_step ho (fun K' hK => ?_)
            obtain rfl := (Option.some.inj ho).symm
            have HK := Aside0.mk hK
            clear hK ho
            have t_21 := hd 21 (by kernel_rfl)
            have t_28 := hd 28 (by kernel_rfl)
            have v21 : vs 21 = .bool true := h.a 21 t_21
            have v28 : vs 28 = .bool true := h.a 28 t_28
            rw [if_pos (by rfl)]
            go_simp
            exact HK.out _ _ ⟨_, by first | rfl | simp [upd, *], h.plain 29 _ rfl⟩
          · refine wpOp_step ho (fun K' hK => ?_)
            obtain rfl := (Option.some.inj ho).symm
            have HK := Aside0.mk hK
            clear hK ho
            have t_29 := hd 29 (by kernel_rfl)
            have v29 : vs 29 = .bool true := h.a 29 t_29
            rw [if_pos (by rfl)]
            go_simp
            exact HK.out _ _ ⟨_, by first | rfl | simp [upd, *], h.plain 30 _ rfl⟩
          · refine wpOp_step ho (fun K' hK => ?_)
            obtain rfl := (Option.some.inj ho).symm
            have HK := Aside0.mk hK
            clear hK ho
            have t_30 := hd 30 (by kernel_rfl)
            have v30 : vs 30 = .bool true := h.a 30 t_30
            rw [if_pos (by rw [wanted_of rfl (x := 53) (by kernel_rfl) ((rfl : _ = some (vs 30)).trans (congrArg some v30))]; decide)]
            have hk := blk_below (blk_drew HK5.out) h.b
            have z0 := (blk_cell hk 0).trans rfl
            have z1 := (blk_cell hk 1).trans rfl
            have z2 := (blk_cell hk 2).trans rfl
            have z3 := (blk_cell hk 3).trans rfl
            have z4 := (blk_cell hk 4).trans rfl
            have z5 := (blk_cell hk 5).trans rfl
            have z6 := (blk_cell hk 6).trans rfl
            have z7 := (blk_cell hk 7).trans rfl
            have z8 := (blk_cell hk 8).trans rfl
            have z9 := (blk_cell hk 9).trans rfl
            clear hk
            go_simp
            exact HK.out _ _ ⟨_, by first | rfl | simp [upd, *], h.plain 31 _ rfl⟩
          · refine wpOp_step ho (fun K' hK => ?_)
            obtain rfl := (Option.some.inj ho).symm
            have HK := Aside0.mk hK
            clear hK ho
            have t_30 := hd 30 (by kernel_rfl)
            have v30 : vs 30 = .bool true := h.a 30 t_30
            rw [if_pos (by rw [wanted_of rfl (x := 53) (by kernel_rfl) ((rfl : _ = some (vs 30)).trans (congrArg some v30))]; decide)]
            have hk := blk_below (blk_drew HO5.out) h.b
            have z0 := (blk_cell hk 0).trans rfl
            have z1 := (blk_cell hk 1).trans rfl
            have z2 := (blk_cell hk 2).trans rfl
            have z3 := (blk_cell hk 3).trans rfl
            have z4 := (blk_cell hk 4).trans rfl
            have z5 := (blk_cell hk 5).trans rfl
            have z6 := (blk_cell hk 6).trans rfl
            have z7 := (blk_cell hk 7).trans rfl
            have z8 := (blk_cell hk 8).trans rfl
            have z9 := (blk_cell hk 9).trans rfl
            clear hk
            go_simp
            exact HK.out _ _ ⟨_, by first | rfl | simp [upd, *], h.plain 32 _ rfl⟩
          · refine wpOp_step ho (fun K' hK => ?_)
            obtain rfl := (Option.some.inj ho).symm
            have HK := Aside0.mk hK
            clear hK ho
            have t_30 := hd 30 (by kernel_rfl)
            have t_31 := hd 31 (by kernel_rfl)
            have t_32 := hd 32 (by kernel_rfl)
            have v30 : vs 30 = .bool true := h.a 30 t_30
            have v31 : vs 31 = .agg #[.slice A0_0 l0_0.length c0_0, .slice A0_1 l0_1.length c0_1, .slice A0_2 l0_2.length c0_2, .slice A0_3 l0_3.length c0_3, .int .i64 a0_4, .int .i64 a0_5, .slice A0_6 l0_6.length c0_6, .slice A0_7 l0_7.length c0_7, .slice A0_8 l0_8.length c0_8, .slice A0_9 l0_9.length c0_9] := h.a 31 t_31
            have v32 : vs 32 = .agg #[.slice B0 l0_0.length b0, .slice B1 l0_1.length b1, .slice B2 l0_2.length b2, .slice B3 l0_3.length b3, .int .i64 a0_4, .int .i64 a0_5, .slice B6 l0_6.length b6, .slice B7 l0_7.length b7, .slice B8 l0_8.length b8, .slice B9 l0_9.length b9] := h.a 32 t_32
            rw [if_pos (by rw [wanted_of rfl (x := 53) (by kernel_rfl) ((rfl : _ = some (vs 30)).trans (congrArg some v30))]; decide)]
            have KE := code_Same.calls A0_0 c0_0 l0_0 A0_1 c0_1 l0_1 A0_2 c0_2 l0_2 A0_3 c0_3 l0_3 a0_4 a0_5 A0_6 c0_6 l0_6 A0_7 c0_7 l0_7 A0_8 c0_8 l0_8 A0_9 c0_9 l0_9 B0 b0 l0_0 B1 b1 l0_1 B2 b2 l0_2 B3 b3 l0_3 a0_4 a0_5 B6 b6 l0_6 B7 b7 l0_7 B8 b8 l0_8 B9 b9 l0_9 true W (Kd.C_below (Kd.C_drew (Kd.C_below HR0_0.out HB5.out)) h.b) HC0_0.out (Kd.C_below (Kd.C_drew (Kd.C_below HR0_1.out HB5.out)) h.b) HC0_1.out (Kd.C_below (Kd.C_drew (Kd.C_below HR0_2.out HB5.out)) h.b) HC0_2.out (Kd.C_below (Kd.C_drew (Kd.C_below HR0_3.out HB5.out)) h.b) HC0_3.out (Kd.C_below (Kd.C_drew (Kd.C_below HR0_6.out HB5.out)) h.b) HC0_6.out (Kd.C_below (Kd.C_drew (Kd.C_below HR0_7.out HB5.out)) h.b) HC0_7.out (Kd.C_below (Kd.C_drew (Kd.C_below HR0_8.out HB5.out)) h.b) HC0_8.out (Kd.C_below (Kd.C_drew (Kd.C_below HR0_9.out HB5.out)) h.b) HC0_9.out (Kd.C_below (Kd.C_drew OO0.out.2.2) h.b) OO0.out.2.1 (Kd.C_below (Kd.C_drew OO1.out.2.2) h.b) OO1.out.2.1 (Kd.C_below (Kd.C_drew OO2.out.2.2) h.b) OO2.out.2.1 (Kd.C_below (Kd.C_drew OO3.out.2.2) h.b) OO3.out.2.1 (Kd.C_below (Kd.C_drew OO6.out.2.2) h.b) OO6.out.2.1 (Kd.C_below (Kd.C_drew OO7.out.2.2) h.b) OO7.out.2.1 (Kd.C_below (Kd.C_drew OO8.out.2.2) h.b) OO8.out.2.1 (Kd.C_below (Kd.C_drew OO9.out.2.2) h.b) OO9.out.2.1 HSO.out
            have KEA := Aside0.mk KE
            clear KE
            go_wp2_with (go_at_call 27; refine KEA.out.mono ?_; rintro e we ⟨rfl, hbe⟩)
            exact HK.out _ _ ⟨_, by first | rfl | simp [upd, *], h.call RB_keep' hbe 33 _ rfl⟩
          · refine wpOp_step ho (fun K' hK => ?_)
            obtain rfl := (Option.some.inj ho).symm
            have HK := Aside0.mk hK
            clear hK ho
            have t_30 := hd 30 (by kernel_rfl)
            have t_33 := hd 33 (by kernel_rfl)
            have v30 : vs 30 = .bool true := h.a 30 t_30
            have v33 : vs 33 = .bool true := h.a 33 t_33
            rw [if_pos (by rfl)]
            go_simp
            exact HK.out _ _ ⟨_, by first | rfl | simp [upd, *], h.plain 34 _ rfl⟩
          · refine wpOp_step ho (fun K' hK => ?_)
            obtain rfl := (Option.some.inj ho).symm
            have HK := Aside0.mk hK
            clear hK ho
            have t_34 := hd 34 (by kernel_rfl)
            have v34 : vs 34 = .bool true := h.a 34 t_34
            rw [if_pos (by rfl)]
            go_simp
            exact HK.out _ _ ⟨_, by first | rfl | simp [upd, *], h.plain 35 _ rfl⟩
        case fin =>
          intro l vs W hall h
          have v35 : vs 35 = .bool true := h.a 35 (hall 35 (by decide))
          have hbw : Below W5.heap.size W5 W := (below_drew1 (Below.refl _ W5)).trans h.b
          have HBW := Aside0.mk hbw
          clear hbw h hall
          go_step
          go_step
          go_meet
          case rel => exact ⟨v35, HBW⟩
      case rest =>
        obtain ⟨rfl, HBW⟩ := hcut
        go_wp2
        go_ret
        exact ⟨rfl, HB5.out.trans (HBW.out.mono HB5.out.size)⟩
#print axioms bytes_walk
end Go.Proofs.Ytccolpkjgjjipaa.K
