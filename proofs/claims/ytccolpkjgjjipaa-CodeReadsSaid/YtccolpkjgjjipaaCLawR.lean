/- The law CodeReads, walked. -/
import Derived.Test.YtccolpkjgjjipaaCEq
import Derived.Test.YtccolpkjgjjipaaCRef
import Derived.Test.YtccolpkjgjjipaaCTurnP
import Derived.Test.YtccolpkjgjjipaaK3
import Derived.Test.YtccolpkjgjjipaaCInv
import Derived.Lib.SmallJoins
namespace Go.Proofs.Ytccolpkjgjjipaa.K
set_option linter.unusedVariables false
set_option linter.unusedSimpArgs false
open Go.RowKit Go.Proofs.YtccolpkjgjjipaaW.PrintWords Go.Proofs.YtccolpkjgjjipaaW.PrintLast Go.Proofs.YtccolpkjgjjipaaW.PrintMore Go.Proofs.Ytccolpkjgjjipaa.Inv
theorem aliveR_true : astrolabelaw16_alive.f = some true := by decide +kernel
theorem sameB_refl (l : List Int) : sameB l l = true := by unfold sameB; exact beq_self_eq_true _
theorem ref_is_obj {l : List Int} (hb : Byt l) : refF l = objF l := by
  unfold refF objF
  cases hm : magicB l with
  | true =>
    have h4 : 4 ≤ l.length := by
      unfold magicB at hm
      simp only [Bool.and_eq_true, decide_eq_true_eq] at hm
      exact hm.1
    rw [if_neg (by omega), if_pos rfl]
    by_cases h : (decF (l.drop 4)).2 = true
    · rw [if_pos h, if_pos h]
    · rw [if_neg h, if_neg h]
      by_cases e : obBytes (decF (l.drop 4)).1 = l
      · rw [if_pos e, if_pos (by rw [e]; exact sameB_refl l)]
      · rw [if_neg e, if_neg (fun hs => e (sameB_eq (obBytes_byt _) hb hs))]
  | false =>
    rw [if_neg (show ¬ false = true by decide)]
    by_cases h4 : l.length < 4
    · rw [if_pos h4]
    · rw [if_neg h4]
      by_cases h : (decF (l.drop 4)).2 = true
      · rw [if_pos h]
      · rw [if_neg h]
        by_cases e : obBytes (decF (l.drop 4)).1 = l
        · exfalso
          have ht : l.take 4 = [65, 83, 84, 49] := by
            rw [← e, obBytes_eq]
            rfl
          unfold magicB at hm
          rw [ht, sameB_refl, Bool.and_true, decide_eq_false_iff_not] at hm
          omega
        · rw [if_neg e]
def obFew (o : OB) : Prop := o.1.length ≤ 1000000 ∧ o.2.1.length ≤ 1000000 ∧ o.2.2.1.length ≤ 1000000 ∧ o.2.2.2.1.length ≤ 1000000 ∧ o.2.2.2.2.2.2.1.length ≤ 1000000 ∧ o.2.2.2.2.2.2.2.1.length ≤ 1000000 ∧ o.2.2.2.2.2.2.2.2.1.length ≤ 1000000 ∧ o.2.2.2.2.2.2.2.2.2.length ≤ 1000000
theorem decF_few (bs : List Int) (h : bs.length ≤ 1000000) : obFew (decF bs).1 := by
  obtain ⟨x0, b0, q0, e0⟩ : ∃ x b q, readF oneF bs false = (x, b, q) := ⟨_, _, _, rfl⟩
  obtain ⟨x1, b1, q1, e1⟩ : ∃ x b q, readF oneF b0 q0 = (x, b, q) := ⟨_, _, _, rfl⟩
  obtain ⟨x2, b2, q2, e2⟩ : ∃ x b q, readF oneF b1 q1 = (x, b, q) := ⟨_, _, _, rfl⟩
  obtain ⟨x3, b3, q3, e3⟩ : ∃ x b q, readF oneF b2 q2 = (x, b, q) := ⟨_, _, _, rfl⟩
  obtain ⟨x4, b4, q4, e4⟩ : ∃ x b q, oneF b3 q3 = (x, b, q) := ⟨_, _, _, rfl⟩
  obtain ⟨x5, b5, q5, e5⟩ : ∃ x b q, oneF b4 q4 = (x, b, q) := ⟨_, _, _, rfl⟩
  obtain ⟨x6, b6, q6, e6⟩ : ∃ x b q, readF insF b5 q5 = (x, b, q) := ⟨_, _, _, rfl⟩
  obtain ⟨x7, b7, q7, e7⟩ : ∃ x b q, readF insF b6 q6 = (x, b, q) := ⟨_, _, _, rfl⟩
  obtain ⟨x8, b8, q8, e8⟩ : ∃ x b q, readF insF b7 q7 = (x, b, q) := ⟨_, _, _, rfl⟩
  obtain ⟨x9, b9, q9, e9⟩ : ∃ x b q, readF insF b8 q8 = (x, b, q) := ⟨_, _, _, rfl⟩
  have m0 := readF_le one_le e0
  have m1 := readF_le one_le e1
  have m2 := readF_le one_le e2
  have m3 := readF_le one_le e3
  have m4 : b4.length ≤ b3.length := by have := one_le b3 q3; rw [e4] at this; exact this
  have m5 : b5.length ≤ b4.length := by have := one_le b4 q4; rw [e5] at this; exact this
  have m6 := readF_le ins_le e6
  have m7 := readF_le ins_le e7
  have m8 := readF_le ins_le e8
  have m9 := readF_le ins_le e9
  have hd : (decF bs).1 = (x0, x1, x2, x3, x4, x5, x6, x7, x8, x9) := by
    simp only [decF, e0, e1, e2, e3, e4, e5, e6, e7, e8, e9]
  rw [hd]
  refine ⟨?_, ?_, ?_, ?_, ?_, ?_, ?_, ?_⟩ <;> dsimp only <;> omega
theorem tells_same {l : List Int} (hl : l.length ≤ 1000000) (hb : Byt l) : ∃ (o : OB) (ok : Bool), code_Object.f l = some (o.1, o.2.1, o.2.2.1, o.2.2.2.1, o.2.2.2.2.1, o.2.2.2.2.2.1, o.2.2.2.2.2.2.1, o.2.2.2.2.2.2.2.1, o.2.2.2.2.2.2.2.2.1, o.2.2.2.2.2.2.2.2.2, ok) ∧ astrolaberef16_Object.f l = some (o.1, o.2.1, o.2.2.1, o.2.2.2.1, o.2.2.2.2.1, o.2.2.2.2.2.1, o.2.2.2.2.2.2.1, o.2.2.2.2.2.2.2.1, o.2.2.2.2.2.2.2.2.1, o.2.2.2.2.2.2.2.2.2, ok) ∧ obFew o ∧ (ok = true → obBytes o = l) := by
  have h1 : code_Object.f l = some (objF l) := code_Object_f_eq hl
  have h2 : astrolaberef16_Object.f l = some (objF l) := by
    unfold astrolaberef16_Object.f
    rw [if_pos ⟨hl, List.all_eq_true.2 fun x hx => by simpa using hb x hx⟩, ref_is_obj hb]
  have hs := decF_few (l.drop 4) (by rw [List.length_drop]; omega)
  rw [h1, h2]
  unfold objF
  split
  · split
    · exact ⟨([], [], [], [], 0, 0, [], [], [], []), false, rfl, rfl, by refine ⟨?_, ?_, ?_, ?_, ?_, ?_, ?_, ?_⟩ <;> simp, fun h => by cases h⟩
    · split
      · rename_i e
        exact ⟨(decF (l.drop 4)).1, true, rfl, rfl, hs, fun _ => sameB_eq (obBytes_byt _) hb e⟩
      · exact ⟨([], [], [], [], 0, 0, [], [], [], []), false, rfl, rfl, by refine ⟨?_, ?_, ?_, ?_, ?_, ?_, ?_, ?_⟩ <;> simp, fun h => by cases h⟩
  · exact ⟨([], [], [], [], 0, 0, [], [], [], []), false, rfl, rfl, by refine ⟨?_, ?_, ?_, ?_, ?_, ?_, ?_, ?_⟩ <;> simp, fun h => by cases h⟩
theorem eqF_self (o0 : List Int) (o1 : List Int) (o2 : List Int) (o3 : List Int) (o4 : Int) (o5 : Int) (o6 : List S47) (o7 : List S47) (o8 : List S47) (o9 : List S47) : eqF o0 o1 o2 o3 o4 o5 o6 o7 o8 o9 o0 o1 o2 o3 o4 o5 o6 o7 o8 o9 = true := by
  have e : ∀ l : List S47, eqS l l = true := fun l => eqS_iff.2 rfl
  simp [eqF, e]
/-- What each operation that is over has left; the world has only grown. -/
structure IV (wR : World) (A : Nat → Value → World → Prop) (l : Nat → Bool) (vs : Nat → Value) (W : World) : Prop where
  b : Below wR.heap.size wR W
  a : ∀ j, l j = true → A j (vs j) W
theorem IV.plain {wR W : World} {A : Nat → Value → World → Prop} {l : Nat → Bool} {vs : Nat → Value} (h : IV wR A l vs W) (i : Nat) (v : Value) (hv : A i v W) : IV wR A (don l i) (upd vs i v) W := by
  refine ⟨h.b, fun j hj => ?_⟩
  by_cases e : j = i
  · subst e
    rw [upd_self]
    exact hv
  · rw [upd_ne vs v e]
    rw [don_ne l e] at hj
    exact h.a j hj
theorem IV.call {wR W W' : World} {A : Nat → Value → World → Prop} {l : Nat → Bool} {vs : Nat → Value} (h : IV wR A l vs W) (hA : ∀ j v W W', A j v W → Below W.heap.size W W' → A j v W') (hb : Below W.heap.size W W') (i : Nat) (v : Value) (hv : A i v W') : IV wR A (don l i) (upd vs i v) W' := by
  refine ⟨h.b.trans (hb.mono h.b.size), fun j hj => ?_⟩
  by_cases e : j = i
  · subst e
    rw [upd_self]
    exact hv
  · rw [upd_ne vs v e]
    rw [don_ne l e] at hj
    exact hA _ _ _ _ (h.a j hj) hb
theorem wanted_of {o : Oper} {ops : Array Oper} {tmps : Array Value} {j x : Nat} {want b : Bool} (hg : o.guard = some (j, want)) (hd : (ops[j]?).bind (·.dst) = some x) (hv : tmps[x]? = some (.bool b)) : Region.wanted o (yielded ops tmps) = (b == want) := by
  unfold Region.wanted yielded
  rw [hg]
  simp only [hd, Option.bind_some, hv]
  cases b <;> cases want <;> rfl
def RAt (l0 : List Int) (S0 AB AD : Value) (j : Nat) (v : Value) (W : World) : Prop :=
  match j with
  | 0 => v = .bool true
  | 1 => v = .bool true
  | 2 => v = .bool true
  | 3 => v = .bool true
  | 4 => v = AB
  | 5 => v = AD
  | 6 => v = .bool true
  | 7 => v = .bool true
  | 8 => v = .bool true
  | 9 => v = .bool true
  | 10 => v = .bool false
  | 11 => v = .bool false
  | 12 => v = AB
  | 13 => ∃ A c, v = .slice A l0.length c ∧ Kd.C (Kd.int .u8) W A l0.length l0
  | 14 => v = .string (strOfNums l0)
  | 15 => v = S0
  | 16 => v = .string (strOfNums l0)
  | 17 => v = .bool true
  | 18 => v = .bool true
  | 19 => v = .bool true
  | 20 => v = .bool true
  | _ => True
theorem RAt_keep {l0 : List Int} {S0 AB AD : Value} {j : Nat} {v : Value} {W W' : World} (h : RAt l0 S0 AB AD j v W) (hb : Below W.heap.size W W') : RAt l0 S0 AB AD j v W' := by
  unfold RAt at h ⊢
  split at h
  · exact h
  · exact h
  · exact h
  · exact h
  · exact h
  · exact h
  · exact h
  · exact h
  · exact h
  · exact h
  · exact h
  · exact h
  · exact h
  · obtain ⟨A, c, e, hc⟩ := h
    exact ⟨A, c, e, Kd.C_below hc hb⟩
  · exact h
  · exact h
  · exact h
  · exact h
  · exact h
  · exact h
  · exact h
  · trivial
def RAf (l0 : List Int) (S0 AB AD : Value) (j : Nat) (v : Value) (W : World) : Prop :=
  match j with
  | 0 => v = .bool false
  | 1 => v = .bool false
  | 2 => v = .bool true
  | 3 => v = .bool true
  | 4 => v = AB
  | 5 => v = AD
  | 6 => v = .bool true
  | 7 => v = .bool true
  | 8 => v = .bool true
  | 9 => v = .bool false
  | 10 => v = .bool true
  | 11 => v = .bool true
  | 12 => True
  | 13 => True
  | 14 => True
  | 15 => True
  | 16 => True
  | 17 => True
  | 18 => v = .bool true
  | 19 => v = .bool true
  | 20 => v = .bool true
  | _ => True
theorem RAf_keep {l0 : List Int} {S0 AB AD : Value} {j : Nat} {v : Value} {W W' : World} (h : RAf l0 S0 AB AD j v W) (hb : Below W.heap.size W W') : RAf l0 S0 AB AD j v W' := by
  unfold RAf at h ⊢
  split at h
  · exact h
  · exact h
  · exact h
  · exact h
  · exact h
  · exact h
  · exact h
  · exact h
  · exact h
  · exact h
  · exact h
  · exact h
  · exact h
  · exact h
  · exact h
  · exact h
  · exact h
  · exact h
  · exact h
  · exact h
  · exact h
  · trivial
theorem upd_id (vs : Nat → Value) (i : Nat) : upd vs i (vs i) = vs := funext fun j => by
  unfold upd
  split
  · rename_i e; rw [e]
  · rfl
set_option maxHeartbeats 8000000 in
set_option maxRecDepth 100000 in
theorem reads_walk (A0 : Option Addr) (c0 : Nat) (l0 : List Int) (w : World) (hr0 : Kd.C (Kd.int .u8) w A0 l0.length l0) (hc0 : l0.length ≤ c0) (hby : Byt l0) :
    Calls Try.prog 3 #[.slice A0 l0.length c0] w fun e w' => e = .returned (.bool true) ∧ Below w.heap.size w w' := by
  have HR := Aside0.mk hr0
  clear hr0
  by_cases hbig : 5000 < l0.length
  · have d1 : decide (5000 < (l0.length : Int)) = true := decide_eq_true (by omega)
    have d2 : (5000 : Int) < (l0.length : Int) := by omega
    clear hbig
    go_enter Try.func3, Try.ntmps3
    go_wp2_with (go_at_call 9; refine (astrolabelaw16_alive.calls true _ aliveR_true).mono ?_; rintro e w1 ⟨rfl, hb⟩; have HB1 := Aside0.mk hb; clear hb)
    go_ret
    exact ⟨rfl, HB1.out⟩
  · have d1 : decide (5000 < (l0.length : Int)) = false := decide_eq_false (by omega)
    have d2 : ¬ ((5000 : Int) < (l0.length : Int)) := by omega
    obtain ⟨⟨o0, o1, o2, o3, o4, o5, o6, o7, o8, o9⟩, ok, ho, hp, hs, hbt⟩ := tells_same (by omega) hby
    dsimp only at ho hp
    have HO := Aside0.mk ho
    have HP := Aside0.mk hp
    have HS := Aside0.mk (show o0.length ≤ 1000000 ∧ o1.length ≤ 1000000 ∧ o2.length ≤ 1000000 ∧ o3.length ≤ 1000000 ∧ o6.length ≤ 1000000 ∧ o7.length ≤ 1000000 ∧ o8.length ≤ 1000000 ∧ o9.length ≤ 1000000 from hs)
    have HBT := Aside0.mk hbt
    clear ho hp hs hbt hby hbig
    go_enter Try.func3, Try.ntmps3
    go_upto_region 5 with (go_at_call 9; refine (astrolabelaw16_alive.calls true _ aliveR_true).mono ?_; rintro e w1 ⟨rfl, hb⟩; have HB1 := Aside0.mk hb; clear hb)
    go_upto_region 6 with (go_at_call 10; refine (code_Object.calls A0 c0 l0 o0 o1 o2 o3 o4 o5 o6 o7 o8 o9 ok _ (Kd.C_below HR.out HB1.out) hc0 HO.out).mono ?_; rintro e wo ⟨v0, v1, v2, v3, v6, v7, v8, v9, rfl, r0, r1, r2, r3, r6, r7, r8, r9, hbo⟩; obtain ⟨B0, b0, rfl⟩ := Kd.R_slice r0; have BR0 := Aside0.mk r0; clear r0; obtain ⟨B1, b1, rfl⟩ := Kd.R_slice r1; have BR1 := Aside0.mk r1; clear r1; obtain ⟨B2, b2, rfl⟩ := Kd.R_slice r2; have BR2 := Aside0.mk r2; clear r2; obtain ⟨B3, b3, rfl⟩ := Kd.R_slice r3; have BR3 := Aside0.mk r3; clear r3; obtain ⟨B6, b6, rfl⟩ := Kd.R_slice r6; have BR6 := Aside0.mk r6; clear r6; obtain ⟨B7, b7, rfl⟩ := Kd.R_slice r7; have BR7 := Aside0.mk r7; clear r7; obtain ⟨B8, b8, rfl⟩ := Kd.R_slice r8; have BR8 := Aside0.mk r8; clear r8; obtain ⟨B9, b9, rfl⟩ := Kd.R_slice r9; have BR9 := Aside0.mk r9; clear r9; have HBO := Aside0.mk hbo; clear hbo)
    have hb2 := (HB1.out.trans (HBO.out.mono HB1.out.size)).alloc (HB1.out.trans (HBO.out.mono HB1.out.size)).size (Obj.cells #[.slice B0 o0.length b0, .slice B1 o1.length b1, .slice B2 o2.length b2, .slice B3 o3.length b3, .int .i64 o4, .int .i64 o5, .slice B6 o6.length b6, .slice B7 o7.length b7, .slice B8 o8.length b8, .slice B9 o9.length b9] 28)
    have hk2 := blk_new wo (Obj.cells #[.slice B0 o0.length b0, .slice B1 o1.length b1, .slice B2 o2.length b2, .slice B3 o3.length b3, .int .i64 o4, .int .i64 o5, .slice B6 o6.length b6, .slice B7 o7.length b7, .slice B8 o8.length b8, .slice B9 o9.length b9] 28)
    have hB0 := Kd.R_alloc BR0.out (Obj.cells #[.slice B0 o0.length b0, .slice B1 o1.length b1, .slice B2 o2.length b2, .slice B3 o3.length b3, .int .i64 o4, .int .i64 o5, .slice B6 o6.length b6, .slice B7 o7.length b7, .slice B8 o8.length b8, .slice B9 o9.length b9] 28)
    have hB1 := Kd.R_alloc BR1.out (Obj.cells #[.slice B0 o0.length b0, .slice B1 o1.length b1, .slice B2 o2.length b2, .slice B3 o3.length b3, .int .i64 o4, .int .i64 o5, .slice B6 o6.length b6, .slice B7 o7.length b7, .slice B8 o8.length b8, .slice B9 o9.length b9] 28)
    have hB2 := Kd.R_alloc BR2.out (Obj.cells #[.slice B0 o0.length b0, .slice B1 o1.length b1, .slice B2 o2.length b2, .slice B3 o3.length b3, .int .i64 o4, .int .i64 o5, .slice B6 o6.length b6, .slice B7 o7.length b7, .slice B8 o8.length b8, .slice B9 o9.length b9] 28)
    have hB3 := Kd.R_alloc BR3.out (Obj.cells #[.slice B0 o0.length b0, .slice B1 o1.length b1, .slice B2 o2.length b2, .slice B3 o3.length b3, .int .i64 o4, .int .i64 o5, .slice B6 o6.length b6, .slice B7 o7.length b7, .slice B8 o8.length b8, .slice B9 o9.length b9] 28)
    have hB6 := Kd.R_alloc BR6.out (Obj.cells #[.slice B0 o0.length b0, .slice B1 o1.length b1, .slice B2 o2.length b2, .slice B3 o3.length b3, .int .i64 o4, .int .i64 o5, .slice B6 o6.length b6, .slice B7 o7.length b7, .slice B8 o8.length b8, .slice B9 o9.length b9] 28)
    have hB7 := Kd.R_alloc BR7.out (Obj.cells #[.slice B0 o0.length b0, .slice B1 o1.length b1, .slice B2 o2.length b2, .slice B3 o3.length b3, .int .i64 o4, .int .i64 o5, .slice B6 o6.length b6, .slice B7 o7.length b7, .slice B8 o8.length b8, .slice B9 o9.length b9] 28)
    have hB8 := Kd.R_alloc BR8.out (Obj.cells #[.slice B0 o0.length b0, .slice B1 o1.length b1, .slice B2 o2.length b2, .slice B3 o3.length b3, .int .i64 o4, .int .i64 o5, .slice B6 o6.length b6, .slice B7 o7.length b7, .slice B8 o8.length b8, .slice B9 o9.length b9] 28)
    have hB9 := Kd.R_alloc BR9.out (Obj.cells #[.slice B0 o0.length b0, .slice B1 o1.length b1, .slice B2 o2.length b2, .slice B3 o3.length b3, .int .i64 o4, .int .i64 o5, .slice B6 o6.length b6, .slice B7 o7.length b7, .slice B8 o8.length b8, .slice B9 o9.length b9] 28)
    obtain ⟨W2, hW⟩ : ∃ W, W = wo.alloc (Obj.cells #[.slice B0 o0.length b0, .slice B1 o1.length b1, .slice B2 o2.length b2, .slice B3 o3.length b3, .int .i64 o4, .int .i64 o5, .slice B6 o6.length b6, .slice B7 o7.length b7, .slice B8 o8.length b8, .slice B9 o9.length b9] 28) := ⟨_, rfl⟩
    rw [← hW] at hb2 hk2 hB0 hB1 hB2 hB3 hB6 hB7 hB8 hB9 ⊢
    clear hW HBO BR0 BR1 BR2 BR3 BR6 BR7 BR8 BR9
    have HB2 := Aside0.mk hb2
    have HK2 := Aside0.mk hk2
    have BB0 := Aside0.mk (Kd.R_reads' hB0)
    have BB1 := Aside0.mk (Kd.R_reads' hB1)
    have BB2 := Aside0.mk (Kd.R_reads' hB2)
    have BB3 := Aside0.mk (Kd.R_reads' hB3)
    have BB6 := Aside0.mk (Kd.R_reads' hB6)
    have BB7 := Aside0.mk (Kd.R_reads' hB7)
    have BB8 := Aside0.mk (Kd.R_reads' hB8)
    have BB9 := Aside0.mk (Kd.R_reads' hB9)
    clear hb2 hk2 hB0 hB1 hB2 hB3 hB6 hB7 hB8 hB9
    go_upto_region 7 with (go_at_call 11; refine (astrolaberef16_Object.calls A0 c0 l0 o0 o1 o2 o3 o4 o5 o6 o7 o8 o9 ok _ (Kd.C_below HR.out HB2.out) hc0 HP.out).mono ?_; rintro e wp ⟨v0, v1, v2, v3, v6, v7, v8, v9, rfl, r0, r1, r2, r3, r6, r7, r8, r9, hbo⟩; obtain ⟨D0, d0, rfl⟩ := Kd.R_slice r0; have DR0 := Aside0.mk r0; clear r0; obtain ⟨D1, d1, rfl⟩ := Kd.R_slice r1; have DR1 := Aside0.mk r1; clear r1; obtain ⟨D2, d2, rfl⟩ := Kd.R_slice r2; have DR2 := Aside0.mk r2; clear r2; obtain ⟨D3, d3, rfl⟩ := Kd.R_slice r3; have DR3 := Aside0.mk r3; clear r3; obtain ⟨D6, d6, rfl⟩ := Kd.R_slice r6; have DR6 := Aside0.mk r6; clear r6; obtain ⟨D7, d7, rfl⟩ := Kd.R_slice r7; have DR7 := Aside0.mk r7; clear r7; obtain ⟨D8, d8, rfl⟩ := Kd.R_slice r8; have DR8 := Aside0.mk r8; clear r8; obtain ⟨D9, d9, rfl⟩ := Kd.R_slice r9; have DR9 := Aside0.mk r9; clear r9; have HBO := Aside0.mk hbo; clear hbo)
    have hb3 := (HB2.out.trans (HBO.out.mono HB2.out.size)).alloc (HB2.out.trans (HBO.out.mono HB2.out.size)).size (Obj.cells #[.slice D0 o0.length d0, .slice D1 o1.length d1, .slice D2 o2.length d2, .slice D3 o3.length d3, .int .i64 o4, .int .i64 o5, .slice D6 o6.length d6, .slice D7 o7.length d7, .slice D8 o8.length d8, .slice D9 o9.length d9] 28)
    have hk3 := blk_new wp (Obj.cells #[.slice D0 o0.length d0, .slice D1 o1.length d1, .slice D2 o2.length d2, .slice D3 o3.length d3, .int .i64 o4, .int .i64 o5, .slice D6 o6.length d6, .slice D7 o7.length d7, .slice D8 o8.length d8, .slice D9 o9.length d9] 28)
    have hk4 := blk_alloc (blk_below HK2.out HBO.out) (Obj.cells #[.slice D0 o0.length d0, .slice D1 o1.length d1, .slice D2 o2.length d2, .slice D3 o3.length d3, .int .i64 o4, .int .i64 o5, .slice D6 o6.length d6, .slice D7 o7.length d7, .slice D8 o8.length d8, .slice D9 o9.length d9] 28)
    have hbb := HBO.out.alloc HBO.out.size (Obj.cells #[.slice D0 o0.length d0, .slice D1 o1.length d1, .slice D2 o2.length d2, .slice D3 o3.length d3, .int .i64 o4, .int .i64 o5, .slice D6 o6.length d6, .slice D7 o7.length d7, .slice D8 o8.length d8, .slice D9 o9.length d9] 28)
    have hD0 := Kd.R_alloc DR0.out (Obj.cells #[.slice D0 o0.length d0, .slice D1 o1.length d1, .slice D2 o2.length d2, .slice D3 o3.length d3, .int .i64 o4, .int .i64 o5, .slice D6 o6.length d6, .slice D7 o7.length d7, .slice D8 o8.length d8, .slice D9 o9.length d9] 28)
    have hD1 := Kd.R_alloc DR1.out (Obj.cells #[.slice D0 o0.length d0, .slice D1 o1.length d1, .slice D2 o2.length d2, .slice D3 o3.length d3, .int .i64 o4, .int .i64 o5, .slice D6 o6.length d6, .slice D7 o7.length d7, .slice D8 o8.length d8, .slice D9 o9.length d9] 28)
    have hD2 := Kd.R_alloc DR2.out (Obj.cells #[.slice D0 o0.length d0, .slice D1 o1.length d1, .slice D2 o2.length d2, .slice D3 o3.length d3, .int .i64 o4, .int .i64 o5, .slice D6 o6.length d6, .slice D7 o7.length d7, .slice D8 o8.length d8, .slice D9 o9.length d9] 28)
    have hD3 := Kd.R_alloc DR3.out (Obj.cells #[.slice D0 o0.length d0, .slice D1 o1.length d1, .slice D2 o2.length d2, .slice D3 o3.length d3, .int .i64 o4, .int .i64 o5, .slice D6 o6.length d6, .slice D7 o7.length d7, .slice D8 o8.length d8, .slice D9 o9.length d9] 28)
    have hD6 := Kd.R_alloc DR6.out (Obj.cells #[.slice D0 o0.length d0, .slice D1 o1.length d1, .slice D2 o2.length d2, .slice D3 o3.length d3, .int .i64 o4, .int .i64 o5, .slice D6 o6.length d6, .slice D7 o7.length d7, .slice D8 o8.length d8, .slice D9 o9.length d9] 28)
    have hD7 := Kd.R_alloc DR7.out (Obj.cells #[.slice D0 o0.length d0, .slice D1 o1.length d1, .slice D2 o2.length d2, .slice D3 o3.length d3, .int .i64 o4, .int .i64 o5, .slice D6 o6.length d6, .slice D7 o7.length d7, .slice D8 o8.length d8, .slice D9 o9.length d9] 28)
    have hD8 := Kd.R_alloc DR8.out (Obj.cells #[.slice D0 o0.length d0, .slice D1 o1.length d1, .slice D2 o2.length d2, .slice D3 o3.length d3, .int .i64 o4, .int .i64 o5, .slice D6 o6.length d6, .slice D7 o7.length d7, .slice D8 o8.length d8, .slice D9 o9.length d9] 28)
    have hD9 := Kd.R_alloc DR9.out (Obj.cells #[.slice D0 o0.length d0, .slice D1 o1.length d1, .slice D2 o2.length d2, .slice D3 o3.length d3, .int .i64 o4, .int .i64 o5, .slice D6 o6.length d6, .slice D7 o7.length d7, .slice D8 o8.length d8, .slice D9 o9.length d9] 28)
    obtain ⟨W3, hW⟩ : ∃ W, W = wp.alloc (Obj.cells #[.slice D0 o0.length d0, .slice D1 o1.length d1, .slice D2 o2.length d2, .slice D3 o3.length d3, .int .i64 o4, .int .i64 o5, .slice D6 o6.length d6, .slice D7 o7.length d7, .slice D8 o8.length d8, .slice D9 o9.length d9] 28) := ⟨_, rfl⟩
    rw [← hW] at hb3 hk3 hk4 hbb hD0 hD1 hD2 hD3 hD6 hD7 hD8 hD9 ⊢
    clear hW HBO HB2 HK2 DR0 DR1 DR2 DR3 DR6 DR7 DR8 DR9
    have CB0 := Aside0.mk (Kd.C_below BB0.out.2.2 hbb)
    have CB1 := Aside0.mk (Kd.C_below BB1.out.2.2 hbb)
    have CB2 := Aside0.mk (Kd.C_below BB2.out.2.2 hbb)
    have CB3 := Aside0.mk (Kd.C_below BB3.out.2.2 hbb)
    have CB6 := Aside0.mk (Kd.C_below BB6.out.2.2 hbb)
    have CB7 := Aside0.mk (Kd.C_below BB7.out.2.2 hbb)
    have CB8 := Aside0.mk (Kd.C_below BB8.out.2.2 hbb)
    have CB9 := Aside0.mk (Kd.C_below BB9.out.2.2 hbb)
    have HB3 := Aside0.mk hb3
    have HK3 := Aside0.mk hk3
    have HK4 := Aside0.mk hk4
    have DD0 := Aside0.mk (Kd.R_reads' hD0)
    have DD1 := Aside0.mk (Kd.R_reads' hD1)
    have DD2 := Aside0.mk (Kd.R_reads' hD2)
    have DD3 := Aside0.mk (Kd.R_reads' hD3)
    have DD6 := Aside0.mk (Kd.R_reads' hD6)
    have DD7 := Aside0.mk (Kd.R_reads' hD7)
    have DD8 := Aside0.mk (Kd.R_reads' hD8)
    have DD9 := Aside0.mk (Kd.R_reads' hD9)
    clear hb3 hk3 hk4 hbb hD0 hD1 hD2 hD3 hD6 hD7 hD8 hD9
    cases ok with
    | true =>
      have hfl := HBT.out rfl
      have HF := Aside0.mk (show code_Bytes.f o0 o1 o2 o3 o4 o5 o6 o7 o8 o9 = some l0 by
        have hfl2 : bytesB o0 o1 o2 o3 o4 o5 o6 o7 o8 o9 = l0 := hfl
        unfold code_Bytes.f
        rw [hfl2, if_pos (by omega)])
      clear hfl HBT
      have RA_keep : ∀ j v W W', (RAt l0 (.slice A0 l0.length c0) (.agg #[.slice B0 o0.length b0, .slice B1 o1.length b1, .slice B2 o2.length b2, .slice B3 o3.length b3, .int .i64 o4, .int .i64 o5, .slice B6 o6.length b6, .slice B7 o7.length b7, .slice B8 o8.length b8, .slice B9 o9.length b9]) (.agg #[.slice D0 o0.length d0, .slice D1 o1.length d1, .slice D2 o2.length d2, .slice D3 o3.length d3, .int .i64 o4, .int .i64 o5, .slice D6 o6.length d6, .slice D7 o7.length d7, .slice D8 o8.length d8, .slice D9 o9.length d9])) j v W → Below W.heap.size W W' → (RAt l0 (.slice A0 l0.length c0) (.agg #[.slice B0 o0.length b0, .slice B1 o1.length b1, .slice B2 o2.length b2, .slice B3 o3.length b3, .int .i64 o4, .int .i64 o5, .slice B6 o6.length b6, .slice B7 o7.length b7, .slice B8 o8.length b8, .slice B9 o9.length b9]) (.agg #[.slice D0 o0.length d0, .slice D1 o1.length d1, .slice D2 o2.length d2, .slice D3 o3.length d3, .int .i64 o4, .int .i64 o5, .slice D6 o6.length d6, .slice D7 o7.length d7, .slice D8 o8.length d8, .slice D9 o9.length d9])) j v W' := fun j v W W' => RAt_keep
      go_cut [2, 22, 23, 24, 25, 26, 27, 28, 29, 30, 31, 32, 33, 34, 35, 36, 37, 38, 39, 40, 41] (fun v2 _ _ _ _ _ _ _ _ _ _ _ _ _ _ _ _ _ _ _ _ we => v2 = .bool true ∧ Aside0 (Below W3.heap.size W3 we))
      case first =>
        refine wp_region_inv (by kernel_rfl) (by kernel_rfl) (fun vs => { tmps := List.toArray ((.slice A0 l0.length c0) :: (undef) :: (vs 20) :: (.pointer (some ⟨wo.heap.size, 0, none⟩)) :: (.bool true) :: (.pointer (some ⟨wp.heap.size, 0, none⟩)) :: (.bool true) :: (.bool true) :: (.bool false) :: (.slice A0 l0.length c0) :: (.int .i64 (l0.length : Int)) :: (.bool false) :: (.tuple #[.agg #[.slice B0 o0.length b0, .slice B1 o1.length b1, .slice B2 o2.length b2, .slice B3 o3.length b3, .int .i64 o4, .int .i64 o5, .slice B6 o6.length b6, .slice B7 o7.length b7, .slice B8 o8.length b8, .slice B9 o9.length b9], .bool true]) :: (.slice A0 l0.length c0) :: (.tuple #[.agg #[.slice B0 o0.length b0, .slice B1 o1.length b1, .slice B2 o2.length b2, .slice B3 o3.length b3, .int .i64 o4, .int .i64 o5, .slice B6 o6.length b6, .slice B7 o7.length b7, .slice B8 o8.length b8, .slice B9 o9.length b9], .bool true]) :: (.agg #[.slice B0 o0.length b0, .slice B1 o1.length b1, .slice B2 o2.length b2, .slice B3 o3.length b3, .int .i64 o4, .int .i64 o5, .slice B6 o6.length b6, .slice B7 o7.length b7, .slice B8 o8.length b8, .slice B9 o9.length b9]) :: (.bool true) :: (.tuple #[.agg #[.slice D0 o0.length d0, .slice D1 o1.length d1, .slice D2 o2.length d2, .slice D3 o3.length d3, .int .i64 o4, .int .i64 o5, .slice D6 o6.length d6, .slice D7 o7.length d7, .slice D8 o8.length d8, .slice D9 o9.length d9], .bool true]) :: (.slice A0 l0.length c0) :: (.tuple #[.agg #[.slice D0 o0.length d0, .slice D1 o1.length d1, .slice D2 o2.length d2, .slice D3 o3.length d3, .int .i64 o4, .int .i64 o5, .slice D6 o6.length d6, .slice D7 o7.length d7, .slice D8 o8.length d8, .slice D9 o9.length d9], .bool true]) :: (.agg #[.slice D0 o0.length d0, .slice D1 o1.length d1, .slice D2 o2.length d2, .slice D3 o3.length d3, .int .i64 o4, .int .i64 o5, .slice D6 o6.length d6, .slice D7 o7.length d7, .slice D8 o8.length d8, .slice D9 o9.length d9]) :: (.bool true) :: (vs 0) :: (vs 1) :: (vs 2) :: (vs 3) :: (vs 4) :: (vs 5) :: (vs 6) :: (vs 7) :: (vs 8) :: (vs 9) :: (vs 10) :: (vs 11) :: (vs 12) :: (vs 13) :: (vs 14) :: (vs 15) :: (vs 16) :: (vs 17) :: (vs 18) :: (vs 19) :: []), defers := [] }) (fun l vs W => IV W3.drew (RAt l0 (.slice A0 l0.length c0) (.agg #[.slice B0 o0.length b0, .slice B1 o1.length b1, .slice B2 o2.length b2, .slice B3 o3.length b3, .int .i64 o4, .int .i64 o5, .slice B6 o6.length b6, .slice B7 o7.length b7, .slice B8 o8.length b8, .slice B9 o9.length b9]) (.agg #[.slice D0 o0.length d0, .slice D1 o1.length d1, .slice D2 o2.length d2, .slice D3 o3.length d3, .int .i64 o4, .int .i64 o5, .slice D6 o6.length d6, .slice D7 o7.length d7, .slice D8 o8.length d8, .slice D9 o9.length d9])) l vs W) ?step ?fin (fun i => match i with | 20 => .bool false | _ => undef) rfl ?start
        case start => exact ⟨Below.refl _ _, nofun⟩
        case step =>
          intro i o ho l vs W h hl hd hcl
          have hi : i < 21 := (Array.getElem?_eq_some_iff.1 ho).1
          rcases (by omega : i = 0 ∨ i = 1 ∨ i = 2 ∨ i = 3 ∨ i = 4 ∨ i = 5 ∨ i = 6 ∨ i = 7 ∨ i = 8 ∨ i = 9 ∨ i = 10 ∨ i = 11 ∨ i = 12 ∨ i = 13 ∨ i = 14 ∨ i = 15 ∨ i = 16 ∨ i = 17 ∨ i = 18 ∨ i = 19 ∨ i = 20) with rfl | rfl | rfl | rfl | rfl | rfl | rfl | rfl | rfl | rfl | rfl | rfl | rfl | rfl | rfl | rfl | rfl | rfl | rfl | rfl | rfl
          · refine wpOp_step ho (fun K hK => ?_)
            obtain rfl := (Option.some.inj ho).symm
            have HK := Aside0.mk hK
            clear hK ho
            rw [if_pos (by rfl)]
            go_simp
            exact HK.out _ _ ⟨_, by first | rfl | simp [upd, *], h.plain 0 _ rfl⟩
          · refine wpOp_step ho (fun K hK => ?_)
            obtain rfl := (Option.some.inj ho).symm
            have HK := Aside0.mk hK
            clear hK ho
            rw [if_pos (by rfl)]
            go_simp
            exact HK.out _ _ ⟨_, by first | rfl | simp [upd, *], h.plain 1 _ rfl⟩
          · refine wpOp_step ho (fun K hK => ?_)
            obtain rfl := (Option.some.inj ho).symm
            have HK := Aside0.mk hK
            clear hK ho
            have t_0 := hd 0 (by kernel_rfl)
            have t_1 := hd 1 (by kernel_rfl)
            have v0 : vs 0 = .bool true := h.a 0 t_0
            have v1 : vs 1 = .bool true := h.a 1 t_1
            rw [if_pos (by rfl)]
            go_simp
            exact HK.out _ _ ⟨_, by first | rfl | simp [upd, *], h.plain 2 _ rfl⟩
          · refine wpOp_step ho (fun K hK => ?_)
            obtain rfl := (Option.some.inj ho).symm
            have HK := Aside0.mk hK
            clear hK ho
            have t_2 := hd 2 (by kernel_rfl)
            have v2 : vs 2 = .bool true := h.a 2 t_2
            rw [if_pos (by rfl)]
            go_simp
            exact HK.out _ _ ⟨_, by first | rfl | simp [upd, *], h.plain 3 _ rfl⟩
          · refine wpOp_step ho (fun K hK => ?_)
            obtain rfl := (Option.some.inj ho).symm
            have HK := Aside0.mk hK
            clear hK ho
            have t_3 := hd 3 (by kernel_rfl)
            have v3 : vs 3 = .bool true := h.a 3 t_3
            rw [if_pos (by rw [wanted_of rfl (x := 25) (by kernel_rfl) ((rfl : _ = some (vs 3)).trans (congrArg some v3))]; decide)]
            have hk := blk_below (blk_drew HK4.out) h.b
            have z0 := (blk_cell hk 0).trans rfl
            have z1 := (blk_cell hk 1).trans rfl
            have z2 := (blk_cell hk 2).trans rfl
            have z3 := (blk_cell hk 3).trans rfl
            have z4 := (blk_cell hk 4).trans rfl
            have z5 := (blk_cell hk 5).trans rfl
            have z6 := (blk_cell hk 6).trans rfl
            have z7 := (blk_cell hk 7).trans rfl
            have z8 := (blk_cell hk 8).trans rfl
            have z9 := (blk_cell hk 9).trans rfl
            clear hk
            go_simp
            exact HK.out _ _ ⟨_, by first | rfl | simp [upd, *], h.plain 4 _ rfl⟩
          · refine wpOp_step ho (fun K hK => ?_)
            obtain rfl := (Option.some.inj ho).symm
            have HK := Aside0.mk hK
            clear hK ho
            have t_3 := hd 3 (by kernel_rfl)
            have v3 : vs 3 = .bool true := h.a 3 t_3
            rw [if_pos (by rw [wanted_of rfl (x := 25) (by kernel_rfl) ((rfl : _ = some (vs 3)).trans (congrArg some v3))]; decide)]
            have hk := blk_below (blk_drew HK3.out) h.b
            have z0 := (blk_cell hk 0).trans rfl
            have z1 := (blk_cell hk 1).trans rfl
            have z2 := (blk_cell hk 2).trans rfl
            have z3 := (blk_cell hk 3).trans rfl
            have z4 := (blk_cell hk 4).trans rfl
            have z5 := (blk_cell hk 5).trans rfl
            have z6 := (blk_cell hk 6).trans rfl
            have z7 := (blk_cell hk 7).trans rfl
            have z8 := (blk_cell hk 8).trans rfl
            have z9 := (blk_cell hk 9).trans rfl
            clear hk
            go_simp
            exact HK.out _ _ ⟨_, by first | rfl | simp [upd, *], h.plain 5 _ rfl⟩
          · refine wpOp_step ho (fun K hK => ?_)
            obtain rfl := (Option.some.inj ho).symm
            have HK := Aside0.mk hK
            clear hK ho
            have t_3 := hd 3 (by kernel_rfl)
            have t_4 := hd 4 (by kernel_rfl)
            have t_5 := hd 5 (by kernel_rfl)
            have v3 : vs 3 = .bool true := h.a 3 t_3
            have v4 : vs 4 = .agg #[.slice B0 o0.length b0, .slice B1 o1.length b1, .slice B2 o2.length b2, .slice B3 o3.length b3, .int .i64 o4, .int .i64 o5, .slice B6 o6.length b6, .slice B7 o7.length b7, .slice B8 o8.length b8, .slice B9 o9.length b9] := h.a 4 t_4
            have v5 : vs 5 = .agg #[.slice D0 o0.length d0, .slice D1 o1.length d1, .slice D2 o2.length d2, .slice D3 o3.length d3, .int .i64 o4, .int .i64 o5, .slice D6 o6.length d6, .slice D7 o7.length d7, .slice D8 o8.length d8, .slice D9 o9.length d9] := h.a 5 t_5
            rw [if_pos (by rw [wanted_of rfl (x := 25) (by kernel_rfl) ((rfl : _ = some (vs 3)).trans (congrArg some v3))]; decide)]
            obtain ⟨s0, s1, s2, s3, s6, s7, s8, s9⟩ := HS.out
            have KE := equal12_any B0 b0 o0 B1 b1 o1 B2 b2 o2 B3 b3 o3 o4 o5 B6 b6 o6 B7 b7 o7 B8 b8 o8 B9 b9 o9 D0 d0 o0 D1 d1 o1 D2 d2 o2 D3 d3 o3 o4 o5 D6 d6 o6 D7 d7 o7 D8 d8 o8 D9 d9 o9 W (Kd.C_below (Kd.C_drew CB0.out) h.b) BB0.out.2.1 (Kd.C_below (Kd.C_drew CB1.out) h.b) BB1.out.2.1 (Kd.C_below (Kd.C_drew CB2.out) h.b) BB2.out.2.1 (Kd.C_below (Kd.C_drew CB3.out) h.b) BB3.out.2.1 (Kd.C_below (Kd.C_drew CB6.out) h.b) BB6.out.2.1 (Kd.C_below (Kd.C_drew CB7.out) h.b) BB7.out.2.1 (Kd.C_below (Kd.C_drew CB8.out) h.b) BB8.out.2.1 (Kd.C_below (Kd.C_drew CB9.out) h.b) BB9.out.2.1 (Kd.C_below (Kd.C_drew DD0.out.2.2) h.b) DD0.out.2.1 (Kd.C_below (Kd.C_drew DD1.out.2.2) h.b) DD1.out.2.1 (Kd.C_below (Kd.C_drew DD2.out.2.2) h.b) DD2.out.2.1 (Kd.C_below (Kd.C_drew DD3.out.2.2) h.b) DD3.out.2.1 (Kd.C_below (Kd.C_drew DD6.out.2.2) h.b) DD6.out.2.1 (Kd.C_below (Kd.C_drew DD7.out.2.2) h.b) DD7.out.2.1 (Kd.C_below (Kd.C_drew DD8.out.2.2) h.b) DD8.out.2.1 (Kd.C_below (Kd.C_drew DD9.out.2.2) h.b) DD9.out.2.1 (by refine ⟨?_, ?_, ?_, ?_, ?_, ?_, ?_, ?_⟩ <;> omega)
            rw [eqF_self] at KE
            have KEA := Aside0.mk KE
            clear KE s0 s1 s2 s3 s6 s7 s8 s9
            go_wp2_with (go_at_call 12; refine KEA.out.mono ?_; rintro e we ⟨rfl, hbe⟩)
            exact HK.out _ _ ⟨_, by first | rfl | simp [upd, *], h.call RA_keep hbe 6 _ rfl⟩
          · refine wpOp_step ho (fun K hK => ?_)
            obtain rfl := (Option.some.inj ho).symm
            have HK := Aside0.mk hK
            clear hK ho
            have t_3 := hd 3 (by kernel_rfl)
            have t_6 := hd 6 (by kernel_rfl)
            have v3 : vs 3 = .bool true := h.a 3 t_3
            have v6 : vs 6 = .bool true := h.a 6 t_6
            rw [if_pos (by rfl)]
            go_simp
            exact HK.out _ _ ⟨_, by first | rfl | simp [upd, *], h.plain 7 _ rfl⟩
          · refine wpOp_step ho (fun K hK => ?_)
            obtain rfl := (Option.some.inj ho).symm
            have HK := Aside0.mk hK
            clear hK ho
            have t_7 := hd 7 (by kernel_rfl)
            have v7 : vs 7 = .bool true := h.a 7 t_7
            rw [if_pos (by rfl)]
            go_simp
            exact HK.out _ _ ⟨_, by first | rfl | simp [upd, *], h.plain 8 _ rfl⟩
          · refine wpOp_step ho (fun K hK => ?_)
            obtain rfl := (Option.some.inj ho).symm
            have HK := Aside0.mk hK
            clear hK ho
            have t_8 := hd 8 (by kernel_rfl)
            have v8 : vs 8 = .bool true := h.a 8 t_8
            rw [if_pos (by rw [wanted_of rfl (x := 30) (by kernel_rfl) ((rfl : _ = some (vs 8)).trans (congrArg some v8))]; decide)]
            go_simp
            exact HK.out _ _ ⟨_, by first | rfl | simp [upd, *], h.plain 9 _ rfl⟩
          · refine wpOp_step ho (fun K hK => ?_)
            obtain rfl := (Option.some.inj ho).symm
            have HK := Aside0.mk hK
            clear hK ho
            have t_8 := hd 8 (by kernel_rfl)
            have t_9 := hd 9 (by kernel_rfl)
            have v8 : vs 8 = .bool true := h.a 8 t_8
            have v9 : vs 9 = .bool true := h.a 9 t_9
            rw [if_pos (by rw [wanted_of rfl (x := 30) (by kernel_rfl) ((rfl : _ = some (vs 8)).trans (congrArg some v8))]; decide)]
            go_simp
            exact HK.out _ _ ⟨_, by first | rfl | simp [upd, *], h.plain 10 _ rfl⟩
          · refine wpOp_step ho (fun K hK => ?_)
            obtain rfl := (Option.some.inj ho).symm
            have HK := Aside0.mk hK
            clear hK ho
            have t_8 := hd 8 (by kernel_rfl)
            have t_10 := hd 10 (by kernel_rfl)
            have v8 : vs 8 = .bool true := h.a 8 t_8
            have v10 : vs 10 = .bool false := h.a 10 t_10
            rw [if_pos (by rw [wanted_of rfl (x := 30) (by kernel_rfl) ((rfl : _ = some (vs 8)).trans (congrArg some v8))]; decide)]
            go_simp
            exact HK.out _ _ ⟨_, by first | rfl | simp [upd, *], h.plain 11 _ rfl⟩
          · refine wpOp_step ho (fun K hK => ?_)
            obtain rfl := (Option.some.inj ho).symm
            have HK := Aside0.mk hK
            clear hK ho
            have t_11 := hd 11 (by kernel_rfl)
            have v11 : vs 11 = .bool false := h.a 11 t_11
            rw [if_pos (by rw [wanted_of rfl (x := 33) (by kernel_rfl) ((rfl : _ = some (vs 11)).trans (congrArg some v11))]; decide)]
            have hk := blk_below (blk_drew HK4.out) h.b
            have z0 := (blk_cell hk 0).trans rfl
            have z1 := (blk_cell hk 1).trans rfl
            have z2 := (blk_cell hk 2).trans rfl
            have z3 := (blk_cell hk 3).trans rfl
            have z4 := (blk_cell hk 4).trans rfl
            have z5 := (blk_cell hk 5).trans rfl
            have z6 := (blk_cell hk 6).trans rfl
            have z7 := (blk_cell hk 7).trans rfl
            have z8 := (blk_cell hk 8).trans rfl
            have z9 := (blk_cell hk 9).trans rfl
            clear hk
            go_simp
            exact HK.out _ _ ⟨_, by first | rfl | simp [upd, *], h.plain 12 _ rfl⟩
          · refine wpOp_step ho (fun K hK => ?_)
            obtain rfl := (Option.some.inj ho).symm
            have HK := Aside0.mk hK
            clear hK ho
            have t_11 := hd 11 (by kernel_rfl)
            have t_12 := hd 12 (by kernel_rfl)
            have v11 : vs 11 = .bool false := h.a 11 t_11
            have v12 : vs 12 = .agg #[.slice B0 o0.length b0, .slice B1 o1.length b1, .slice B2 o2.length b2, .slice B3 o3.length b3, .int .i64 o4, .int .i64 o5, .slice B6 o6.length b6, .slice B7 o7.length b7, .slice B8 o8.length b8, .slice B9 o9.length b9] := h.a 12 t_12
            rw [if_pos (by rw [wanted_of rfl (x := 33) (by kernel_rfl) ((rfl : _ = some (vs 11)).trans (congrArg some v11))]; decide)]
            have KE := code_Bytes.calls B0 b0 o0 B1 b1 o1 B2 b2 o2 B3 b3 o3 o4 o5 B6 b6 o6 B7 b7 o7 B8 b8 o8 B9 b9 o9 l0 W (Kd.C_below (Kd.C_drew CB0.out) h.b) BB0.out.2.1 (Kd.C_below (Kd.C_drew CB1.out) h.b) BB1.out.2.1 (Kd.C_below (Kd.C_drew CB2.out) h.b) BB2.out.2.1 (Kd.C_below (Kd.C_drew CB3.out) h.b) BB3.out.2.1 (Kd.C_below (Kd.C_drew CB6.out) h.b) BB6.out.2.1 (Kd.C_below (Kd.C_drew CB7.out) h.b) BB7.out.2.1 (Kd.C_below (Kd.C_drew CB8.out) h.b) BB8.out.2.1 (Kd.C_below (Kd.C_drew CB9.out) h.b) BB9.out.2.1 HF.out
            have KEA := Aside0.mk KE
            clear KE
            go_wp2_with (go_at_call 13; refine KEA.out.mono ?_; rintro e we ⟨vy, rfl, hry, hbe⟩)
            obtain ⟨Ay, cy, rfl⟩ := Kd.R_slice hry
            exact HK.out _ _ ⟨.slice Ay l0.length cy, by first | rfl | simp [upd, *], h.call RA_keep hbe 13 _ ⟨Ay, cy, rfl, (Kd.R_reads' hry).2.2⟩⟩
          · refine wpOp_step ho (fun K hK => ?_)
            obtain rfl := (Option.some.inj ho).symm
            have HK := Aside0.mk hK
            clear hK ho
            have t_11 := hd 11 (by kernel_rfl)
            have t_13 := hd 13 (by kernel_rfl)
            have v11 : vs 11 = .bool false := h.a 11 t_11
            obtain ⟨Ay, cy, v13, hy13⟩ : ∃ A c, vs 13 = .slice A l0.length c ∧ Kd.C (Kd.int .u8) W A l0.length l0 := h.a 13 t_13
            rw [if_pos (by rw [wanted_of rfl (x := 33) (by kernel_rfl) ((rfl : _ = some (vs 11)).trans (congrArg some v11))]; decide)]
            have kc := Kd.C_string (P := Try.prog) (c := cy) Try.underlying22 Try.underlying5 Try.underlying9 hy13
            go_simp
            exact HK.out _ _ ⟨_, by first | rfl | simp [upd, *], h.plain 14 _ rfl⟩
          · refine wpOp_step ho (fun K hK => ?_)
            obtain rfl := (Option.some.inj ho).symm
            have HK := Aside0.mk hK
            clear hK ho
            have t_11 := hd 11 (by kernel_rfl)
            have v11 : vs 11 = .bool false := h.a 11 t_11
            rw [if_pos (by rw [wanted_of rfl (x := 33) (by kernel_rfl) ((rfl : _ = some (vs 11)).trans (congrArg some v11))]; decide)]
            go_simp
            exact HK.out _ _ ⟨_, by first | rfl | simp [upd, *], h.plain 15 _ rfl⟩
          · refine wpOp_step ho (fun K hK => ?_)
            obtain rfl := (Option.some.inj ho).symm
            have HK := Aside0.mk hK
            clear hK ho
            have t_11 := hd 11 (by kernel_rfl)
            have t_15 := hd 15 (by kernel_rfl)
            have v11 : vs 11 = .bool false := h.a 11 t_11
            have v15 : vs 15 = .slice A0 l0.length c0 := h.a 15 t_15
            rw [if_pos (by rw [wanted_of rfl (x := 33) (by kernel_rfl) ((rfl : _ = some (vs 11)).trans (congrArg some v11))]; decide)]
            have kc := Kd.C_string (P := Try.prog) (c := c0) Try.underlying22 Try.underlying5 Try.underlying9 (Kd.C_below (Kd.C_drew (Kd.C_below HR.out HB3.out)) h.b)
            go_simp
            exact HK.out _ _ ⟨_, by first | rfl | simp [upd, *], h.plain 16 _ rfl⟩
          · refine wpOp_step ho (fun K hK => ?_)
            obtain rfl := (Option.some.inj ho).symm
            have HK := Aside0.mk hK
            clear hK ho
            have t_11 := hd 11 (by kernel_rfl)
            have t_14 := hd 14 (by kernel_rfl)
            have t_16 := hd 16 (by kernel_rfl)
            have v11 : vs 11 = .bool false := h.a 11 t_11
            have v14 : vs 14 = .string (strOfNums l0) := h.a 14 t_14
            have v16 : vs 16 = .string (strOfNums l0) := h.a 16 t_16
            rw [if_pos (by rw [wanted_of rfl (x := 33) (by kernel_rfl) ((rfl : _ = some (vs 11)).trans (congrArg some v11))]; decide)]
            go_simp
            exact HK.out _ _ ⟨_, by first | rfl | simp [upd, *], h.plain 17 _ rfl⟩
          · refine wpOp_step ho (fun K hK => ?_)
            obtain rfl := (Option.some.inj ho).symm
            have HK := Aside0.mk hK
            clear hK ho
            have t_8 := hd 8 (by kernel_rfl)
            have t_11 := hd 11 (by kernel_rfl)
            have t_17 := hd 17 (by kernel_rfl)
            have v8 : vs 8 = .bool true := h.a 8 t_8
            have v11 : vs 11 = .bool false := h.a 11 t_11
            have v17 : vs 17 = .bool true := h.a 17 t_17
            rw [if_pos (by rw [wanted_of rfl (x := 30) (by kernel_rfl) ((rfl : _ = some (vs 8)).trans (congrArg some v8))]; decide)]
            go_simp
            exact HK.out _ _ ⟨_, by first | rfl | simp [upd, *], h.plain 18 _ rfl⟩
          · refine wpOp_step ho (fun K hK => ?_)
            obtain rfl := (Option.some.inj ho).symm
            have HK := Aside0.mk hK
            clear hK ho
            have t_8 := hd 8 (by kernel_rfl)
            have t_18 := hd 18 (by kernel_rfl)
            have v8 : vs 8 = .bool true := h.a 8 t_8
            have v18 : vs 18 = .bool true := h.a 18 t_18
            rw [if_pos (by rfl)]
            go_simp
            exact HK.out _ _ ⟨_, by first | rfl | simp [upd, *], h.plain 19 _ rfl⟩
          · refine wpOp_step ho (fun K hK => ?_)
            obtain rfl := (Option.some.inj ho).symm
            have HK := Aside0.mk hK
            clear hK ho
            have t_19 := hd 19 (by kernel_rfl)
            have v19 : vs 19 = .bool true := h.a 19 t_19
            rw [if_pos (by rfl)]
            go_simp
            exact HK.out _ _ ⟨_, by first | rfl | simp [upd, *], h.plain 20 _ rfl⟩
        case fin =>
          intro l vs W hall h
          have v20 : vs 20 = .bool true := h.a 20 (hall 20 (by decide))
          have hbw : Below W3.heap.size W3 W := (below_drew1 (Below.refl _ W3)).trans h.b
          have HBW := Aside0.mk hbw
          clear hbw h hall
          go_step
          go_step
          go_meet
          case rel => exact ⟨v20, HBW⟩
      case rest =>
        obtain ⟨rfl, HBW⟩ := hcut
        go_wp2
        go_ret
        exact ⟨rfl, HB3.out.trans (HBW.out.mono HB3.out.size)⟩
    | false =>
      clear HBT
      have RA_keep : ∀ j v W W', (RAf l0 (.slice A0 l0.length c0) (.agg #[.slice B0 o0.length b0, .slice B1 o1.length b1, .slice B2 o2.length b2, .slice B3 o3.length b3, .int .i64 o4, .int .i64 o5, .slice B6 o6.length b6, .slice B7 o7.length b7, .slice B8 o8.length b8, .slice B9 o9.length b9]) (.agg #[.slice D0 o0.length d0, .slice D1 o1.length d1, .slice D2 o2.length d2, .slice D3 o3.length d3, .int .i64 o4, .int .i64 o5, .slice D6 o6.length d6, .slice D7 o7.length d7, .slice D8 o8.length d8, .slice D9 o9.length d9])) j v W → Below W.heap.size W W' → (RAf l0 (.slice A0 l0.length c0) (.agg #[.slice B0 o0.length b0, .slice B1 o1.length b1, .slice B2 o2.length b2, .slice B3 o3.length b3, .int .i64 o4, .int .i64 o5, .slice B6 o6.length b6, .slice B7 o7.length b7, .slice B8 o8.length b8, .slice B9 o9.length b9]) (.agg #[.slice D0 o0.length d0, .slice D1 o1.length d1, .slice D2 o2.length d2, .slice D3 o3.length d3, .int .i64 o4, .int .i64 o5, .slice D6 o6.length d6, .slice D7 o7.length d7, .slice D8 o8.length d8, .slice D9 o9.length d9])) j v W' := fun j v W W' => RAf_keep
      go_cut [2, 22, 23, 24, 25, 26, 27, 28, 29, 30, 31, 32, 33, 34, 35, 36, 37, 38, 39, 40, 41] (fun v2 _ _ _ _ _ _ _ _ _ _ _ _ _ _ _ _ _ _ _ _ we => v2 = .bool true ∧ Aside0 (Below W3.heap.size W3 we))
      case first =>
        refine wp_region_inv (by kernel_rfl) (by kernel_rfl) (fun vs => { tmps := List.toArray ((.slice A0 l0.length c0) :: (undef) :: (vs 20) :: (.pointer (some ⟨wo.heap.size, 0, none⟩)) :: (.bool false) :: (.pointer (some ⟨wp.heap.size, 0, none⟩)) :: (.bool false) :: (.bool true) :: (.bool false) :: (.slice A0 l0.length c0) :: (.int .i64 (l0.length : Int)) :: (.bool false) :: (.tuple #[.agg #[.slice B0 o0.length b0, .slice B1 o1.length b1, .slice B2 o2.length b2, .slice B3 o3.length b3, .int .i64 o4, .int .i64 o5, .slice B6 o6.length b6, .slice B7 o7.length b7, .slice B8 o8.length b8, .slice B9 o9.length b9], .bool false]) :: (.slice A0 l0.length c0) :: (.tuple #[.agg #[.slice B0 o0.length b0, .slice B1 o1.length b1, .slice B2 o2.length b2, .slice B3 o3.length b3, .int .i64 o4, .int .i64 o5, .slice B6 o6.length b6, .slice B7 o7.length b7, .slice B8 o8.length b8, .slice B9 o9.length b9], .bool false]) :: (.agg #[.slice B0 o0.length b0, .slice B1 o1.length b1, .slice B2 o2.length b2, .slice B3 o3.length b3, .int .i64 o4, .int .i64 o5, .slice B6 o6.length b6, .slice B7 o7.length b7, .slice B8 o8.length b8, .slice B9 o9.length b9]) :: (.bool false) :: (.tuple #[.agg #[.slice D0 o0.length d0, .slice D1 o1.length d1, .slice D2 o2.length d2, .slice D3 o3.length d3, .int .i64 o4, .int .i64 o5, .slice D6 o6.length d6, .slice D7 o7.length d7, .slice D8 o8.length d8, .slice D9 o9.length d9], .bool false]) :: (.slice A0 l0.length c0) :: (.tuple #[.agg #[.slice D0 o0.length d0, .slice D1 o1.length d1, .slice D2 o2.length d2, .slice D3 o3.length d3, .int .i64 o4, .int .i64 o5, .slice D6 o6.length d6, .slice D7 o7.length d7, .slice D8 o8.length d8, .slice D9 o9.length d9], .bool false]) :: (.agg #[.slice D0 o0.length d0, .slice D1 o1.length d1, .slice D2 o2.length d2, .slice D3 o3.length d3, .int .i64 o4, .int .i64 o5, .slice D6 o6.length d6, .slice D7 o7.length d7, .slice D8 o8.length d8, .slice D9 o9.length d9]) :: (.bool false) :: (vs 0) :: (vs 1) :: (vs 2) :: (vs 3) :: (vs 4) :: (vs 5) :: (vs 6) :: (vs 7) :: (vs 8) :: (vs 9) :: (vs 10) :: (vs 11) :: (vs 12) :: (vs 13) :: (vs 14) :: (vs 15) :: (vs 16) :: (vs 17) :: (vs 18) :: (vs 19) :: []), defers := [] }) (fun l vs W => IV W3.drew (RAf l0 (.slice A0 l0.length c0) (.agg #[.slice B0 o0.length b0, .slice B1 o1.length b1, .slice B2 o2.length b2, .slice B3 o3.length b3, .int .i64 o4, .int .i64 o5, .slice B6 o6.length b6, .slice B7 o7.length b7, .slice B8 o8.length b8, .slice B9 o9.length b9]) (.agg #[.slice D0 o0.length d0, .slice D1 o1.length d1, .slice D2 o2.length d2, .slice D3 o3.length d3, .int .i64 o4, .int .i64 o5, .slice D6 o6.length d6, .slice D7 o7.length d7, .slice D8 o8.length d8, .slice D9 o9.length d9])) l vs W) ?step ?fin (fun i => match i with | 20 => .bool false | _ => undef) rfl ?start
        case start => exact ⟨Below.refl _ _, nofun⟩
        case step =>
          intro i o ho l vs W h hl hd hcl
          have hi : i < 21 := (Array.getElem?_eq_some_iff.1 ho).1
          rcases (by omega : i = 0 ∨ i = 1 ∨ i = 2 ∨ i = 3 ∨ i = 4 ∨ i = 5 ∨ i = 6 ∨ i = 7 ∨ i = 8 ∨ i = 9 ∨ i = 10 ∨ i = 11 ∨ i = 12 ∨ i = 13 ∨ i = 14 ∨ i = 15 ∨ i = 16 ∨ i = 17 ∨ i = 18 ∨ i = 19 ∨ i = 20) with rfl | rfl | rfl | rfl | rfl | rfl | rfl | rfl | rfl | rfl | rfl | rfl | rfl | rfl | rfl | rfl | rfl | rfl | rfl | rfl | rfl
          · refine wpOp_step ho (fun K hK => ?_)
            obtain rfl := (Option.some.inj ho).symm
            have HK := Aside0.mk hK
            clear hK ho
            rw [if_pos (by rfl)]
            go_simp
            exact HK.out _ _ ⟨_, by first | rfl | simp [upd, *], h.plain 0 _ rfl⟩
          · refine wpOp_step ho (fun K hK => ?_)
            obtain rfl := (Option.some.inj ho).symm
            have HK := Aside0.mk hK
            clear hK ho
            rw [if_pos (by rfl)]
            go_simp
            exact HK.out _ _ ⟨_, by first | rfl | simp [upd, *], h.plain 1 _ rfl⟩
          · refine wpOp_step ho (fun K hK => ?_)
            obtain rfl := (Option.some.inj ho).symm
            have HK := Aside0.mk hK
            clear hK ho
            have t_0 := hd 0 (by kernel_rfl)
            have t_1 := hd 1 (by kernel_rfl)
            have v0 : vs 0 = .bool false := h.a 0 t_0
            have v1 : vs 1 = .bool false := h.a 1 t_1
            rw [if_pos (by rfl)]
            go_simp
            exact HK.out _ _ ⟨_, by first | rfl | simp [upd, *], h.plain 2 _ rfl⟩
          · refine wpOp_step ho (fun K hK => ?_)
            obtain rfl := (Option.some.inj ho).symm
            have HK := Aside0.mk hK
            clear hK ho
            have t_2 := hd 2 (by kernel_rfl)
            have v2 : vs 2 = .bool true := h.a 2 t_2
            rw [if_pos (by rfl)]
            go_simp
            exact HK.out _ _ ⟨_, by first | rfl | simp [upd, *], h.plain 3 _ rfl⟩
          · refine wpOp_step ho (fun K hK => ?_)
            obtain rfl := (Option.some.inj ho).symm
            have HK := Aside0.mk hK
            clear hK ho
            have t_3 := hd 3 (by kernel_rfl)
            have v3 : vs 3 = .bool true := h.a 3 t_3
            rw [if_pos (by rw [wanted_of rfl (x := 25) (by kernel_rfl) ((rfl : _ = some (vs 3)).trans (congrArg some v3))]; decide)]
            have hk := blk_below (blk_drew HK4.out) h.b
            have z0 := (blk_cell hk 0).trans rfl
            have z1 := (blk_cell hk 1).trans rfl
            have z2 := (blk_cell hk 2).trans rfl
            have z3 := (blk_cell hk 3).trans rfl
            have z4 := (blk_cell hk 4).trans rfl
            have z5 := (blk_cell hk 5).trans rfl
            have z6 := (blk_cell hk 6).trans rfl
            have z7 := (blk_cell hk 7).trans rfl
            have z8 := (blk_cell hk 8).trans rfl
            have z9 := (blk_cell hk 9).trans rfl
            clear hk
            go_simp
            exact HK.out _ _ ⟨_, by first | rfl | simp [upd, *], h.plain 4 _ rfl⟩
          · refine wpOp_step ho (fun K hK => ?_)
            obtain rfl := (Option.some.inj ho).symm
            have HK := Aside0.mk hK
            clear hK ho
            have t_3 := hd 3 (by kernel_rfl)
            have v3 : vs 3 = .bool true := h.a 3 t_3
            rw [if_pos (by rw [wanted_of rfl (x := 25) (by kernel_rfl) ((rfl : _ = some (vs 3)).trans (congrArg some v3))]; decide)]
            have hk := blk_below (blk_drew HK3.out) h.b
            have z0 := (blk_cell hk 0).trans rfl
            have z1 := (blk_cell hk 1).trans rfl
            have z2 := (blk_cell hk 2).trans rfl
            have z3 := (blk_cell hk 3).trans rfl
            have z4 := (blk_cell hk 4).trans rfl
            have z5 := (blk_cell hk 5).trans rfl
            have z6 := (blk_cell hk 6).trans rfl
            have z7 := (blk_cell hk 7).trans rfl
            have z8 := (blk_cell hk 8).trans rfl
            have z9 := (blk_cell hk 9).trans rfl
            clear hk
            go_simp
            exact HK.out _ _ ⟨_, by first | rfl | simp [upd, *], h.plain 5 _ rfl⟩
          · refine wpOp_step ho (fun K hK => ?_)
            obtain rfl := (Option.some.inj ho).symm
            have HK := Aside0.mk hK
            clear hK ho
            have t_3 := hd 3 (by kernel_rfl)
            have t_4 := hd 4 (by kernel_rfl)
            have t_5 := hd 5 (by kernel_rfl)
            have v3 : vs 3 = .bool true := h.a 3 t_3
            have v4 : vs 4 = .agg #[.slice B0 o0.length b0, .slice B1 o1.length b1, .slice B2 o2.length b2, .slice B3 o3.length b3, .int .i64 o4, .int .i64 o5, .slice B6 o6.length b6, .slice B7 o7.length b7, .slice B8 o8.length b8, .slice B9 o9.length b9] := h.a 4 t_4
            have v5 : vs 5 = .agg #[.slice D0 o0.length d0, .slice D1 o1.length d1, .slice D2 o2.length d2, .slice D3 o3.length d3, .int .i64 o4, .int .i64 o5, .slice D6 o6.length d6, .slice D7 o7.length d7, .slice D8 o8.length d8, .slice D9 o9.length d9] := h.a 5 t_5
            rw [if_pos (by rw [wanted_of rfl (x := 25) (by kernel_rfl) ((rfl : _ = some (vs 3)).trans (congrArg some v3))]; decide)]
            obtain ⟨s0, s1, s2, s3, s6, s7, s8, s9⟩ := HS.out
            have KE := equal12_any B0 b0 o0 B1 b1 o1 B2 b2 o2 B3 b3 o3 o4 o5 B6 b6 o6 B7 b7 o7 B8 b8 o8 B9 b9 o9 D0 d0 o0 D1 d1 o1 D2 d2 o2 D3 d3 o3 o4 o5 D6 d6 o6 D7 d7 o7 D8 d8 o8 D9 d9 o9 W (Kd.C_below (Kd.C_drew CB0.out) h.b) BB0.out.2.1 (Kd.C_below (Kd.C_drew CB1.out) h.b) BB1.out.2.1 (Kd.C_below (Kd.C_drew CB2.out) h.b) BB2.out.2.1 (Kd.C_below (Kd.C_drew CB3.out) h.b) BB3.out.2.1 (Kd.C_below (Kd.C_drew CB6.out) h.b) BB6.out.2.1 (Kd.C_below (Kd.C_drew CB7.out) h.b) BB7.out.2.1 (Kd.C_below (Kd.C_drew CB8.out) h.b) BB8.out.2.1 (Kd.C_below (Kd.C_drew CB9.out) h.b) BB9.out.2.1 (Kd.C_below (Kd.C_drew DD0.out.2.2) h.b) DD0.out.2.1 (Kd.C_below (Kd.C_drew DD1.out.2.2) h.b) DD1.out.2.1 (Kd.C_below (Kd.C_drew DD2.out.2.2) h.b) DD2.out.2.1 (Kd.C_below (Kd.C_drew DD3.out.2.2) h.b) DD3.out.2.1 (Kd.C_below (Kd.C_drew DD6.out.2.2) h.b) DD6.out.2.1 (Kd.C_below (Kd.C_drew DD7.out.2.2) h.b) DD7.out.2.1 (Kd.C_below (Kd.C_drew DD8.out.2.2) h.b) DD8.out.2.1 (Kd.C_below (Kd.C_drew DD9.out.2.2) h.b) DD9.out.2.1 (by refine ⟨?_, ?_, ?_, ?_, ?_, ?_, ?_, ?_⟩ <;> omega)
            rw [eqF_self] at KE
            have KEA := Aside0.mk KE
            clear KE s0 s1 s2 s3 s6 s7 s8 s9
            go_wp2_with (go_at_call 12; refine KEA.out.mono ?_; rintro e we ⟨rfl, hbe⟩)
            exact HK.out _ _ ⟨_, by first | rfl | simp [upd, *], h.call RA_keep hbe 6 _ rfl⟩
          · refine wpOp_step ho (fun K hK => ?_)
            obtain rfl := (Option.some.inj ho).symm
            have HK := Aside0.mk hK
            clear hK ho
            have t_3 := hd 3 (by kernel_rfl)
            have t_6 := hd 6 (by kernel_rfl)
            have v3 : vs 3 = .bool true := h.a 3 t_3
            have v6 : vs 6 = .bool true := h.a 6 t_6
            rw [if_pos (by rfl)]
            go_simp
            exact HK.out _ _ ⟨_, by first | rfl | simp [upd, *], h.plain 7 _ rfl⟩
          · refine wpOp_step ho (fun K hK => ?_)
            obtain rfl := (Option.some.inj ho).symm
            have HK := Aside0.mk hK
            clear hK ho
            have t_7 := hd 7 (by kernel_rfl)
            have v7 : vs 7 = .bool true := h.a 7 t_7
            rw [if_pos (by rfl)]
            go_simp
            exact HK.out _ _ ⟨_, by first | rfl | simp [upd, *], h.plain 8 _ rfl⟩
          · refine wpOp_step ho (fun K hK => ?_)
            obtain rfl := (Option.some.inj ho).symm
            have HK := Aside0.mk hK
            clear hK ho
            have t_8 := hd 8 (by kernel_rfl)
            have v8 : vs 8 = .bool true := h.a 8 t_8
            rw [if_pos (by rw [wanted_of rfl (x := 30) (by kernel_rfl) ((rfl : _ = some (vs 8)).trans (congrArg some v8))]; decide)]
            go_simp
            exact HK.out _ _ ⟨_, by first | rfl | simp [upd, *], h.plain 9 _ rfl⟩
          · refine wpOp_step ho (fun K hK => ?_)
            obtain rfl := (Option.some.inj ho).symm
            have HK := Aside0.mk hK
            clear hK ho
            have t_8 := hd 8 (by kernel_rfl)
            have t_9 := hd 9 (by kernel_rfl)
            have v8 : vs 8 = .bool true := h.a 8 t_8
            have v9 : vs 9 = .bool false := h.a 9 t_9
            rw [if_pos (by rw [wanted_of rfl (x := 30) (by kernel_rfl) ((rfl : _ = some (vs 8)).trans (congrArg some v8))]; decide)]
            go_simp
            exact HK.out _ _ ⟨_, by first | rfl | simp [upd, *], h.plain 10 _ rfl⟩
          · refine wpOp_step ho (fun K hK => ?_)
            obtain rfl := (Option.some.inj ho).symm
            have HK := Aside0.mk hK
            clear hK ho
            have t_8 := hd 8 (by kernel_rfl)
            have t_10 := hd 10 (by kernel_rfl)
            have v8 : vs 8 = .bool true := h.a 8 t_8
            have v10 : vs 10 = .bool true := h.a 10 t_10
            rw [if_pos (by rw [wanted_of rfl (x := 30) (by kernel_rfl) ((rfl : _ = some (vs 8)).trans (congrArg some v8))]; decide)]
            go_simp
            exact HK.out _ _ ⟨_, by first | rfl | simp [upd, *], h.plain 11 _ rfl⟩
          · refine wpOp_step ho (fun K hK => ?_)
            obtain rfl := (Option.some.inj ho).symm
            have HK := Aside0.mk hK
            clear hK ho
            have t_11 := hd 11 (by kernel_rfl)
            have v11 : vs 11 = .bool true := h.a 11 t_11
            rw [if_neg (by rw [wanted_of rfl (x := 33) (by kernel_rfl) ((rfl : _ = some (vs 11)).trans (congrArg some v11))]; decide)]
            exact HK.out _ _ ⟨undef, by first | rfl | simp [upd, *], h.plain 12 _ trivial⟩
          · refine wpOp_step ho (fun K hK => ?_)
            obtain rfl := (Option.some.inj ho).symm
            have HK := Aside0.mk hK
            clear hK ho
            have t_11 := hd 11 (by kernel_rfl)
            have v11 : vs 11 = .bool true := h.a 11 t_11
            rw [if_neg (by rw [wanted_of rfl (x := 33) (by kernel_rfl) ((rfl : _ = some (vs 11)).trans (congrArg some v11))]; decide)]
            exact HK.out _ _ ⟨undef, by first | rfl | simp [upd, *], h.plain 13 _ trivial⟩
          · refine wpOp_step ho (fun K hK => ?_)
            obtain rfl := (Option.some.inj ho).symm
            have HK := Aside0.mk hK
            clear hK ho
            have t_11 := hd 11 (by kernel_rfl)
            have v11 : vs 11 = .bool true := h.a 11 t_11
            rw [if_neg (by rw [wanted_of rfl (x := 33) (by kernel_rfl) ((rfl : _ = some (vs 11)).trans (congrArg some v11))]; decide)]
            exact HK.out _ _ ⟨undef, by first | rfl | simp [upd, *], h.plain 14 _ trivial⟩
          · refine wpOp_step ho (fun K hK => ?_)
            obtain rfl := (Option.some.inj ho).symm
            have HK := Aside0.mk hK
            clear hK ho
            have t_11 := hd 11 (by kernel_rfl)
            have v11 : vs 11 = .bool true := h.a 11 t_11
            rw [if_neg (by rw [wanted_of rfl (x := 33) (by kernel_rfl) ((rfl : _ = some (vs 11)).trans (congrArg some v11))]; decide)]
            exact HK.out _ _ ⟨undef, by first | rfl | simp [upd, *], h.plain 15 _ trivial⟩
          · refine wpOp_step ho (fun K hK => ?_)
            obtain rfl := (Option.some.inj ho).symm
            have HK := Aside0.mk hK
            clear hK ho
            have t_11 := hd 11 (by kernel_rfl)
            have v11 : vs 11 = .bool true := h.a 11 t_11
            rw [if_neg (by rw [wanted_of rfl (x := 33) (by kernel_rfl) ((rfl : _ = some (vs 11)).trans (congrArg some v11))]; decide)]
            exact HK.out _ _ ⟨undef, by first | rfl | simp [upd, *], h.plain 16 _ trivial⟩
          · refine wpOp_step ho (fun K hK => ?_)
            obtain rfl := (Option.some.inj ho).symm
            have HK := Aside0.mk hK
            clear hK ho
            have t_11 := hd 11 (by kernel_rfl)
            have v11 : vs 11 = .bool true := h.a 11 t_11
            rw [if_neg (by rw [wanted_of rfl (x := 33) (by kernel_rfl) ((rfl : _ = some (vs 11)).trans (congrArg some v11))]; decide)]
            exact HK.out _ _ ⟨undef, by first | rfl | simp [upd, *], h.plain 17 _ trivial⟩
          · refine wpOp_step ho (fun K hK => ?_)
            obtain rfl := (Option.some.inj ho).symm
            have HK := Aside0.mk hK
            clear hK ho
            have t_8 := hd 8 (by kernel_rfl)
            have t_11 := hd 11 (by kernel_rfl)
            have v8 : vs 8 = .bool true := h.a 8 t_8
            have v11 : vs 11 = .bool true := h.a 11 t_11
            rw [if_pos (by rw [wanted_of rfl (x := 30) (by kernel_rfl) ((rfl : _ = some (vs 8)).trans (congrArg some v8))]; decide)]
            go_simp
            exact HK.out _ _ ⟨_, by first | rfl | simp [upd, *], h.plain 18 _ rfl⟩
          · refine wpOp_step ho (fun K hK => ?_)
            obtain rfl := (Option.some.inj ho).symm
            have HK := Aside0.mk hK
            clear hK ho
            have t_8 := hd 8 (by kernel_rfl)
            have t_18 := hd 18 (by kernel_rfl)
            have v8 : vs 8 = .bool true := h.a 8 t_8
            have v18 : vs 18 = .bool true := h.a 18 t_18
            rw [if_pos (by rfl)]
            go_simp
            exact HK.out _ _ ⟨_, by first | rfl | simp [upd, *], h.plain 19 _ rfl⟩
          · refine wpOp_step ho (fun K hK => ?_)
            obtain rfl := (Option.some.inj ho).symm
            have HK := Aside0.mk hK
            clear hK ho
            have t_19 := hd 19 (by kernel_rfl)
            have v19 : vs 19 = .bool true := h.a 19 t_19
            rw [if_pos (by rfl)]
            go_simp
            exact HK.out _ _ ⟨_, by first | rfl | simp [upd, *], h.plain 20 _ rfl⟩
        case fin =>
          intro l vs W hall h
          have v20 : vs 20 = .bool true := h.a 20 (hall 20 (by decide))
          have hbw : Below W3.heap.size W3 W := (below_drew1 (Below.refl _ W3)).trans h.b
          have HBW := Aside0.mk hbw
          clear hbw h hall
          go_step
          go_step
          go_meet
          case rel => exact ⟨v20, HBW⟩
      case rest =>
        obtain ⟨rfl, HBW⟩ := hcut
        go_wp2
        go_ret
        exact ⟨rfl, HB3.out.trans (HBW.out.mono HB3.out.size)⟩
theorem byt_of {l : List Int} (h : ∀ x ∈ l, (Lit.int .u8 x).wf = true) : Byt l := fun x hx => by
  have : 0 ≤ x ∧ x ≤ 255 := by simpa [Lit.wf, IntKind.min, IntKind.max, IntKind.bits, IntKind.signed] using h x hx
  omega
theorem codeReads_walk (a0 : Option Addr) (len0 cap0 : Nat) (z0 : List Int) (w : World) (w0 : (a0 = none ∧ len0 = 0 ∧ cap0 = 0 ∧ z0 = []) ∨ ∃ x, a0 = some x ∧ len0 ≤ cap0 ∧ cap0 ≤ maxLen ∧ z0.length = cap0 ∧ (∀ i, i < z0.length → w.cell? (x.add i) = some (.int .u8 (z0.getD i 0))) ∧ ∀ n ∈ z0, (Lit.int .u8 n).wf = true) :
    Calls Try.prog 3 #[.slice a0 len0 cap0] w fun e w' => e = .returned (.bool true) ∧ Below w.heap.size w w' := by
  obtain ⟨l0, rfl, hr0, hm0, hw0, hc0⟩ := ReadsInt.ofRowC w0
  exact reads_walk a0 cap0 l0 w (Kd.C_of_reads (d := (0 : Int)) (h1 := fun _ => rfl) hr0) hc0 (byt_of hw0)
#print axioms codeReads_walk
end Go.Proofs.Ytccolpkjgjjipaa.K
