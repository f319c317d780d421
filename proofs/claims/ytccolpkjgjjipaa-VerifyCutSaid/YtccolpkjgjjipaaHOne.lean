/- The Go function of the document's layer 17, One. -/
import Derived.Test.YtccolpkjgjjipaaHVer0
import Derived.Deep.QuietTactic
import Derived.BigQuiet
namespace Go.Proofs.Ytccolpkjgjjipaa.Q
set_option linter.unusedSimpArgs false
set_option linter.unusedVariables false
open Go.RowKit Go.Proofs.YtccolpkjgjjipaaW.PrintWords Go.Proofs.YtccolpkjgjjipaaW.PrintLast Go.Proofs.YtccolpkjgjjipaaW.PrintMore
theorem in54_any (n most : Int) (w : World) :
    Calls Try.prog 54 #[.int .i64 n, .int .i64 most] w fun e w' => e = .returned (.bool (belowB n most)) ∧ w' = w := by
  by_cases h1 : 0 ≤ n
  · by_cases h2 : n < most
    · have E := Aside0.mk (show belowB n most = true by simp [belowB, h1, h2])
      go_enter Try.func54, Try.ntmps54
      go_wp2
      go_ret
      exact ⟨by rw [E.out]; rfl, rfl⟩
    · have E := Aside0.mk (show belowB n most = false by simp [belowB, h2])
      go_enter Try.func54, Try.ntmps54
      go_wp2
      go_ret
      exact ⟨by rw [E.out]; rfl, rfl⟩
  · have E := Aside0.mk (show belowB n most = false by simp [belowB, h1])
    go_enter Try.func54, Try.ntmps54
    go_wp2
    go_ret
    exact ⟨by rw [E.out]; rfl, rfl⟩
theorem below2 (w : World) (A B : Obj) : Below w.heap.size w ((w.alloc A).alloc B) := ((Below.refl _ _).alloc (Nat.le_refl _) _).alloc (by simp) _
def oneD (n1 n2 n3 : Nat) (cross piece op d : Int) : Bool := if op ≤ 18 then belowB d 4000 else if op = 20 then (if piece = 0 then belowB d n2 else if piece = 1 then belowB d cross else if piece = 3 then belowB d n1 else d == 0) else if op = 21 then belowB d n3 else if op = 22 then belowB d n2 else d == 0
def oneA (n0 n2 n3 : Nat) (cross op a : Int) : Bool := if 6 ≤ op then belowB a 4000 else if op = 2 then belowB a n0 else if op = 3 then belowB a n2 else if op = 4 then belowB a n3 else if op = 5 then belowB a cross else a == 0
def oneBb (op b behind : Int) : Bool := if 9 ≤ op ∧ op ≤ 18 then belowB b 4000 else if op = 19 then belowB b (wrap64 (behind + 1)) else b == 0
def oneC (op c : Int) : Bool := if op = 18 then belowB c 4000 else c == 0
def oneB (n0 n1 n2 n3 : Nat) (cross piece : Int) (x : S47) (behind : Int) : Bool :=
  if x.f0 < 1 ∨ x.f0 > 22 ∨ (x.f0 ≠ 1 ∧ x.f5 ≠ 0) then false else if ((x.f0 = 5 ∨ x.f0 = 19 ∨ x.f0 = 21 ∨ x.f0 = 22) ∧ piece ≠ 2) ∨ (x.f0 = 20 ∧ piece = 2) then false
  else oneD n1 n2 n3 cross piece x.f0 x.f1 && (oneA n0 n2 n3 cross x.f0 x.f2 && (oneBb x.f0 x.f3 behind && oneC x.f0 x.f4))
set_option maxHeartbeats 4000000 in
set_option maxRecDepth 20000 in
theorem one_1 (s0 s1 s2 s3 : Option Addr) (n0 c0 n1 c1 n2 c2 n3 c3 : Nat) (cross a5 : Int) (a6 a7 a8 a9 : Value) (piece : Int) (d a b c v : Int) (behind : Int) (w : World) :
    Calls Try.prog 24 #[.agg #[.slice s0 n0 c0, .slice s1 n1 c1, .slice s2 n2 c2, .slice s3 n3 c3, .int .i64 cross, .int .i64 a5, a6, a7, a8, a9], .int .i64 piece, .agg #[.int .i64 1, .int .i64 d, .int .i64 a, .int .i64 b, .int .i64 c, .int .i64 v], .int .i64 behind] w
      fun e w' => e = .returned (.bool (belowB d 4000 && (a == 0 && (b == 0 && c == 0)))) ∧ Below w.heap.size w w' := by
  go_enter Try.func24, Try.ntmps24
  go_wp2_with fail
  go_quiet (fail)
  go_wp2_with (go_at_call 54; refine (in54_any _ _ _).mono ?_; rintro e w' ⟨rfl, rfl⟩)
  all_goals
    go_ret
    refine ⟨?_, ?_⟩
    · simp_all
    · exact pw_below_drewN (below2 w _ _) _
set_option maxHeartbeats 4000000 in
set_option maxRecDepth 20000 in
theorem one_2 (s0 s1 s2 s3 : Option Addr) (n0 c0 n1 c1 n2 c2 n3 c3 : Nat) (cross a5 : Int) (a6 a7 a8 a9 : Value) (piece : Int) (d a b c v : Int) (behind : Int) (w : World) :
    Calls Try.prog 24 #[.agg #[.slice s0 n0 c0, .slice s1 n1 c1, .slice s2 n2 c2, .slice s3 n3 c3, .int .i64 cross, .int .i64 a5, a6, a7, a8, a9], .int .i64 piece, .agg #[.int .i64 2, .int .i64 d, .int .i64 a, .int .i64 b, .int .i64 c, .int .i64 0], .int .i64 behind] w
      fun e w' => e = .returned (.bool (belowB d 4000 && (belowB a n0 && (b == 0 && c == 0)))) ∧ Below w.heap.size w w' := by
  go_enter Try.func24, Try.ntmps24
  go_wp2_with fail
  go_quiet (fail)
  go_wp2_with (go_at_call 54; refine (in54_any _ _ _).mono ?_; rintro e w' ⟨rfl, rfl⟩)
  all_goals
    go_ret
    refine ⟨?_, ?_⟩
    · simp_all
    · exact pw_below_drewN (below2 w _ _) _
set_option maxHeartbeats 4000000 in
set_option maxRecDepth 20000 in
theorem one_3 (s0 s1 s2 s3 : Option Addr) (n0 c0 n1 c1 n2 c2 n3 c3 : Nat) (cross a5 : Int) (a6 a7 a8 a9 : Value) (piece : Int) (d a b c v : Int) (behind : Int) (w : World) :
    Calls Try.prog 24 #[.agg #[.slice s0 n0 c0, .slice s1 n1 c1, .slice s2 n2 c2, .slice s3 n3 c3, .int .i64 cross, .int .i64 a5, a6, a7, a8, a9], .int .i64 piece, .agg #[.int .i64 3, .int .i64 d, .int .i64 a, .int .i64 b, .int .i64 c, .int .i64 0], .int .i64 behind] w
      fun e w' => e = .returned (.bool (belowB d 4000 && (belowB a n2 && (b == 0 && c == 0)))) ∧ Below w.heap.size w w' := by
  go_enter Try.func24, Try.ntmps24
  go_wp2_with fail
  go_quiet (fail)
  go_wp2_with (go_at_call 54; refine (in54_any _ _ _).mono ?_; rintro e w' ⟨rfl, rfl⟩)
  all_goals
    go_ret
    refine ⟨?_, ?_⟩
    · simp_all
    · exact pw_below_drewN (below2 w _ _) _
set_option maxHeartbeats 4000000 in
set_option maxRecDepth 20000 in
theorem one_4 (s0 s1 s2 s3 : Option Addr) (n0 c0 n1 c1 n2 c2 n3 c3 : Nat) (cross a5 : Int) (a6 a7 a8 a9 : Value) (piece : Int) (d a b c v : Int) (behind : Int) (w : World) :
    Calls Try.prog 24 #[.agg #[.slice s0 n0 c0, .slice s1 n1 c1, .slice s2 n2 c2, .slice s3 n3 c3, .int .i64 cross, .int .i64 a5, a6, a7, a8, a9], .int .i64 piece, .agg #[.int .i64 4, .int .i64 d, .int .i64 a, .int .i64 b, .int .i64 c, .int .i64 0], .int .i64 behind] w
      fun e w' => e = .returned (.bool (belowB d 4000 && (belowB a n3 && (b == 0 && c == 0)))) ∧ Below w.heap.size w w' := by
  go_enter Try.func24, Try.ntmps24
  go_wp2_with fail
  go_quiet (fail)
  go_wp2_with (go_at_call 54; refine (in54_any _ _ _).mono ?_; rintro e w' ⟨rfl, rfl⟩)
  all_goals
    go_ret
    refine ⟨?_, ?_⟩
    · simp_all
    · exact pw_below_drewN (below2 w _ _) _
set_option maxHeartbeats 4000000 in
set_option maxRecDepth 20000 in
theorem one_5 (s0 s1 s2 s3 : Option Addr) (n0 c0 n1 c1 n2 c2 n3 c3 : Nat) (cross a5 : Int) (a6 a7 a8 a9 : Value) (piece : Int) (d a b c v : Int) (behind : Int) (w : World) :
    Calls Try.prog 24 #[.agg #[.slice s0 n0 c0, .slice s1 n1 c1, .slice s2 n2 c2, .slice s3 n3 c3, .int .i64 cross, .int .i64 a5, a6, a7, a8, a9], .int .i64 2, .agg #[.int .i64 5, .int .i64 d, .int .i64 a, .int .i64 b, .int .i64 c, .int .i64 0], .int .i64 behind] w
      fun e w' => e = .returned (.bool (belowB d 4000 && (belowB a cross && (b == 0 && c == 0)))) ∧ Below w.heap.size w w' := by
  go_enter Try.func24, Try.ntmps24
  go_wp2_with fail
  go_quiet (fail)
  go_wp2_with (go_at_call 54; refine (in54_any _ _ _).mono ?_; rintro e w' ⟨rfl, rfl⟩)
  all_goals
    go_ret
    refine ⟨?_, ?_⟩
    · simp_all
    · exact pw_below_drewN (below2 w _ _) _
set_option maxHeartbeats 4000000 in
set_option maxRecDepth 20000 in
theorem one_6 (s0 s1 s2 s3 : Option Addr) (n0 c0 n1 c1 n2 c2 n3 c3 : Nat) (cross a5 : Int) (a6 a7 a8 a9 : Value) (piece : Int) (d a b c v : Int) (behind : Int) (w : World) :
    Calls Try.prog 24 #[.agg #[.slice s0 n0 c0, .slice s1 n1 c1, .slice s2 n2 c2, .slice s3 n3 c3, .int .i64 cross, .int .i64 a5, a6, a7, a8, a9], .int .i64 piece, .agg #[.int .i64 6, .int .i64 d, .int .i64 a, .int .i64 b, .int .i64 c, .int .i64 0], .int .i64 behind] w
      fun e w' => e = .returned (.bool (belowB d 4000 && (belowB a 4000 && (b == 0 && c == 0)))) ∧ Below w.heap.size w w' := by
  go_enter Try.func24, Try.ntmps24
  go_wp2_with fail
  go_quiet (fail)
  go_wp2_with (go_at_call 54; refine (in54_any _ _ _).mono ?_; rintro e w' ⟨rfl, rfl⟩)
  all_goals
    go_ret
    refine ⟨?_, ?_⟩
    · simp_all
    · exact pw_below_drewN (below2 w _ _) _
set_option maxHeartbeats 4000000 in
set_option maxRecDepth 20000 in
theorem one_7 (s0 s1 s2 s3 : Option Addr) (n0 c0 n1 c1 n2 c2 n3 c3 : Nat) (cross a5 : Int) (a6 a7 a8 a9 : Value) (piece : Int) (d a b c v : Int) (behind : Int) (w : World) :
    Calls Try.prog 24 #[.agg #[.slice s0 n0 c0, .slice s1 n1 c1, .slice s2 n2 c2, .slice s3 n3 c3, .int .i64 cross, .int .i64 a5, a6, a7, a8, a9], .int .i64 piece, .agg #[.int .i64 7, .int .i64 d, .int .i64 a, .int .i64 b, .int .i64 c, .int .i64 0], .int .i64 behind] w
      fun e w' => e = .returned (.bool (belowB d 4000 && (belowB a 4000 && (b == 0 && c == 0)))) ∧ Below w.heap.size w w' := by
  go_enter Try.func24, Try.ntmps24
  go_wp2_with fail
  go_quiet (fail)
  go_wp2_with (go_at_call 54; refine (in54_any _ _ _).mono ?_; rintro e w' ⟨rfl, rfl⟩)
  all_goals
    go_ret
    refine ⟨?_, ?_⟩
    · simp_all
    · exact pw_below_drewN (below2 w _ _) _
set_option maxHeartbeats 4000000 in
set_option maxRecDepth 20000 in
theorem one_8 (s0 s1 s2 s3 : Option Addr) (n0 c0 n1 c1 n2 c2 n3 c3 : Nat) (cross a5 : Int) (a6 a7 a8 a9 : Value) (piece : Int) (d a b c v : Int) (behind : Int) (w : World) :
    Calls Try.prog 24 #[.agg #[.slice s0 n0 c0, .slice s1 n1 c1, .slice s2 n2 c2, .slice s3 n3 c3, .int .i64 cross, .int .i64 a5, a6, a7, a8, a9], .int .i64 piece, .agg #[.int .i64 8, .int .i64 d, .int .i64 a, .int .i64 b, .int .i64 c, .int .i64 0], .int .i64 behind] w
      fun e w' => e = .returned (.bool (belowB d 4000 && (belowB a 4000 && (b == 0 && c == 0)))) ∧ Below w.heap.size w w' := by
  go_enter Try.func24, Try.ntmps24
  go_wp2_with fail
  go_quiet (fail)
  go_wp2_with (go_at_call 54; refine (in54_any _ _ _).mono ?_; rintro e w' ⟨rfl, rfl⟩)
  all_goals
    go_ret
    refine ⟨?_, ?_⟩
    · simp_all
    · exact pw_below_drewN (below2 w _ _) _
set_option maxHeartbeats 4000000 in
set_option maxRecDepth 20000 in
theorem one_9 (s0 s1 s2 s3 : Option Addr) (n0 c0 n1 c1 n2 c2 n3 c3 : Nat) (cross a5 : Int) (a6 a7 a8 a9 : Value) (piece : Int) (d a b c v : Int) (behind : Int) (w : World) :
    Calls Try.prog 24 #[.agg #[.slice s0 n0 c0, .slice s1 n1 c1, .slice s2 n2 c2, .slice s3 n3 c3, .int .i64 cross, .int .i64 a5, a6, a7, a8, a9], .int .i64 piece, .agg #[.int .i64 9, .int .i64 d, .int .i64 a, .int .i64 b, .int .i64 c, .int .i64 0], .int .i64 behind] w
      fun e w' => e = .returned (.bool (belowB d 4000 && (belowB a 4000 && (belowB b 4000 && c == 0)))) ∧ Below w.heap.size w w' := by
  go_enter Try.func24, Try.ntmps24
  go_wp2_with fail
  go_quiet (fail)
  go_wp2_with (go_at_call 54; refine (in54_any _ _ _).mono ?_; rintro e w' ⟨rfl, rfl⟩)
  all_goals
    go_ret
    refine ⟨?_, ?_⟩
    · simp_all
    · exact pw_below_drewN (below2 w _ _) _
set_option maxHeartbeats 4000000 in
set_option maxRecDepth 20000 in
theorem one_10 (s0 s1 s2 s3 : Option Addr) (n0 c0 n1 c1 n2 c2 n3 c3 : Nat) (cross a5 : Int) (a6 a7 a8 a9 : Value) (piece : Int) (d a b c v : Int) (behind : Int) (w : World) :
    Calls Try.prog 24 #[.agg #[.slice s0 n0 c0, .slice s1 n1 c1, .slice s2 n2 c2, .slice s3 n3 c3, .int .i64 cross, .int .i64 a5, a6, a7, a8, a9], .int .i64 piece, .agg #[.int .i64 10, .int .i64 d, .int .i64 a, .int .i64 b, .int .i64 c, .int .i64 0], .int .i64 behind] w
      fun e w' => e = .returned (.bool (belowB d 4000 && (belowB a 4000 && (belowB b 4000 && c == 0)))) ∧ Below w.heap.size w w' := by
  go_enter Try.func24, Try.ntmps24
  go_wp2_with fail
  go_quiet (fail)
  go_wp2_with (go_at_call 54; refine (in54_any _ _ _).mono ?_; rintro e w' ⟨rfl, rfl⟩)
  all_goals
    go_ret
    refine ⟨?_, ?_⟩
    · simp_all
    · exact pw_below_drewN (below2 w _ _) _
set_option maxHeartbeats 4000000 in
set_option maxRecDepth 20000 in
theorem one_11 (s0 s1 s2 s3 : Option Addr) (n0 c0 n1 c1 n2 c2 n3 c3 : Nat) (cross a5 : Int) (a6 a7 a8 a9 : Value) (piece : Int) (d a b c v : Int) (behind : Int) (w : World) :
    Calls Try.prog 24 #[.agg #[.slice s0 n0 c0, .slice s1 n1 c1, .slice s2 n2 c2, .slice s3 n3 c3, .int .i64 cross, .int .i64 a5, a6, a7, a8, a9], .int .i64 piece, .agg #[.int .i64 11, .int .i64 d, .int .i64 a, .int .i64 b, .int .i64 c, .int .i64 0], .int .i64 behind] w
      fun e w' => e = .returned (.bool (belowB d 4000 && (belowB a 4000 && (belowB b 4000 && c == 0)))) ∧ Below w.heap.size w w' := by
  go_enter Try.func24, Try.ntmps24
  go_wp2_with fail
  go_quiet (fail)
  go_wp2_with (go_at_call 54; refine (in54_any _ _ _).mono ?_; rintro e w' ⟨rfl, rfl⟩)
  all_goals
    go_ret
    refine ⟨?_, ?_⟩
    · simp_all
    · exact pw_below_drewN (below2 w _ _) _
set_option maxHeartbeats 4000000 in
set_option maxRecDepth 20000 in
theorem one_12 (s0 s1 s2 s3 : Option Addr) (n0 c0 n1 c1 n2 c2 n3 c3 : Nat) (cross a5 : Int) (a6 a7 a8 a9 : Value) (piece : Int) (d a b c v : Int) (behind : Int) (w : World) :
    Calls Try.prog 24 #[.agg #[.slice s0 n0 c0, .slice s1 n1 c1, .slice s2 n2 c2, .slice s3 n3 c3, .int .i64 cross, .int .i64 a5, a6, a7, a8, a9], .int .i64 piece, .agg #[.int .i64 12, .int .i64 d, .int .i64 a, .int .i64 b, .int .i64 c, .int .i64 0], .int .i64 behind] w
      fun e w' => e = .returned (.bool (belowB d 4000 && (belowB a 4000 && (belowB b 4000 && c == 0)))) ∧ Below w.heap.size w w' := by
  go_enter Try.func24, Try.ntmps24
  go_wp2_with fail
  go_quiet (fail)
  go_wp2_with (go_at_call 54; refine (in54_any _ _ _).mono ?_; rintro e w' ⟨rfl, rfl⟩)
  all_goals
    go_ret
    refine ⟨?_, ?_⟩
    · simp_all
    · exact pw_below_drewN (below2 w _ _) _
set_option maxHeartbeats 4000000 in
set_option maxRecDepth 20000 in
theorem one_13 (s0 s1 s2 s3 : Option Addr) (n0 c0 n1 c1 n2 c2 n3 c3 : Nat) (cross a5 : Int) (a6 a7 a8 a9 : Value) (piece : Int) (d a b c v : Int) (behind : Int) (w : World) :
    Calls Try.prog 24 #[.agg #[.slice s0 n0 c0, .slice s1 n1 c1, .slice s2 n2 c2, .slice s3 n3 c3, .int .i64 cross, .int .i64 a5, a6, a7, a8, a9], .int .i64 piece, .agg #[.int .i64 13, .int .i64 d, .int .i64 a, .int .i64 b, .int .i64 c, .int .i64 0], .int .i64 behind] w
      fun e w' => e = .returned (.bool (belowB d 4000 && (belowB a 4000 && (belowB b 4000 && c == 0)))) ∧ Below w.heap.size w w' := by
  go_enter Try.func24, Try.ntmps24
  go_wp2_with fail
  go_quiet (fail)
  go_wp2_with (go_at_call 54; refine (in54_any _ _ _).mono ?_; rintro e w' ⟨rfl, rfl⟩)
  all_goals
    go_ret
    refine ⟨?_, ?_⟩
    · simp_all
    · exact pw_below_drewN (below2 w _ _) _
set_option maxHeartbeats 4000000 in
set_option maxRecDepth 20000 in
theorem one_14 (s0 s1 s2 s3 : Option Addr) (n0 c0 n1 c1 n2 c2 n3 c3 : Nat) (cross a5 : Int) (a6 a7 a8 a9 : Value) (piece : Int) (d a b c v : Int) (behind : Int) (w : World) :
    Calls Try.prog 24 #[.agg #[.slice s0 n0 c0, .slice s1 n1 c1, .slice s2 n2 c2, .slice s3 n3 c3, .int .i64 cross, .int .i64 a5, a6, a7, a8, a9], .int .i64 piece, .agg #[.int .i64 14, .int .i64 d, .int .i64 a, .int .i64 b, .int .i64 c, .int .i64 0], .int .i64 behind] w
      fun e w' => e = .returned (.bool (belowB d 4000 && (belowB a 4000 && (belowB b 4000 && c == 0)))) ∧ Below w.heap.size w w' := by
  go_enter Try.func24, Try.ntmps24
  go_wp2_with fail
  go_quiet (fail)
  go_wp2_with (go_at_call 54; refine (in54_any _ _ _).mono ?_; rintro e w' ⟨rfl, rfl⟩)
  all_goals
    go_ret
    refine ⟨?_, ?_⟩
    · simp_all
    · exact pw_below_drewN (below2 w _ _) _
set_option maxHeartbeats 4000000 in
set_option maxRecDepth 20000 in
theorem one_15 (s0 s1 s2 s3 : Option Addr) (n0 c0 n1 c1 n2 c2 n3 c3 : Nat) (cross a5 : Int) (a6 a7 a8 a9 : Value) (piece : Int) (d a b c v : Int) (behind : Int) (w : World) :
    Calls Try.prog 24 #[.agg #[.slice s0 n0 c0, .slice s1 n1 c1, .slice s2 n2 c2, .slice s3 n3 c3, .int .i64 cross, .int .i64 a5, a6, a7, a8, a9], .int .i64 piece, .agg #[.int .i64 15, .int .i64 d, .int .i64 a, .int .i64 b, .int .i64 c, .int .i64 0], .int .i64 behind] w
      fun e w' => e = .returned (.bool (belowB d 4000 && (belowB a 4000 && (belowB b 4000 && c == 0)))) ∧ Below w.heap.size w w' := by
  go_enter Try.func24, Try.ntmps24
  go_wp2_with fail
  go_quiet (fail)
  go_wp2_with (go_at_call 54; refine (in54_any _ _ _).mono ?_; rintro e w' ⟨rfl, rfl⟩)
  all_goals
    go_ret
    refine ⟨?_, ?_⟩
    · simp_all
    · exact pw_below_drewN (below2 w _ _) _
set_option maxHeartbeats 4000000 in
set_option maxRecDepth 20000 in
theorem one_16 (s0 s1 s2 s3 : Option Addr) (n0 c0 n1 c1 n2 c2 n3 c3 : Nat) (cross a5 : Int) (a6 a7 a8 a9 : Value) (piece : Int) (d a b c v : Int) (behind : Int) (w : World) :
    Calls Try.prog 24 #[.agg #[.slice s0 n0 c0, .slice s1 n1 c1, .slice s2 n2 c2, .slice s3 n3 c3, .int .i64 cross, .int .i64 a5, a6, a7, a8, a9], .int .i64 piece, .agg #[.int .i64 16, .int .i64 d, .int .i64 a, .int .i64 b, .int .i64 c, .int .i64 0], .int .i64 behind] w
      fun e w' => e = .returned (.bool (belowB d 4000 && (belowB a 4000 && (belowB b 4000 && c == 0)))) ∧ Below w.heap.size w w' := by
  go_enter Try.func24, Try.ntmps24
  go_wp2_with fail
  go_quiet (fail)
  go_wp2_with (go_at_call 54; refine (in54_any _ _ _).mono ?_; rintro e w' ⟨rfl, rfl⟩)
  all_goals
    go_ret
    refine ⟨?_, ?_⟩
    · simp_all
    · exact pw_below_drewN (below2 w _ _) _
set_option maxHeartbeats 4000000 in
set_option maxRecDepth 20000 in
theorem one_17 (s0 s1 s2 s3 : Option Addr) (n0 c0 n1 c1 n2 c2 n3 c3 : Nat) (cross a5 : Int) (a6 a7 a8 a9 : Value) (piece : Int) (d a b c v : Int) (behind : Int) (w : World) :
    Calls Try.prog 24 #[.agg #[.slice s0 n0 c0, .slice s1 n1 c1, .slice s2 n2 c2, .slice s3 n3 c3, .int .i64 cross, .int .i64 a5, a6, a7, a8, a9], .int .i64 piece, .agg #[.int .i64 17, .int .i64 d, .int .i64 a, .int .i64 b, .int .i64 c, .int .i64 0], .int .i64 behind] w
      fun e w' => e = .returned (.bool (belowB d 4000 && (belowB a 4000 && (belowB b 4000 && c == 0)))) ∧ Below w.heap.size w w' := by
  go_enter Try.func24, Try.ntmps24
  go_wp2_with fail
  go_quiet (fail)
  go_wp2_with (go_at_call 54; refine (in54_any _ _ _).mono ?_; rintro e w' ⟨rfl, rfl⟩)
  all_goals
    go_ret
    refine ⟨?_, ?_⟩
    · simp_all
    · exact pw_below_drewN (below2 w _ _) _
set_option maxHeartbeats 4000000 in
set_option maxRecDepth 20000 in
theorem one_18 (s0 s1 s2 s3 : Option Addr) (n0 c0 n1 c1 n2 c2 n3 c3 : Nat) (cross a5 : Int) (a6 a7 a8 a9 : Value) (piece : Int) (d a b c v : Int) (behind : Int) (w : World) :
    Calls Try.prog 24 #[.agg #[.slice s0 n0 c0, .slice s1 n1 c1, .slice s2 n2 c2, .slice s3 n3 c3, .int .i64 cross, .int .i64 a5, a6, a7, a8, a9], .int .i64 piece, .agg #[.int .i64 18, .int .i64 d, .int .i64 a, .int .i64 b, .int .i64 c, .int .i64 0], .int .i64 behind] w
      fun e w' => e = .returned (.bool (belowB d 4000 && (belowB a 4000 && (belowB b 4000 && belowB c 4000)))) ∧ Below w.heap.size w w' := by
  go_enter Try.func24, Try.ntmps24
  go_wp2_with fail
  go_quiet (fail)
  go_wp2_with (go_at_call 54; refine (in54_any _ _ _).mono ?_; rintro e w' ⟨rfl, rfl⟩)
  all_goals
    go_ret
    refine ⟨?_, ?_⟩
    · simp_all
    · exact pw_below_drewN (below2 w _ _) _
set_option maxHeartbeats 4000000 in
set_option maxRecDepth 20000 in
theorem one_19 (s0 s1 s2 s3 : Option Addr) (n0 c0 n1 c1 n2 c2 n3 c3 : Nat) (cross a5 : Int) (a6 a7 a8 a9 : Value) (piece : Int) (d a b c v : Int) (behind : Int) (w : World) :
    Calls Try.prog 24 #[.agg #[.slice s0 n0 c0, .slice s1 n1 c1, .slice s2 n2 c2, .slice s3 n3 c3, .int .i64 cross, .int .i64 a5, a6, a7, a8, a9], .int .i64 2, .agg #[.int .i64 19, .int .i64 d, .int .i64 a, .int .i64 b, .int .i64 c, .int .i64 0], .int .i64 behind] w
      fun e w' => e = .returned (.bool (d == 0 && (belowB a 4000 && (belowB b (wrap64 (behind + 1)) && c == 0)))) ∧ Below w.heap.size w w' := by
  go_enter Try.func24, Try.ntmps24
  go_wp2_with fail
  go_quiet (fail)
  go_wp2_with (go_at_call 54; refine (in54_any _ _ _).mono ?_; rintro e w' ⟨rfl, rfl⟩)
  all_goals
    go_ret
    refine ⟨?_, ?_⟩
    · simp_all
    · exact pw_below_drewN (below2 w _ _) _
set_option maxHeartbeats 4000000 in
set_option maxRecDepth 20000 in
theorem one_20_0 (s0 s1 s2 s3 : Option Addr) (n0 c0 n1 c1 n2 c2 n3 c3 : Nat) (cross a5 : Int) (a6 a7 a8 a9 : Value) (piece : Int) (d a b c v : Int) (behind : Int) (w : World) :
    Calls Try.prog 24 #[.agg #[.slice s0 n0 c0, .slice s1 n1 c1, .slice s2 n2 c2, .slice s3 n3 c3, .int .i64 cross, .int .i64 a5, a6, a7, a8, a9], .int .i64 0, .agg #[.int .i64 20, .int .i64 d, .int .i64 a, .int .i64 b, .int .i64 c, .int .i64 0], .int .i64 behind] w
      fun e w' => e = .returned (.bool (belowB d n2 && (belowB a 4000 && (b == 0 && c == 0)))) ∧ Below w.heap.size w w' := by
  go_enter Try.func24, Try.ntmps24
  go_wp2_with fail
  go_quiet (fail)
  go_wp2_with (go_at_call 54; refine (in54_any _ _ _).mono ?_; rintro e w' ⟨rfl, rfl⟩)
  all_goals
    go_ret
    refine ⟨?_, ?_⟩
    · simp_all
    · exact pw_below_drewN (below2 w _ _) _
set_option maxHeartbeats 4000000 in
set_option maxRecDepth 20000 in
theorem one_20_1 (s0 s1 s2 s3 : Option Addr) (n0 c0 n1 c1 n2 c2 n3 c3 : Nat) (cross a5 : Int) (a6 a7 a8 a9 : Value) (piece : Int) (d a b c v : Int) (behind : Int) (w : World) :
    Calls Try.prog 24 #[.agg #[.slice s0 n0 c0, .slice s1 n1 c1, .slice s2 n2 c2, .slice s3 n3 c3, .int .i64 cross, .int .i64 a5, a6, a7, a8, a9], .int .i64 1, .agg #[.int .i64 20, .int .i64 d, .int .i64 a, .int .i64 b, .int .i64 c, .int .i64 0], .int .i64 behind] w
      fun e w' => e = .returned (.bool (belowB d cross && (belowB a 4000 && (b == 0 && c == 0)))) ∧ Below w.heap.size w w' := by
  go_enter Try.func24, Try.ntmps24
  go_wp2_with fail
  go_quiet (fail)
  go_wp2_with (go_at_call 54; refine (in54_any _ _ _).mono ?_; rintro e w' ⟨rfl, rfl⟩)
  all_goals
    go_ret
    refine ⟨?_, ?_⟩
    · simp_all
    · exact pw_below_drewN (below2 w _ _) _
set_option maxHeartbeats 4000000 in
set_option maxRecDepth 20000 in
theorem one_20_3 (s0 s1 s2 s3 : Option Addr) (n0 c0 n1 c1 n2 c2 n3 c3 : Nat) (cross a5 : Int) (a6 a7 a8 a9 : Value) (piece : Int) (d a b c v : Int) (behind : Int) (w : World) :
    Calls Try.prog 24 #[.agg #[.slice s0 n0 c0, .slice s1 n1 c1, .slice s2 n2 c2, .slice s3 n3 c3, .int .i64 cross, .int .i64 a5, a6, a7, a8, a9], .int .i64 3, .agg #[.int .i64 20, .int .i64 d, .int .i64 a, .int .i64 b, .int .i64 c, .int .i64 0], .int .i64 behind] w
      fun e w' => e = .returned (.bool (belowB d n1 && (belowB a 4000 && (b == 0 && c == 0)))) ∧ Below w.heap.size w w' := by
  go_enter Try.func24, Try.ntmps24
  go_wp2_with fail
  go_quiet (fail)
  go_wp2_with (go_at_call 54; refine (in54_any _ _ _).mono ?_; rintro e w' ⟨rfl, rfl⟩)
  all_goals
    go_ret
    refine ⟨?_, ?_⟩
    · simp_all
    · exact pw_below_drewN (below2 w _ _) _
set_option maxHeartbeats 4000000 in
set_option maxRecDepth 20000 in
theorem one_20_x (s0 s1 s2 s3 : Option Addr) (n0 c0 n1 c1 n2 c2 n3 c3 : Nat) (cross a5 : Int) (a6 a7 a8 a9 : Value) (piece : Int) (d a b c v : Int) (behind : Int) (w : World) (h0 : ¬ piece = 0) (h1 : ¬ piece = 1) (h2 : ¬ piece = 2) (h3 : ¬ piece = 3) :
    Calls Try.prog 24 #[.agg #[.slice s0 n0 c0, .slice s1 n1 c1, .slice s2 n2 c2, .slice s3 n3 c3, .int .i64 cross, .int .i64 a5, a6, a7, a8, a9], .int .i64 piece, .agg #[.int .i64 20, .int .i64 d, .int .i64 a, .int .i64 b, .int .i64 c, .int .i64 0], .int .i64 behind] w
      fun e w' => e = .returned (.bool (d == 0 && (belowB a 4000 && (b == 0 && c == 0)))) ∧ Below w.heap.size w w' := by
  go_enter Try.func24, Try.ntmps24
  go_wp2_with fail
  go_quiet (fail)
  go_wp2_with (go_at_call 54; refine (in54_any _ _ _).mono ?_; rintro e w' ⟨rfl, rfl⟩)
  all_goals
    go_ret
    refine ⟨?_, ?_⟩
    · simp_all
    · exact pw_below_drewN (below2 w _ _) _
set_option maxHeartbeats 4000000 in
set_option maxRecDepth 20000 in
theorem one_21 (s0 s1 s2 s3 : Option Addr) (n0 c0 n1 c1 n2 c2 n3 c3 : Nat) (cross a5 : Int) (a6 a7 a8 a9 : Value) (piece : Int) (d a b c v : Int) (behind : Int) (w : World) :
    Calls Try.prog 24 #[.agg #[.slice s0 n0 c0, .slice s1 n1 c1, .slice s2 n2 c2, .slice s3 n3 c3, .int .i64 cross, .int .i64 a5, a6, a7, a8, a9], .int .i64 2, .agg #[.int .i64 21, .int .i64 d, .int .i64 a, .int .i64 b, .int .i64 c, .int .i64 0], .int .i64 behind] w
      fun e w' => e = .returned (.bool (belowB d n3 && (belowB a 4000 && (b == 0 && c == 0)))) ∧ Below w.heap.size w w' := by
  go_enter Try.func24, Try.ntmps24
  go_wp2_with fail
  go_quiet (fail)
  go_wp2_with (go_at_call 54; refine (in54_any _ _ _).mono ?_; rintro e w' ⟨rfl, rfl⟩)
  all_goals
    go_ret
    refine ⟨?_, ?_⟩
    · simp_all
    · exact pw_below_drewN (below2 w _ _) _
set_option maxHeartbeats 4000000 in
set_option maxRecDepth 20000 in
theorem one_22 (s0 s1 s2 s3 : Option Addr) (n0 c0 n1 c1 n2 c2 n3 c3 : Nat) (cross a5 : Int) (a6 a7 a8 a9 : Value) (piece : Int) (d a b c v : Int) (behind : Int) (w : World) :
    Calls Try.prog 24 #[.agg #[.slice s0 n0 c0, .slice s1 n1 c1, .slice s2 n2 c2, .slice s3 n3 c3, .int .i64 cross, .int .i64 a5, a6, a7, a8, a9], .int .i64 2, .agg #[.int .i64 22, .int .i64 d, .int .i64 a, .int .i64 b, .int .i64 c, .int .i64 0], .int .i64 behind] w
      fun e w' => e = .returned (.bool (belowB d n2 && (belowB a 4000 && (b == 0 && c == 0)))) ∧ Below w.heap.size w w' := by
  go_enter Try.func24, Try.ntmps24
  go_wp2_with fail
  go_quiet (fail)
  go_wp2_with (go_at_call 54; refine (in54_any _ _ _).mono ?_; rintro e w' ⟨rfl, rfl⟩)
  all_goals
    go_ret
    refine ⟨?_, ?_⟩
    · simp_all
    · exact pw_below_drewN (below2 w _ _) _
end Go.Proofs.Ytccolpkjgjjipaa.Q
