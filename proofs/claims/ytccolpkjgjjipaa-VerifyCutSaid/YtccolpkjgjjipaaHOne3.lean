/- The Go function of the document's layer 17, One. -/
import Derived.Test.YtccolpkjgjjipaaHOne2
namespace Go.Proofs.Ytccolpkjgjjipaa.Q
set_option linter.unusedSimpArgs false
set_option linter.unusedVariables false
open Go.RowKit Go.Proofs.YtccolpkjgjjipaaW.PrintWords Go.Proofs.YtccolpkjgjjipaaW.PrintLast Go.Proofs.YtccolpkjgjjipaaW.PrintMore
set_option maxHeartbeats 4000000 in
theorem one_any (s0 s1 s2 s3 : Option Addr) (n0 c0 n1 c1 n2 c2 n3 c3 : Nat) (cross a5 : Int) (a6 a7 a8 a9 : Value) (piece : Int) (op d a b c v : Int) (behind : Int) (w : World) :
    Calls Try.prog 24 #[.agg #[.slice s0 n0 c0, .slice s1 n1 c1, .slice s2 n2 c2, .slice s3 n3 c3, .int .i64 cross, .int .i64 a5, a6, a7, a8, a9], .int .i64 piece, .agg #[.int .i64 op, .int .i64 d, .int .i64 a, .int .i64 b, .int .i64 c, .int .i64 v], .int .i64 behind] w
      fun e w' => e = .returned (.bool (oneB n0 n1 n2 n3 cross piece ⟨op, d, a, b, c, v⟩ behind)) ∧ Below w.heap.size w w' := by
  by_cases hlo : op < 1
  · refine (one_lo s0 s1 s2 s3 n0 c0 n1 c1 n2 c2 n3 c3 cross a5 a6 a7 a8 a9 piece op d a b c v behind w hlo).mono ?_
    rintro e w' ⟨rfl, hB⟩
    exact ⟨by simp [oneB, hlo], hB⟩
  by_cases hhi : op > 22
  · refine (one_hi s0 s1 s2 s3 n0 c0 n1 c1 n2 c2 n3 c3 cross a5 a6 a7 a8 a9 piece op d a b c v behind w hhi).mono ?_
    rintro e w' ⟨rfl, hB⟩
    exact ⟨by simp [oneB, hhi], hB⟩
  by_cases h1 : op = 1
  · subst h1
    refine (one_1 s0 s1 s2 s3 n0 c0 n1 c1 n2 c2 n3 c3 cross a5 a6 a7 a8 a9 piece d a b c v behind w).mono ?_
    rintro e w' ⟨rfl, hB⟩
    exact ⟨by simp [oneB, oneD, oneA, oneBb, oneC], hB⟩
  by_cases hv : v = 0
  case neg =>
    refine (one_val s0 s1 s2 s3 n0 c0 n1 c1 n2 c2 n3 c3 cross a5 a6 a7 a8 a9 piece op d a b c v behind w hlo hhi h1 hv).mono ?_
    rintro e w' ⟨rfl, hB⟩
    exact ⟨by simp [oneB, h1, hv], hB⟩
  subst hv
  rcases (by omega : op = 2 ∨ op = 3 ∨ op = 4 ∨ op = 5 ∨ op = 6 ∨ op = 7 ∨ op = 8 ∨ op = 9 ∨ op = 10 ∨ op = 11 ∨ op = 12 ∨ op = 13 ∨ op = 14 ∨ op = 15 ∨ op = 16 ∨ op = 17 ∨ op = 18 ∨ op = 19 ∨ op = 20 ∨ op = 21 ∨ op = 22) with rfl | rfl | rfl | rfl | rfl | rfl | rfl | rfl | rfl | rfl | rfl | rfl | rfl | rfl | rfl | rfl | rfl | rfl | rfl | rfl | rfl
  · refine (one_2 s0 s1 s2 s3 n0 c0 n1 c1 n2 c2 n3 c3 cross a5 a6 a7 a8 a9 piece d a b c 0 behind w).mono ?_
    rintro e w' ⟨rfl, hB⟩
    exact ⟨by simp [oneB, oneD, oneA, oneBb, oneC], hB⟩
  · refine (one_3 s0 s1 s2 s3 n0 c0 n1 c1 n2 c2 n3 c3 cross a5 a6 a7 a8 a9 piece d a b c 0 behind w).mono ?_
    rintro e w' ⟨rfl, hB⟩
    exact ⟨by simp [oneB, oneD, oneA, oneBb, oneC], hB⟩
  · refine (one_4 s0 s1 s2 s3 n0 c0 n1 c1 n2 c2 n3 c3 cross a5 a6 a7 a8 a9 piece d a b c 0 behind w).mono ?_
    rintro e w' ⟨rfl, hB⟩
    exact ⟨by simp [oneB, oneD, oneA, oneBb, oneC], hB⟩
  · by_cases hp : piece = 2
    · subst hp
      refine (one_5 s0 s1 s2 s3 n0 c0 n1 c1 n2 c2 n3 c3 cross a5 a6 a7 a8 a9 2 d a b c 0 behind w).mono ?_
      rintro e w' ⟨rfl, hB⟩
      exact ⟨by simp [oneB, oneD, oneA, oneBb, oneC], hB⟩
    · refine (one_p5 s0 s1 s2 s3 n0 c0 n1 c1 n2 c2 n3 c3 cross a5 a6 a7 a8 a9 piece d a b c behind w hp).mono ?_
      rintro e w' ⟨rfl, hB⟩
      exact ⟨by simp [oneB, oneD, oneA, oneBb, oneC, hp], hB⟩
  · refine (one_6 s0 s1 s2 s3 n0 c0 n1 c1 n2 c2 n3 c3 cross a5 a6 a7 a8 a9 piece d a b c 0 behind w).mono ?_
    rintro e w' ⟨rfl, hB⟩
    exact ⟨by simp [oneB, oneD, oneA, oneBb, oneC], hB⟩
  · refine (one_7 s0 s1 s2 s3 n0 c0 n1 c1 n2 c2 n3 c3 cross a5 a6 a7 a8 a9 piece d a b c 0 behind w).mono ?_
    rintro e w' ⟨rfl, hB⟩
    exact ⟨by simp [oneB, oneD, oneA, oneBb, oneC], hB⟩
  · refine (one_8 s0 s1 s2 s3 n0 c0 n1 c1 n2 c2 n3 c3 cross a5 a6 a7 a8 a9 piece d a b c 0 behind w).mono ?_
    rintro e w' ⟨rfl, hB⟩
    exact ⟨by simp [oneB, oneD, oneA, oneBb, oneC], hB⟩
  · refine (one_9 s0 s1 s2 s3 n0 c0 n1 c1 n2 c2 n3 c3 cross a5 a6 a7 a8 a9 piece d a b c 0 behind w).mono ?_
    rintro e w' ⟨rfl, hB⟩
    exact ⟨by simp [oneB, oneD, oneA, oneBb, oneC], hB⟩
  · refine (one_10 s0 s1 s2 s3 n0 c0 n1 c1 n2 c2 n3 c3 cross a5 a6 a7 a8 a9 piece d a b c 0 behind w).mono ?_
    rintro e w' ⟨rfl, hB⟩
    exact ⟨by simp [oneB, oneD, oneA, oneBb, oneC], hB⟩
  · refine (one_11 s0 s1 s2 s3 n0 c0 n1 c1 n2 c2 n3 c3 cross a5 a6 a7 a8 a9 piece d a b c 0 behind w).mono ?_
    rintro e w' ⟨rfl, hB⟩
    exact ⟨by simp [oneB, oneD, oneA, oneBb, oneC], hB⟩
  · refine (one_12 s0 s1 s2 s3 n0 c0 n1 c1 n2 c2 n3 c3 cross a5 a6 a7 a8 a9 piece d a b c 0 behind w).mono ?_
    rintro e w' ⟨rfl, hB⟩
    exact ⟨by simp [oneB, oneD, oneA, oneBb, oneC], hB⟩
  · refine (one_13 s0 s1 s2 s3 n0 c0 n1 c1 n2 c2 n3 c3 cross a5 a6 a7 a8 a9 piece d a b c 0 behind w).mono ?_
    rintro e w' ⟨rfl, hB⟩
    exact ⟨by simp [oneB, oneD, oneA, oneBb, oneC], hB⟩
  · refine (one_14 s0 s1 s2 s3 n0 c0 n1 c1 n2 c2 n3 c3 cross a5 a6 a7 a8 a9 piece d a b c 0 behind w).mono ?_
    rintro e w' ⟨rfl, hB⟩
    exact ⟨by simp [oneB, oneD, oneA, oneBb, oneC], hB⟩
  · refine (one_15 s0 s1 s2 s3 n0 c0 n1 c1 n2 c2 n3 c3 cross a5 a6 a7 a8 a9 piece d a b c 0 behind w).mono ?_
    rintro e w' ⟨rfl, hB⟩
    exact ⟨by simp [oneB, oneD, oneA, oneBb, oneC], hB⟩
  · refine (one_16 s0 s1 s2 s3 n0 c0 n1 c1 n2 c2 n3 c3 cross a5 a6 a7 a8 a9 piece d a b c 0 behind w).mono ?_
    rintro e w' ⟨rfl, hB⟩
    exact ⟨by simp [oneB, oneD, oneA, oneBb, oneC], hB⟩
  · refine (one_17 s0 s1 s2 s3 n0 c0 n1 c1 n2 c2 n3 c3 cross a5 a6 a7 a8 a9 piece d a b c 0 behind w).mono ?_
    rintro e w' ⟨rfl, hB⟩
    exact ⟨by simp [oneB, oneD, oneA, oneBb, oneC], hB⟩
  · refine (one_18 s0 s1 s2 s3 n0 c0 n1 c1 n2 c2 n3 c3 cross a5 a6 a7 a8 a9 piece d a b c 0 behind w).mono ?_
    rintro e w' ⟨rfl, hB⟩
    exact ⟨by simp [oneB, oneD, oneA, oneBb, oneC], hB⟩
  · by_cases hp : piece = 2
    · subst hp
      refine (one_19 s0 s1 s2 s3 n0 c0 n1 c1 n2 c2 n3 c3 cross a5 a6 a7 a8 a9 2 d a b c 0 behind w).mono ?_
      rintro e w' ⟨rfl, hB⟩
      exact ⟨by simp [oneB, oneD, oneA, oneBb, oneC], hB⟩
    · refine (one_p19 s0 s1 s2 s3 n0 c0 n1 c1 n2 c2 n3 c3 cross a5 a6 a7 a8 a9 piece d a b c behind w hp).mono ?_
      rintro e w' ⟨rfl, hB⟩
      exact ⟨by simp [oneB, oneD, oneA, oneBb, oneC, hp], hB⟩
  · by_cases hp : piece = 2
    · subst hp
      refine (one_p20 s0 s1 s2 s3 n0 c0 n1 c1 n2 c2 n3 c3 cross a5 a6 a7 a8 a9 2 d a b c behind w).mono ?_
      rintro e w' ⟨rfl, hB⟩
      exact ⟨by simp [oneB, oneD, oneA, oneBb, oneC], hB⟩
    by_cases hp0 : piece = 0
    · subst hp0
      refine (one_20_0 s0 s1 s2 s3 n0 c0 n1 c1 n2 c2 n3 c3 cross a5 a6 a7 a8 a9 0 d a b c 0 behind w).mono ?_
      rintro e w' ⟨rfl, hB⟩
      exact ⟨by simp [oneB, oneD, oneA, oneBb, oneC], hB⟩
    by_cases hp1 : piece = 1
    · subst hp1
      refine (one_20_1 s0 s1 s2 s3 n0 c0 n1 c1 n2 c2 n3 c3 cross a5 a6 a7 a8 a9 1 d a b c 0 behind w).mono ?_
      rintro e w' ⟨rfl, hB⟩
      exact ⟨by simp [oneB, oneD, oneA, oneBb, oneC], hB⟩
    by_cases hp3 : piece = 3
    · subst hp3
      refine (one_20_3 s0 s1 s2 s3 n0 c0 n1 c1 n2 c2 n3 c3 cross a5 a6 a7 a8 a9 3 d a b c 0 behind w).mono ?_
      rintro e w' ⟨rfl, hB⟩
      exact ⟨by simp [oneB, oneD, oneA, oneBb, oneC], hB⟩
    refine (one_20_x s0 s1 s2 s3 n0 c0 n1 c1 n2 c2 n3 c3 cross a5 a6 a7 a8 a9 piece d a b c 0 behind w hp0 hp1 hp hp3).mono ?_
    rintro e w' ⟨rfl, hB⟩
    exact ⟨by simp [oneB, oneD, oneA, oneBb, oneC, hp, hp0, hp1, hp3], hB⟩
  · by_cases hp : piece = 2
    · subst hp
      refine (one_21 s0 s1 s2 s3 n0 c0 n1 c1 n2 c2 n3 c3 cross a5 a6 a7 a8 a9 2 d a b c 0 behind w).mono ?_
      rintro e w' ⟨rfl, hB⟩
      exact ⟨by simp [oneB, oneD, oneA, oneBb, oneC], hB⟩
    · refine (one_p21 s0 s1 s2 s3 n0 c0 n1 c1 n2 c2 n3 c3 cross a5 a6 a7 a8 a9 piece d a b c behind w hp).mono ?_
      rintro e w' ⟨rfl, hB⟩
      exact ⟨by simp [oneB, oneD, oneA, oneBb, oneC, hp], hB⟩
  · by_cases hp : piece = 2
    · subst hp
      refine (one_22 s0 s1 s2 s3 n0 c0 n1 c1 n2 c2 n3 c3 cross a5 a6 a7 a8 a9 2 d a b c 0 behind w).mono ?_
      rintro e w' ⟨rfl, hB⟩
      exact ⟨by simp [oneB, oneD, oneA, oneBb, oneC], hB⟩
    · refine (one_p22 s0 s1 s2 s3 n0 c0 n1 c1 n2 c2 n3 c3 cross a5 a6 a7 a8 a9 piece d a b c behind w hp).mono ?_
      rintro e w' ⟨rfl, hB⟩
      exact ⟨by simp [oneB, oneD, oneA, oneBb, oneC, hp], hB⟩
end Go.Proofs.Ytccolpkjgjjipaa.Q
