/- The small Go functions of verify: below, here, Right$1, right$1, pieces. -/
import Derived.Test.YtccolpkjgjjipaaHRegs
namespace Go.Proofs.Ytccolpkjgjjipaa.Q
open Go.RowKit Go.Proofs.YtccolpkjgjjipaaW.PrintWords Go.Proofs.YtccolpkjgjjipaaW.PrintLast Go.Proofs.YtccolpkjgjjipaaW.PrintMore

def belowB (n most : Int) : Bool := decide (0 ≤ n) && decide (n < most)
theorem below_any (n most : Int) (w : World) :
    Calls Try.prog 50 #[.int .i64 n, .int .i64 most] w fun e w' => e = .returned (.bool (belowB n most)) ∧ w' = w := by
  by_cases h1 : 0 ≤ n
  · by_cases h2 : n < most
    · have E := Aside0.mk (show belowB n most = true by simp [belowB, h1, h2])
      go_enter Try.func50, Try.ntmps50
      go_wp2
      go_ret
      exact ⟨by rw [E.out]; rfl, rfl⟩
    · have E := Aside0.mk (show belowB n most = false by simp [belowB, h2])
      go_enter Try.func50, Try.ntmps50
      go_wp2
      go_ret
      exact ⟨by rw [E.out]; rfl, rfl⟩
  · have E := Aside0.mk (show belowB n most = false by simp [belowB, h1])
    go_enter Try.func50, Try.ntmps50
    go_wp2
    go_ret
    exact ⟨by rw [E.out]; rfl, rfl⟩

/-- No type of what comes in or goes out. -/
def kindB (t : Int) : Bool := t != 1 && t != 2
theorem kind_any (t : Int) (w : World) :
    Calls Try.prog 48 #[.int .i64 t] w fun e w' => e = .returned (.bool (kindB t)) ∧ w' = w := by
  by_cases h1 : t = 1
  · subst h1
    go_enter Try.func48, Try.ntmps48
    go_wp2
    go_ret
    exact ⟨rfl, rfl⟩
  · go_enter Try.func48, Try.ntmps48
    go_wp2
    go_ret
    exact ⟨rfl, rfl⟩

/-- A field of an instruction. -/
def fieldB (n : Int) (reg : Bool) (many : Int) : Bool := if reg = true then belowB n 4000 else if 0 ≤ many then belowB n many else n == 0
theorem field_any (n : Int) (reg : Bool) (many : Int) (w : World) :
    Calls Try.prog 74 #[.int .i64 n, .bool reg, .int .i64 many] w fun e w' => e = .returned (.bool (fieldB n reg many)) ∧ w' = w := by
  cases reg with
  | true =>
    have E := Aside0.mk (show fieldB n true many = belowB n 4000 by simp [fieldB])
    go_enter Try.func74, Try.ntmps74
    go_wp2_with fail
    refine (below_any n 4000 _).mono ?_
    rintro e w' ⟨rfl, rfl⟩
    go_wp2
    go_ret
    exact ⟨by rw [E.out]; rfl, rfl⟩
  | false =>
    by_cases h : 0 ≤ many
    · have E := Aside0.mk (show fieldB n false many = belowB n many by simp [fieldB, h])
      go_enter Try.func74, Try.ntmps74
      go_wp2_with fail
      refine (below_any n many _).mono ?_
      rintro e w' ⟨rfl, rfl⟩
      go_wp2
      go_ret
      exact ⟨by rw [E.out]; rfl, rfl⟩
    · have E := Aside0.mk (show fieldB n false many = (n == 0) by simp [fieldB, h])
      go_enter Try.func74, Try.ntmps74
      go_wp2
      go_ret
      exact ⟨by rw [E.out]; rfl, rfl⟩

def hereB (piece op : Int) : Bool := if op = 5 ∨ op = 19 ∨ op = 21 ∨ op = 22 then piece == 2 else if op = 20 then piece != 2 else decide (1 ≤ op) && decide (op ≤ 22)
theorem here_any (piece op : Int) (w : World) :
    Calls Try.prog 72 #[.int .i64 piece, .int .i64 op] w fun e w' => e = .returned (.bool (hereB piece op)) ∧ w' = w := by
  by_cases h5 : op = 5
  · subst h5
    have E := Aside0.mk (show hereB piece 5 = (piece == 2) by simp [hereB])
    go_enter Try.func72, Try.ntmps72
    go_wp2
    go_ret
    exact ⟨by rw [E.out]; rfl, rfl⟩
  by_cases h19 : op = 19
  · subst h19
    have E := Aside0.mk (show hereB piece 19 = (piece == 2) by simp [hereB])
    go_enter Try.func72, Try.ntmps72
    go_wp2
    go_ret
    exact ⟨by rw [E.out]; rfl, rfl⟩
  by_cases h21 : op = 21
  · subst h21
    have E := Aside0.mk (show hereB piece 21 = (piece == 2) by simp [hereB])
    go_enter Try.func72, Try.ntmps72
    go_wp2
    go_ret
    exact ⟨by rw [E.out]; rfl, rfl⟩
  by_cases h22 : op = 22
  · subst h22
    have E := Aside0.mk (show hereB piece 22 = (piece == 2) by simp [hereB])
    go_enter Try.func72, Try.ntmps72
    go_wp2
    go_ret
    exact ⟨by rw [E.out]; rfl, rfl⟩
  by_cases h20 : op = 20
  · subst h20
    have E := Aside0.mk (show hereB piece 20 = (piece != 2) by simp [hereB])
    go_enter Try.func72, Try.ntmps72
    go_wp2
    go_ret
    exact ⟨by rw [E.out]; rfl, rfl⟩
  have E0 := Aside0.mk (show hereB piece op = (decide (1 ≤ op) && decide (op ≤ 22)) by simp [hereB, h5, h19, h20, h21, h22])
  by_cases h1 : 1 ≤ op
  · by_cases h2 : op ≤ 22
    · have E := Aside0.mk (show hereB piece op = true by rw [E0.out]; simp [h1, h2])
      clear E0
      go_enter Try.func72, Try.ntmps72
      go_wp2
      go_ret
      exact ⟨by rw [E.out]; rfl, rfl⟩
    · have E := Aside0.mk (show hereB piece op = false by rw [E0.out]; simp [h2])
      clear E0
      go_enter Try.func72, Try.ntmps72
      go_wp2
      go_ret
      exact ⟨by rw [E.out]; rfl, rfl⟩
  · have E := Aside0.mk (show hereB piece op = false by rw [E0.out]; simp [h1])
    clear E0
    go_enter Try.func72, Try.ntmps72
    go_wp2
    go_ret
    exact ⟨by rw [E.out]; rfl, rfl⟩

/-- pieces: an array of the four. -/
theorem pieces_any (a0 a1 a2 a3 a4 a5 : Value) (s6 s7 s8 s9 : Option Addr) (n6 c6 n7 c7 n8 c8 n9 c9 : Nat) (w : World) :
    Calls Try.prog 51 #[.agg #[a0, a1, a2, a3, a4, a5, .slice s6 n6 c6, .slice s7 n7 c7, .slice s8 n8 c8, .slice s9 n9 c9]] w fun e w' => e = .returned (.agg #[.slice s6 n6 c6, .slice s7 n7 c7, .slice s8 n8 c8, .slice s9 n9 c9]) ∧ Below w.heap.size w w' := by
  go_enter Try.func51, Try.ntmps51
  go_wp2
  have hb : ((w.alloc (Obj.cells #[a0, a1, a2, a3, a4, a5, .slice s6 n6 c6, .slice s7 n7 c7, .slice s8 n8 c8, .slice s9 n9 c9] 28)).alloc (Obj.cells #[.slice s6 n6 c6, .slice s7 n7 c7, .slice s8 n8 c8, .slice s9 n9 c9] 80)).heap[w.heap.size + 1]? = some (.cells #[.slice s6 n6 c6, .slice s7 n7 c7, .slice s8 n8 c8, .slice s9 n9 c9] 80 (0, 0)) := by
    have := blk_fresh (w.alloc (Obj.cells #[a0, a1, a2, a3, a4, a5, .slice s6 n6 c6, .slice s7 n7 c7, .slice s8 n8 c8, .slice s9 n9 c9] 28)) (Obj.cells #[.slice s6 n6 c6, .slice s7 n7 c7, .slice s8 n8 c8, .slice s9 n9 c9] 80)
    simpa using this
  refine bodyPost_ret (results_cell_row rfl _ _ (w.heap.size + 1) 80 #[.slice s6 n6 c6, .slice s7 n7 c7, .slice s8 n8 c8, .slice s9 n9 c9] (0, 0) _ rfl hb Try.underlying80 rfl (by kernel_rfl)) rfl ⟨rfl, ((Below.refl _ _).alloc (Nat.le_refl _) _).alloc (by simp) _⟩
end Go.Proofs.Ytccolpkjgjjipaa.Q
