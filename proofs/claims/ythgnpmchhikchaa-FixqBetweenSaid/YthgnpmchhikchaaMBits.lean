/- Plain arithmetic: the reference's lists of bits (trim, Cmp, plus, minus, Of) are numbers. -/
import Derived.Test.YthgnpmchhikchaaQ3
import Derived.Test.YthgnpmchhikchaaQ4
import Derived.Test.YthgnpmchhikchaaQ5
namespace Go.Proofs.Ythgnpmchhikchaa.Q
open Go.RowKit Go.Proofs.YthgnpmchhikchaaW.PrintWords Go.Proofs.YthgnpmchhikchaaW.PrintLast Go.Proofs.YthgnpmchhikchaaW.PrintMore
set_option linter.unusedVariables false

def bit (b : Bool) : Nat := if b then 1 else 0
/-- The number that bits are, the lowest first. -/
def val : List Bool → Nat
  | [] => 0
  | b :: l => bit b + 2 * val l
theorem bit_le (b : Bool) : bit b ≤ 1 := by cases b <;> decide
theorem val_append (a b : List Bool) : val (a ++ b) = val a + 2 ^ a.length * val b := by
  induction a with
  | nil => simp [val]
  | cons x a ih =>
    simp only [List.cons_append, val, ih, List.length_cons, Nat.pow_succ, Nat.mul_add]
    rw [Nat.mul_comm (2 ^ a.length) 2, Nat.mul_assoc]; omega
theorem val_lt (l : List Bool) : val l < 2 ^ l.length := by
  induction l with
  | nil => simp [val]
  | cons x l ih =>
    have := bit_le x
    simp only [val, List.length_cons, Nat.pow_succ]; omega
theorem val_snoc (l : List Bool) (b : Bool) : val (l ++ [b]) = val l + 2 ^ l.length * bit b := by
  rw [val_append]; simp [val]
theorem wrap_in {x : Int} (h0 : -9223372036854775808 ≤ x) (h1 : x ≤ 9223372036854775807) : wrap64 x = x := by
  unfold wrap64; omega
theorem rdOf_nat (l : List Bool) (i : Nat) (h : i < l.length) : rdOf false l (i : Int) = l[i] := by
  unfold rdOf; simp [h]
theorem take_succ_snoc {α : Type} (l : List α) (i : Nat) (h : i < l.length) : l.take (i + 1) = l.take i ++ [l[i]] := by
  rw [List.take_succ_eq_append_getElem h]
theorem drop_cons (l : List Bool) (i : Nat) (h : i < l.length) : l.drop i = l[i] :: l.drop (i + 1) := by
  rw [List.drop_eq_getElem_cons h]

/-- Bits without those at the end that are 0. -/
def tr (l : List Bool) : List Bool := l.take (go l.length)
where go : Nat → Nat
  | 0 => 0
  | n + 1 => if l.getD n false then n + 1 else go n
theorem tr_go_le (l : List Bool) : ∀ n, tr.go l n ≤ n
  | 0 => Nat.le_refl _
  | n + 1 => by
    unfold tr.go
    split
    · omega
    · have := tr_go_le l n; omega
theorem tr_go_val (l : List Bool) : ∀ n, n ≤ l.length → val (l.take (tr.go l n)) = val (l.take n)
  | 0, _ => rfl
  | n + 1, h => by
    unfold tr.go
    split
    · rfl
    · rename_i hb
      rw [tr_go_val l n (by omega), take_succ_snoc l n (by omega), val_snoc]
      have : l[n] = false := by
        have e : l.getD n false = l[n] := by simp [List.getD_eq_getElem?_getD, List.getElem?_eq_getElem (show n < l.length by omega)]
        rw [e] at hb; simpa using hb
      rw [this]; simp [bit]
theorem tr_val (l : List Bool) : val (tr l) = val l := by
  unfold tr
  rw [tr_go_val l l.length (Nat.le_refl _), List.take_length]
theorem tr_length_le (l : List Bool) : (tr l).length ≤ l.length := by
  unfold tr; simp; omega
theorem tr_go_ge (l : List Bool) : ∀ n, n ≤ l.length → tr.go l n = 0 ∨ 2 ^ (tr.go l n - 1) ≤ val (l.take (tr.go l n))
  | 0, _ => .inl rfl
  | n + 1, h => by
    unfold tr.go
    split
    · rename_i hb
      right
      rw [take_succ_snoc l n (by omega), val_snoc]
      have : l[n] = true := by
        have e : l.getD n false = l[n] := by simp [List.getD_eq_getElem?_getD, List.getElem?_eq_getElem (show n < l.length by omega)]
        rw [e] at hb; exact hb
      rw [this]
      have : (l.take n).length = n := by simp; omega
      rw [this]; simp [bit]
    · exact tr_go_ge l n (by omega)
/-- The greatest bit of what is trimmed is 1. -/
theorem tr_top (l : List Bool) : (tr l).length = 0 ∨ 2 ^ ((tr l).length - 1) ≤ val (tr l) := by
  have h := tr_go_ge l l.length (Nat.le_refl _)
  have e : (tr l).length = tr.go l l.length := by
    unfold tr
    rw [List.length_take]
    have := tr_go_le l l.length
    omega
  rw [e]
  exact h
theorem tr_len_lt {a b : List Bool} (h : (tr a).length < (tr b).length) : val a < val b := by
  rw [← tr_val a, ← tr_val b]
  have h1 := val_lt (tr a)
  rcases tr_top b with h2 | h2
  · omega
  · have : 2 ^ (tr a).length ≤ 2 ^ ((tr b).length - 1) := Nat.pow_le_pow_right (by decide) (by omega)
    omega

theorem trim_from (l : List Bool) : ∀ n, n ≤ l.length → l.length ≤ 140737488355328 → Ev (fun k => astrolaberef01_trim.l0 k (l.take n)) (l.take (tr.go l n))
  | 0, _, _ => by
    refine Ev.step (f := fun _ => some []) (fun k => ?_) (Ev.now _)
    simp [astrolaberef01_trim.l0]
  | n + 1, h, hl => by
    have hlen : (l.take (n + 1)).length = n + 1 := by simp; omega
    have hw : wrap64 (((l.take (n + 1)).length : Int) - 1) = (n : Int) := by rw [hlen, wrap_in (by omega) (by omega)]; omega
    have hr : rdOf false (l.take (n + 1)) (n : Int) = l.getD n false := by
      rw [rdOf_nat _ _ (by omega)]; simp [List.getD_eq_getElem?_getD, List.getElem?_eq_getElem (show n < l.length by omega)]
    unfold tr.go
    by_cases hb : l.getD n false = true
    · rw [if_pos hb]
      refine Ev.step (f := fun _ => some (l.take (n + 1))) (fun k => ?_) (Ev.now _)
      simp only [astrolaberef01_trim.l0]
      rw [hw, hr, if_pos (by rw [hlen]; omega), if_pos (by omega), if_pos (by rw [hlen]; omega), if_pos hb]
    · rw [if_neg hb]
      refine Ev.step (fun k => ?_) (trim_from l n (by omega) hl)
      simp only [astrolaberef01_trim.l0]
      rw [hw, hr, if_pos (by rw [hlen]; omega), if_pos (by omega), if_pos (by rw [hlen]; omega), if_neg hb, if_pos (by rw [hlen]; omega)]
      rw [Int.toNat_natCast, List.take_take, Nat.min_eq_left (by omega)]
theorem trim_ev (l : List Bool) (hl : l.length ≤ 140737488355328) : Ev (fun k => astrolaberef01_trim.f k l) (tr l) := by
  have h := trim_from l l.length (Nat.le_refl _) hl
  rw [List.take_length] at h
  exact h

/-- -1, 0, 1. -/
def cmpN (x y : Nat) : Int := if x < y then -1 else if x = y then 0 else 1
theorem cmp_loop (a b : List Bool) (hab : a.length = b.length) (hl : a.length ≤ 140737488355328) : ∀ n, n ≤ a.length →
    Ev (fun k => astrolaberef01_Cmp.l0 k a b ((n : Int) - 1)) (cmpN (val (a.take n)) (val (b.take n)))
  | 0, _ => by
    refine Ev.step (f := fun _ => some 0) (fun k => ?_) (by simpa [cmpN, val] using Ev.now _)
    simp [astrolaberef01_Cmp.l0]
  | n + 1, h => by
    have e1 : ((n + 1 : Nat) : Int) - 1 = (n : Int) := by omega
    rw [e1]
    have ra := rdOf_nat a n (by omega)
    have rb := rdOf_nat b n (by omega)
    have ta := take_succ_snoc a n (by omega)
    have tb := take_succ_snoc b n (by omega)
    have la : (a.take n).length = n := by simp; omega
    have lb : (b.take n).length = n := by simp; omega
    have va := val_lt (a.take n)
    have vb := val_lt (b.take n)
    rw [la] at va
    rw [lb] at vb
    rw [ta, tb, val_snoc, val_snoc, la, lb]
    by_cases hne : a[n] = b[n]
    · refine Ev.step (fun k => ?_) (show Ev _ _ from ?_) (f := fun k => astrolaberef01_Cmp.l0 k a b ((n : Int) - 1))
      · simp only [astrolaberef01_Cmp.l0]
        rw [ra, rb, hne, wrap_in (by omega) (by omega), if_pos (by omega), if_pos (by omega), if_pos (by omega), if_pos (by omega), if_neg (by simp)]
      · rw [hne]
        have e : cmpN (val (a.take n) + 2 ^ n * bit b[n]) (val (b.take n) + 2 ^ n * bit b[n]) = cmpN (val (a.take n)) (val (b.take n)) := by
          unfold cmpN; generalize 2 ^ n * bit b[n] = z; split <;> split <;> (try split) <;> (try split) <;> omega
        rw [e]
        exact cmp_loop a b hab hl n (by omega)
    · refine Ev.step (f := fun _ => some (if b[n] then -1 else 1)) (fun k => ?_) ?_
      · simp only [astrolaberef01_Cmp.l0]
        rw [ra, rb, if_pos (by omega), if_pos (by omega), if_pos (by omega), if_pos (by omega), if_pos (by simp [hne])]
        cases b[n] <;> rfl
      · have : (if b[n] then (-1 : Int) else 1) = cmpN (val (a.take n) + 2 ^ n * bit a[n]) (val (b.take n) + 2 ^ n * bit b[n]) := by
          revert hne
          cases a[n] <;> cases b[n] <;> simp [bit, cmpN] <;> omega
        rw [← this]
        exact Ev.now _
theorem cmp_ev (a b : List Bool) (ha : a.length ≤ 140737488355328) (hb : b.length ≤ 140737488355328) : Ev (fun k => astrolaberef01_Cmp.f k a b) (cmpN (val a) (val b)) := by
  unfold astrolaberef01_Cmp.f
  refine Ev.bind (trim_ev a ha) (Ev.bind (trim_ev b hb) ?_)
  have h1 := tr_length_le a
  have h2 := tr_length_le b
  by_cases h : (tr a).length = (tr b).length
  · refine Ev.congr (fun k => by rw [if_pos (by omega), wrap_in (by omega) (by omega)]) ?_
    have := cmp_loop (tr a) (tr b) h (by omega) (tr a).length (Nat.le_refl _)
    rw [List.take_length, h, List.take_length, tr_val, tr_val] at this
    rw [h]
    exact this
  · by_cases h' : (tr a).length < (tr b).length
    · have := tr_len_lt h'
      refine Ev.congr (f := fun _ => some (-1)) (fun k => by rw [if_neg (by omega), if_pos (by omega)]) ?_
      rw [show cmpN (val a) (val b) = -1 by unfold cmpN; rw [if_pos this]]
      exact Ev.now _
    · have := tr_len_lt (show (tr b).length < (tr a).length by omega)
      refine Ev.congr (f := fun _ => some 1) (fun k => by rw [if_neg (by omega), if_neg (by omega)]) ?_
      rw [show cmpN (val a) (val b) = 1 by unfold cmpN; rw [if_neg (by omega), if_neg (by omega)]]
      exact Ev.now _
end Go.Proofs.Ythgnpmchhikchaa.Q
