/- Plain arithmetic: the reference's Lerp is fixq's. -/
import Derived.Test.YtgalkkolbobmbaaGreatMLa
import Derived.Test.YtgalkkolbobmbaaGreatQ7
namespace Go.Proofs.YtgalkkolbobmbaaGreat.Q
open Go.RowKit Go.Proofs.YtgalkkolbobmbaaGreatW.PrintWords Go.Proofs.YtgalkkolbobmbaaGreatW.PrintLast Go.Proofs.YtgalkkolbobmbaaGreatW.PrintMore
set_option linter.unusedVariables false

def bit (b : Bool) : Nat := if b then 1 else 0
/-- The number that bits are, the lowest first. -/
def val : List Bool → Nat
  | [] => 0
  | b :: l => bit b + 2 * val l
theorem bit_le (b : Bool) : bit b ≤ 1 := by cases b <;> decide
theorem val_append (a b : List Bool) : val (a ++ b) = val a + 2 ^ a.length * val b := by
  induction a with
  | nil => simp [val]
  | cons x a ih =>
    simp only [List.cons_append, val, ih, List.length_cons, Nat.pow_succ, Nat.mul_add]
    rw [Nat.mul_comm (2 ^ a.length) 2, Nat.mul_assoc]; omega
theorem val_lt (l : List Bool) : val l < 2 ^ l.length := by
  induction l with
  | nil => simp [val]
  | cons x l ih =>
    have := bit_le x
    simp only [val, List.length_cons, Nat.pow_succ]; omega
theorem val_snoc (l : List Bool) (b : Bool) : val (l ++ [b]) = val l + 2 ^ l.length * bit b := by
  rw [val_append]; simp [val]
theorem rdOf_nat (l : List Bool) (i : Nat) (h : i < l.length) : rdOf false l (i : Int) = l[i] := by
  unfold rdOf; simp [h]
theorem take_succ_snoc {α : Type} (l : List α) (i : Nat) (h : i < l.length) : l.take (i + 1) = l.take i ++ [l[i]] := by
  rw [List.take_succ_eq_append_getElem h]
theorem drop_cons (l : List Bool) (i : Nat) (h : i < l.length) : l.drop i = l[i] :: l.drop (i + 1) := by
  rw [List.drop_eq_getElem_cons h]
/-- Bits without those at the end that are 0. -/
def tr (l : List Bool) : List Bool := l.take (go l.length)
where go : Nat → Nat
  | 0 => 0
  | n + 1 => if l.getD n false then n + 1 else go n
theorem tr_go_le (l : List Bool) : ∀ n, tr.go l n ≤ n
  | 0 => Nat.le_refl _
  | n + 1 => by
    unfold tr.go
    split
    · omega
    · have := tr_go_le l n; omega
theorem tr_go_val (l : List Bool) : ∀ n, n ≤ l.length → val (l.take (tr.go l n)) = val (l.take n)
  | 0, _ => rfl
  | n + 1, h => by
    unfold tr.go
    split
    · rfl
    · rename_i hb
      rw [tr_go_val l n (by omega), take_succ_snoc l n (by omega), val_snoc]
      have : l[n] = false := by
        have e : l.getD n false = l[n] := by simp [List.getD_eq_getElem?_getD, List.getElem?_eq_getElem (show n < l.length by omega)]
        rw [e] at hb; simpa using hb
      rw [this]; simp [bit]
theorem tr_val (l : List Bool) : val (tr l) = val l := by
  unfold tr
  rw [tr_go_val l l.length (Nat.le_refl _), List.take_length]
theorem tr_length_le (l : List Bool) : (tr l).length ≤ l.length := by
  unfold tr; simp; omega
theorem tr_go_ge (l : List Bool) : ∀ n, n ≤ l.length → tr.go l n = 0 ∨ 2 ^ (tr.go l n - 1) ≤ val (l.take (tr.go l n))
  | 0, _ => .inl rfl
  | n + 1, h => by
    unfold tr.go
    split
    · rename_i hb
      right
      rw [take_succ_snoc l n (by omega), val_snoc]
      have : l[n] = true := by
        have e : l.getD n false = l[n] := by simp [List.getD_eq_getElem?_getD, List.getElem?_eq_getElem (show n < l.length by omega)]
        rw [e] at hb; exact hb
      rw [this]
      have : (l.take n).length = n := by simp; omega
      rw [this]; simp [bit]
    · exact tr_go_ge l n (by omega)
/-- The greatest bit of what is trimmed is 1. -/
theorem tr_top (l : List Bool) : (tr l).length = 0 ∨ 2 ^ ((tr l).length - 1) ≤ val (tr l) := by
  have h := tr_go_ge l l.length (Nat.le_refl _)
  have e : (tr l).length = tr.go l l.length := by
    unfold tr
    rw [List.length_take]
    have := tr_go_le l l.length
    omega
  rw [e]
  exact h
theorem tr_len_lt {a b : List Bool} (h : (tr a).length < (tr b).length) : val a < val b := by
  rw [← tr_val a, ← tr_val b]
  have h1 := val_lt (tr a)
  rcases tr_top b with h2 | h2
  · omega
  · have : 2 ^ (tr a).length ≤ 2 ^ ((tr b).length - 1) := Nat.pow_le_pow_right (by decide) (by omega)
    omega
theorem trim_from (l : List Bool) : ∀ n, n ≤ l.length → l.length ≤ 140737488355328 → Ev (fun k => astrolaberef01_trim.l0 k (l.take n)) (l.take (tr.go l n))
  | 0, _, _ => by
    refine Ev.step (f := fun _ => some []) (fun k => ?_) (Ev.now _)
    simp [astrolaberef01_trim.l0]
  | n + 1, h, hl => by
    have hlen : (l.take (n + 1)).length = n + 1 := by simp; omega
    have hw : wrap64 (((l.take (n + 1)).length : Int) - 1) = (n : Int) := by rw [hlen, wrap_in (by omega) (by omega)]; omega
    have hr : rdOf false (l.take (n + 1)) (n : Int) = l.getD n false := by
      rw [rdOf_nat _ _ (by omega)]; simp [List.getD_eq_getElem?_getD, List.getElem?_eq_getElem (show n < l.length by omega)]
    unfold tr.go
    by_cases hb : l.getD n false = true
    · rw [if_pos hb]
      refine Ev.step (f := fun _ => some (l.take (n + 1))) (fun k => ?_) (Ev.now _)
      simp only [astrolaberef01_trim.l0]
      rw [hw, hr, if_pos (by rw [hlen]; omega), if_pos (by omega), if_pos (by rw [hlen]; omega), if_pos hb]
    · rw [if_neg hb]
      refine Ev.step (fun k => ?_) (trim_from l n (by omega) hl)
      simp only [astrolaberef01_trim.l0]
      rw [hw, hr, if_pos (by rw [hlen]; omega), if_pos (by omega), if_pos (by rw [hlen]; omega), if_neg hb, if_pos (by rw [hlen]; omega)]
      rw [Int.toNat_natCast, List.take_take, Nat.min_eq_left (by omega)]
theorem trim_ev (l : List Bool) (hl : l.length ≤ 140737488355328) : Ev (fun k => astrolaberef01_trim.f k l) (tr l) := by
  have h := trim_from l l.length (Nat.le_refl _) hl
  rw [List.take_length] at h
  exact h
/-- -1, 0, 1. -/
def cmpN (x y : Nat) : Int := if x < y then -1 else if x = y then 0 else 1
theorem cmp_loop (a b : List Bool) (hab : a.length = b.length) (hl : a.length ≤ 140737488355328) : ∀ n, n ≤ a.length →
    Ev (fun k => astrolaberef01_Cmp.l0 k a b ((n : Int) - 1)) (cmpN (val (a.take n)) (val (b.take n)))
  | 0, _ => by
    refine Ev.step (f := fun _ => some 0) (fun k => ?_) (by simpa [cmpN, val] using Ev.now _)
    simp [astrolaberef01_Cmp.l0]
  | n + 1, h => by
    have e1 : ((n + 1 : Nat) : Int) - 1 = (n : Int) := by omega
    rw [e1]
    have ra := rdOf_nat a n (by omega)
    have rb := rdOf_nat b n (by omega)
    have ta := take_succ_snoc a n (by omega)
    have tb := take_succ_snoc b n (by omega)
    have la : (a.take n).length = n := by simp; omega
    have lb : (b.take n).length = n := by simp; omega
    have va := val_lt (a.take n)
    have vb := val_lt (b.take n)
    rw [la] at va
    rw [lb] at vb
    rw [ta, tb, val_snoc, val_snoc, la, lb]
    by_cases hne : a[n] = b[n]
    · refine Ev.step (fun k => ?_) (show Ev _ _ from ?_) (f := fun k => astrolaberef01_Cmp.l0 k a b ((n : Int) - 1))
      · simp only [astrolaberef01_Cmp.l0]
        rw [ra, rb, hne, wrap_in (by omega) (by omega), if_pos (by omega), if_pos (by omega), if_pos (by omega), if_pos (by omega), if_neg (by simp)]
      · rw [hne]
        have e : cmpN (val (a.take n) + 2 ^ n * bit b[n]) (val (b.take n) + 2 ^ n * bit b[n]) = cmpN (val (a.take n)) (val (b.take n)) := by
          unfold cmpN; generalize 2 ^ n * bit b[n] = z; split <;> split <;> (try split) <;> (try split) <;> omega
        rw [e]
        exact cmp_loop a b hab hl n (by omega)
    · refine Ev.step (f := fun _ => some (if b[n] then -1 else 1)) (fun k => ?_) ?_
      · simp only [astrolaberef01_Cmp.l0]
        rw [ra, rb, if_pos (by omega), if_pos (by omega), if_pos (by omega), if_pos (by omega), if_pos (by simp [hne])]
        cases b[n] <;> rfl
      · have : (if b[n] then (-1 : Int) else 1) = cmpN (val (a.take n) + 2 ^ n * bit a[n]) (val (b.take n) + 2 ^ n * bit b[n]) := by
          revert hne
          cases a[n] <;> cases b[n] <;> simp [bit, cmpN] <;> omega
        rw [← this]
        exact Ev.now _
theorem cmp_ev (a b : List Bool) (ha : a.length ≤ 140737488355328) (hb : b.length ≤ 140737488355328) : Ev (fun k => astrolaberef01_Cmp.f k a b) (cmpN (val a) (val b)) := by
  unfold astrolaberef01_Cmp.f
  refine Ev.bind (trim_ev a ha) (Ev.bind (trim_ev b hb) ?_)
  have h1 := tr_length_le a
  have h2 := tr_length_le b
  by_cases h : (tr a).length = (tr b).length
  · refine Ev.congr (fun k => by rw [if_pos (by omega), wrap_in (by omega) (by omega)]) ?_
    have := cmp_loop (tr a) (tr b) h (by omega) (tr a).length (Nat.le_refl _)
    rw [List.take_length, h, List.take_length, tr_val, tr_val] at this
    rw [h]
    exact this
  · by_cases h' : (tr a).length < (tr b).length
    · have := tr_len_lt h'
      refine Ev.congr (f := fun _ => some (-1)) (fun k => by rw [if_neg (by omega), if_pos (by omega)]) ?_
      rw [show cmpN (val a) (val b) = -1 by unfold cmpN; rw [if_pos this]]
      exact Ev.now _
    · have := tr_len_lt (show (tr b).length < (tr a).length by omega)
      refine Ev.congr (f := fun _ => some 1) (fun k => by rw [if_neg (by omega), if_neg (by omega)]) ?_
      rw [show cmpN (val a) (val b) = 1 by unfold cmpN; rw [if_neg (by omega), if_neg (by omega)]]
      exact Ev.now _
theorem rdOf_getD (l : List Bool) (i : Nat) : rdOf false l (i : Int) = l.getD i false := by
  unfold rdOf; simp [List.getD_eq_getElem?_getD]
theorem getD_past (l : List Bool) (i : Nat) (h : ¬ i < l.length) : l.getD i false = false := by
  simp [List.getD_eq_getElem?_getD, List.getElem?_eq_none (show l.length ≤ i by omega)]
theorem val_drop (l : List Bool) (i : Nat) : val (l.drop i) = bit (l.getD i false) + 2 * val (l.drop (i + 1)) := by
  by_cases h : i < l.length
  · rw [drop_cons l i h]
    have e : l.getD i false = l[i] := by simp [List.getD_eq_getElem?_getD, List.getElem?_eq_getElem h]
    rw [e]; rfl
  · rw [getD_past l i h, List.drop_eq_nil_of_le (by omega), List.drop_eq_nil_of_le (by omega)]; rfl
def maj (x y c : Bool) : Bool := x && y || x && c || y && c
theorem add3 (x y c : Bool) : bit ((x != y) != c) + 2 * bit (maj x y c) = bit x + bit y + bit c := by cases x <;> cases y <;> cases c <;> rfl
theorem plus_step (a b out : List Bool) (c : Bool) (i : Nat) (ho : out.length < 140737488355328) (hi : i < 9223372036854775807) (k : Nat) :
    astrolaberef01_plus.l0 (k + 1) a b out c (i : Int) = if i < a.length ∨ i < b.length ∨ c = true then astrolaberef01_plus.l0 k a b (out ++ [(a.getD i false != b.getD i false) != c]) (maj (a.getD i false) (b.getD i false) c) ((i + 1 : Nat) : Int) else some out := by
  have w : wrap64 ((i : Int) + 1) = ((i + 1 : Nat) : Int) := by rw [wrap_in (by omega) (by omega)]; omega
  simp only [astrolaberef01_plus.l0, rdOf_getD, w, Option.bind_some]
  have pa := getD_past a i
  have pb := getD_past b i
  generalize a.getD i false = x at *
  generalize b.getD i false = y at *
  by_cases ha : i < a.length
  · rw [if_pos (show (i : Int) < a.length by omega), if_pos (show (0 : Int) ≤ i by omega), if_pos (show i < a.length ∨ i < b.length ∨ c = true from .inl ha)]
    by_cases hb : i < b.length
    · rw [if_pos (show (i : Int) < b.length by omega), if_pos ho]
      cases x <;> cases y <;> cases c <;> rfl
    · rw [if_neg (show ¬ (i : Int) < b.length by omega), if_pos ho, pb hb]
      cases x <;> cases c <;> rfl
  · rw [if_neg (show ¬ (i : Int) < a.length by omega), pa ha]
    by_cases hb : i < b.length
    · rw [if_pos (show (i : Int) < b.length by omega), if_pos (show (0 : Int) ≤ i by omega), if_pos ho, if_pos (show i < a.length ∨ i < b.length ∨ c = true from .inr (.inl hb))]
      cases y <;> cases c <;> rfl
    · rw [if_neg (show ¬ (i : Int) < b.length by omega), pb hb]
      cases c with
      | false => rw [if_neg (by decide), if_neg (by simp; omega)]
      | true => rw [if_pos rfl, if_pos ho, if_pos (show i < a.length ∨ i < b.length ∨ true = true from .inr (.inr rfl))]; rfl
theorem plus_loop (a b : List Bool) : ∀ (d : Nat) (out : List Bool) (c : Bool) (i : Nat), out.length = i → max a.length b.length + 1 - i ≤ d → i ≤ max a.length b.length + 1 → (i = max a.length b.length + 1 → c = false) → max a.length b.length < 140737488355327 →
    ∃ r, Ev (fun k => astrolaberef01_plus.l0 k a b out c (i : Int)) r ∧ val r = val out + 2 ^ i * (val (a.drop i) + val (b.drop i) + bit c) ∧ r.length ≤ max a.length b.length + 1
  | d, out, c, i, ho, hd, hi, hc, hm => by
    by_cases h : i < a.length ∨ i < b.length ∨ c = true
    · have hlt : i < max a.length b.length + 1 := by
        rcases h with h | h | h
        · omega
        · omega
        · by_cases e : i = max a.length b.length + 1
          · have := hc e; rw [this] at h; cases h
          · omega
      obtain ⟨d, rfl⟩ : ∃ d', d = d' + 1 := ⟨d - 1, by omega⟩
      have hc' : i + 1 = max a.length b.length + 1 → maj (a.getD i false) (b.getD i false) c = false := fun e => by
        rw [getD_past a i (by omega), getD_past b i (by omega)]; cases c <;> rfl
      obtain ⟨r, hr, hv, hl⟩ := plus_loop a b d (out ++ [(a.getD i false != b.getD i false) != c]) (maj (a.getD i false) (b.getD i false) c) (i + 1) (by simp [ho]) (by omega) (by omega) hc' hm
      refine ⟨r, Ev.step (fun k => ?_) hr, ?_, hl⟩
      · rw [plus_step a b out c i (by omega) (by omega), if_pos h]
      · rw [hv, val_snoc, ho, val_drop a i, val_drop b i, Nat.pow_succ]
        have := add3 (a.getD i false) (b.getD i false) c
        generalize bit ((a.getD i false != b.getD i false) != c) = z at *
        generalize bit (maj (a.getD i false) (b.getD i false) c) = m at *
        have e : bit (a.getD i false) + 2 * val (a.drop (i + 1)) + (bit (b.getD i false) + 2 * val (b.drop (i + 1))) + bit c = z + 2 * (val (a.drop (i + 1)) + val (b.drop (i + 1)) + m) := by omega
        rw [e, Nat.mul_assoc (2 ^ i) 2, Nat.mul_add (2 ^ i) z]; omega
    · refine ⟨out, Ev.step (f := fun _ => some out) (fun k => ?_) (Ev.now _), ?_, by omega⟩
      · rw [plus_step a b out c i (by omega) (by omega), if_neg h]
      · have hcf : c = false := by cases c; rfl; simp at h
        rw [List.drop_eq_nil_of_le (by omega), List.drop_eq_nil_of_le (by omega), hcf]
        simp [val, bit]
theorem plus_ev (a b : List Bool) (ha : a.length ≤ 100000) (hb : b.length ≤ 100000) : ∃ r, Ev (fun k => astrolaberef01_plus.f k a b) r ∧ val r = val a + val b ∧ r.length ≤ max a.length b.length + 1 := by
  obtain ⟨r, hr, hv, hl⟩ := plus_loop a b _ [] false 0 rfl (Nat.le_refl _) (by omega) (by omega) (by omega)
  exact ⟨r, hr, by simpa [val, bit] using hv, hl⟩
def bor (x y c : Bool) : Bool := !x && (y || c) || y && c
theorem sub3 (x y c : Bool) : bit ((x != y) != c) + bit y + bit c = bit x + 2 * bit (bor x y c) := by cases x <;> cases y <;> cases c <;> rfl
theorem minus_step (a b out : List Bool) (c : Bool) (i : Nat) (ho : out.length < 140737488355328) (hi : i < 9223372036854775807) (k : Nat) :
    astrolaberef01_minus.l0 (k + 1) a b out c (i : Int) = if i < a.length then astrolaberef01_minus.l0 k a b (out ++ [(a.getD i false != b.getD i false) != c]) (bor (a.getD i false) (b.getD i false) c) ((i + 1 : Nat) : Int) else (astrolaberef01_trim.f k out).bind fun t => some t := by
  have w : wrap64 ((i : Int) + 1) = ((i + 1 : Nat) : Int) := by rw [wrap_in (by omega) (by omega)]; omega
  simp only [astrolaberef01_minus.l0, rdOf_getD, w, Option.bind_some]
  have pb := getD_past b i
  generalize a.getD i false = x at *
  generalize b.getD i false = y at *
  by_cases ha : i < a.length
  · rw [if_pos (show (i : Int) < a.length by omega), if_pos ha]
    by_cases hb : i < b.length
    · rw [if_pos (show (i : Int) < b.length by omega), if_pos (show (0 : Int) ≤ i by omega), if_pos ho]
      cases x <;> cases y <;> cases c <;> rfl
    · rw [if_neg (show ¬ (i : Int) < b.length by omega), if_pos (show (0 : Int) ≤ i by omega), if_pos ho, pb hb]
      cases x <;> cases c <;> rfl
  · rw [if_neg (show ¬ (i : Int) < a.length by omega), if_neg ha]
theorem minus_loop (a b : List Bool) (hle : val b ≤ val a) (hm : a.length < 140737488355328) : ∀ (d : Nat) (out : List Bool) (c : Bool) (i : Nat), out.length = i → a.length - i ≤ d → i ≤ a.length →
    val out + 2 ^ i * val (a.drop i) + val b = val a + 2 ^ i * (val (b.drop i) + bit c) →
    ∃ r, Ev (fun k => astrolaberef01_minus.l0 k a b out c (i : Int)) r ∧ val r + val b = val a ∧ r.length ≤ a.length
  | d, out, c, i, ho, hd, hi, hv => by
    by_cases h : i < a.length
    · obtain ⟨d, rfl⟩ : ∃ d', d = d' + 1 := ⟨d - 1, by omega⟩
      have hv' : val (out ++ [(a.getD i false != b.getD i false) != c]) + 2 ^ (i + 1) * val (a.drop (i + 1)) + val b = val a + 2 ^ (i + 1) * (val (b.drop (i + 1)) + bit (bor (a.getD i false) (b.getD i false) c)) := by
        rw [val_drop a i, val_drop b i] at hv
        rw [val_snoc, ho, Nat.pow_succ]
        have := sub3 (a.getD i false) (b.getD i false) c
        generalize bit ((a.getD i false != b.getD i false) != c) = z at *
        generalize bit (bor (a.getD i false) (b.getD i false) c) = m at *
        generalize bit (a.getD i false) = p at *
        generalize bit (b.getD i false) = q at *
        generalize bit c = s at *
        generalize val (a.drop (i + 1)) = A at *
        generalize val (b.drop (i + 1)) = B at *
        generalize 2 ^ i = P at *
        rw [Nat.mul_assoc, Nat.mul_assoc]
        simp only [Nat.mul_add] at *
        have e : P * z + P * q + P * s = P * p + P * (2 * m) := by rw [← Nat.mul_add, ← Nat.mul_add, ← Nat.mul_add, this]
        omega
      obtain ⟨r, hr, h1, h2⟩ := minus_loop a b hle hm d (out ++ [(a.getD i false != b.getD i false) != c]) (bor (a.getD i false) (b.getD i false) c) (i + 1) (by simp [ho]) (by omega) (by omega) hv'
      exact ⟨r, Ev.step (fun k => by rw [minus_step a b out c i (by omega) (by omega), if_pos h]) hr, h1, h2⟩
    · have e : i = a.length := by omega
      refine ⟨tr out, Ev.step (fun k => by rw [minus_step a b out c i (by omega) (by omega), if_neg h]) (Ev.bind (trim_ev out (by omega)) (Ev.now _)), ?_, by have := tr_length_le out; omega⟩
      rw [tr_val]
      rw [List.drop_eq_nil_of_le (show a.length ≤ i by omega)] at hv
      have hlt := val_lt out
      rw [ho] at hlt
      generalize val (b.drop i) + bit c = z at *
      have hz : z = 0 := by
        rcases Nat.eq_zero_or_pos z with h0 | h0
        · exact h0
        · have : 2 ^ i * 1 ≤ 2 ^ i * z := Nat.mul_le_mul_left _ h0
          simp [val] at hv; omega
      subst hz
      simpa [val] using hv
theorem minus_ev (a b : List Bool) (hle : val b ≤ val a) (ha : a.length ≤ 100000) : ∃ r, Ev (fun k => astrolaberef01_minus.f k a b) r ∧ val r + val b = val a ∧ r.length ≤ a.length := by
  obtain ⟨r, hr, hv, hl⟩ := minus_loop a b hle (by omega) _ [] false 0 rfl (Nat.le_refl _) (by omega) (by simp [val, bit])
  exact ⟨r, hr, hv, hl⟩
theorem of_loop (a : Int) : ∀ (n : Nat) (u : Nat) (l : List Bool), u < 2 ^ n → n ≤ 64 → l.length + n ≤ 1000 →
    ∃ r, Ev (fun k => astrolaberef01_Of.l0 k a l (u : Int)) (r, decide (a < 0)) ∧ val r = val l + 2 ^ l.length * u ∧ r.length ≤ l.length + n
  | 0, u, l, hu, hn, hl => by
    have : u = 0 := by simpa using hu
    subst this
    refine ⟨l, Ev.step (f := fun _ => some (l, decide (a < 0))) (fun k => ?_) (Ev.now _), by simp, by omega⟩
    simp [astrolaberef01_Of.l0]
  | n + 1, u, l, hu, hn, hl => by
    by_cases h : u = 0
    · subst h
      refine ⟨l, Ev.step (f := fun _ => some (l, decide (a < 0))) (fun k => ?_) (Ev.now _), by simp, by omega⟩
      simp [astrolaberef01_Of.l0]
    · have hu64 : u < 18446744073709551616 := Nat.lt_of_lt_of_le hu (by have : 2 ^ (n + 1) ≤ 2 ^ 64 := Nat.pow_le_pow_right (by decide) (by omega); omega)
      have e1 : Int.tmod (u : Int) 2 = ((u % 2 : Nat) : Int) := by rw [Int.tmod_eq_emod_of_nonneg (by omega)]; omega
      have e2 : IntKind.u64.wrap (Int.tdiv (u : Int) 2) = ((u / 2 : Nat) : Int) := by
        rw [Int.tdiv_eq_ediv_of_nonneg (by omega), u64_in (by omega) (by omega)]; omega
      obtain ⟨r, hr, hv, hlr⟩ := of_loop a n (u / 2) (l ++ [((u % 2 : Nat) : Int) == 1]) (by rw [Nat.pow_succ] at hu; omega) (by omega) (by simp; omega)
      refine ⟨r, Ev.step (fun k => ?_) hr, ?_, by simp at hlr; omega⟩
      · simp only [astrolaberef01_Of.l0]
        rw [if_pos (by omega), if_pos (by omega), e1, e2]
      · rw [hv, val_snoc, List.length_append]
        have : bit (((u % 2 : Nat) : Int) == 1) = u % 2 := by
          rcases Nat.mod_two_eq_zero_or_one u with h | h <;> rw [h] <;> rfl
        rw [this]
        simp only [List.length_singleton, Nat.pow_succ]
        rw [Nat.mul_assoc, Nat.add_assoc, ← Nat.mul_add]
        congr 2; omega
theorem of_ev (a : Int) (ha : In64 a) : ∃ r, Ev (fun k => astrolaberef01_Of.f k a) (r, decide (a < 0)) ∧ val r = a.natAbs ∧ r.length ≤ 64 := by
  obtain ⟨h0, h1⟩ := ha
  obtain ⟨r, hr, hv, hl⟩ := of_loop a 64 a.natAbs [] (by simp; omega) (by omega) (by simp)
  refine ⟨r, ?_, by simpa [val] using hv, by simpa using hl⟩
  unfold astrolaberef01_Of.f
  by_cases h : a < 0
  · refine Ev.congr (fun k => by rw [if_pos h]) ?_
    refine Ev.step (fun k => ?_) hr
    simp only [astrolaberef01_Of.j0]
    have z1 : wrap64 (a + 1) = a + 1 := wrap_in (by omega) (by omega)
    have z2 : wrap64 (-(a + 1)) = -(a + 1) := wrap_in (by omega) (by omega)
    have z3 : IntKind.u64.wrap (-(a + 1)) = -(a + 1) := u64_in (by omega) (by omega)
    have z4 : IntKind.u64.wrap (-(a + 1) + 1) = (a.natAbs : Int) := by rw [u64_in (by omega) (by omega)]; omega
    rw [z1, z2, z3, z4]
  · refine Ev.congr (fun k => by rw [if_neg h]) ?_
    refine Ev.step (fun k => ?_) hr
    simp only [astrolaberef01_Of.j0]
    rw [u64_in (by omega) (by omega)]
    congr 1; omega
theorem add_ev (l : List Bool) (s : Bool) (m : List Bool) (t : Bool) (hl : l.length ≤ 1000) (hm : m.length ≤ 1000) :
    ∃ r b, Ev (fun k => astrolaberef01_Add.f k l s m t) (r, b) ∧ sg b (val r) = sg s (val l) + sg t (val m) ∧ r.length ≤ 1001 := by
  unfold astrolaberef01_Add.f
  by_cases h : s = t
  · subst h
    obtain ⟨r, hr, hv, hlr⟩ := plus_ev l m (by omega) (by omega)
    refine ⟨r, s, Ev.congr (fun k => by rw [if_pos (by simp)]) (Ev.bind hr (Ev.now _)), ?_, by omega⟩
    rw [hv]; unfold sg; cases s <;> simp <;> omega
  · have hc := cmp_ev l m (by omega) (by omega)
    by_cases hge : val m ≤ val l
    · obtain ⟨r, hr, hv, hlr⟩ := minus_ev l m hge (by omega)
      refine ⟨r, s, Ev.congr (fun k => by rw [if_neg (by simpa using h)]) (Ev.bind hc (Ev.congr (fun k => by rw [if_pos (by unfold cmpN; split; omega; split <;> omega)]) (Ev.bind hr (Ev.now _)))), ?_, by omega⟩
      revert h; unfold sg; cases s <;> cases t <;> simp <;> omega
    · obtain ⟨r, hr, hv, hlr⟩ := minus_ev m l (by omega) (by omega)
      refine ⟨r, t, Ev.congr (fun k => by rw [if_neg (by simpa using h)]) (Ev.bind hc (Ev.congr (fun k => by rw [if_neg (by unfold cmpN; rw [if_pos (by omega)]; omega)]) (Ev.bind hr (Ev.now _)))), ?_, by omega⟩
      revert h; unfold sg; cases s <;> cases t <;> simp <;> omega
theorem mul_loop (a : List Bool) (s : Bool) (b : List Bool) (t : Bool) (ha : a.length ≤ 200) (hb : b.length ≤ 200) : ∀ (n : Nat) (out : List Bool), n ≤ b.length → out.length + 2 * n ≤ 1000 + a.length →
    ∃ r, Ev (fun k => astrolaberef01_Mul.l0 k out ((n : Int) - 1) a s b t) (r, s != t) ∧ val r = 2 ^ n * val out + val a * val (b.take n) ∧ r.length ≤ 1000 + a.length
  | 0, out, hn, ho => by
    refine ⟨tr out, Ev.step (f := fun k => (astrolaberef01_trim.f k out).bind fun t177 => some (t177, s != t)) (fun k => ?_) (Ev.bind (trim_ev out (by omega)) (Ev.now _)), ?_, by have := tr_length_le out; omega⟩
    · simp only [astrolaberef01_Mul.l0]
      rw [if_neg (by omega)]
    · rw [tr_val]; simp [val]
  | n + 1, out, hn, ho => by
    have e1 : ((n + 1 : Nat) : Int) - 1 = (n : Int) := by omega
    rw [e1]
    have w : wrap64 ((n : Int) - 1) = (n : Int) - 1 := wrap_in (by omega) (by omega)
    have hb1 : rdOf false b (n : Int) = b[n] := rdOf_nat b n (by omega)
    have vt : val (b.take (n + 1)) = val (b.take n) + 2 ^ n * bit b[n] := by
      rw [take_succ_snoc b n (by omega), val_snoc]
      have : (b.take n).length = n := by simp; omega
      rw [this]
    by_cases hbit : b[n] = true
    · obtain ⟨p, hp, hvp, hlp⟩ := plus_ev ([false] ++ out) a (by simp; omega) (by omega)
      have hpl : p.length + 2 * n ≤ 1000 + a.length ∨ True := .inr trivial
      by_cases hbig : p.length + 2 * n ≤ 1000 + a.length
      · obtain ⟨r, hr, hv, hl⟩ := mul_loop a s b t ha hb n p (by omega) hbig
        refine ⟨r, Ev.step (f := fun k => (astrolaberef01_plus.f k ([false] ++ out) a).bind fun t174 => astrolaberef01_Mul.l0 k t174 ((n : Int) - 1) a s b t) (fun k => ?_) (Ev.bind hp hr), ?_, hl⟩
        · simp only [astrolaberef01_Mul.l0, Option.bind_some]
          rw [if_pos (by omega), if_pos (by simp; omega), if_pos (by omega), if_pos (by omega), hb1, if_pos hbit, w]
        · rw [hv, hvp, vt, hbit]
          simp only [bit, if_true, List.singleton_append, val, Nat.pow_succ]
          simp only [Nat.mul_add, Nat.mul_one]
          rw [Nat.mul_comm (2 ^ n) (val a), Nat.mul_assoc (2 ^ n) 2]
          simp; omega
      · simp at hlp; omega
    · have hbf : b[n] = false := by simpa using hbit
      obtain ⟨r, hr, hv, hl⟩ := mul_loop a s b t ha hb n ([false] ++ out) (by omega) (by simp; omega)
      refine ⟨r, Ev.step (f := fun k => astrolaberef01_Mul.l0 k ([false] ++ out) ((n : Int) - 1) a s b t) (fun k => ?_) hr, ?_, hl⟩
      · simp only [astrolaberef01_Mul.l0, Option.bind_some]
        rw [if_pos (by omega), if_pos (by simp; omega), if_pos (by omega), if_pos (by omega), hb1, if_neg hbit, w]
      · rw [hv, vt, hbf]
        simp only [bit, List.singleton_append, val, Nat.pow_succ]
        simp [Nat.mul_assoc]
theorem mul_ev (a : List Bool) (s : Bool) (b : List Bool) (t : Bool) (ha : a.length ≤ 200) (hb : b.length ≤ 200) :
    ∃ r, Ev (fun k => astrolaberef01_Mul.f k a s b t) (r, s != t) ∧ val r = val a * val b ∧ r.length ≤ 1200 := by
  obtain ⟨r, hr, hv, hl⟩ := mul_loop a s b t ha hb b.length [] (Nat.le_refl _) (by simp; omega)
  refine ⟨r, Ev.congr (fun k => ?_) hr, by simpa [val] using hv, by omega⟩
  unfold astrolaberef01_Mul.f
  rw [wrap_in (by omega) (by omega)]
theorem val_zeros (n : Nat) (l : List Bool) : val (List.replicate n false ++ l) = 2 ^ n * val l := by
  rw [val_append]
  have : ∀ n, val (List.replicate n false) = 0 := fun n => by
    induction n with
    | zero => rfl
    | succ n ih => simp [List.replicate_succ, val, ih, bit]
  rw [this]; simp
theorem val_drop_le (l : List Bool) (n : Nat) : val (l.drop n) ≤ val l := by
  have h : val l = val (l.take n) + 2 ^ (l.take n).length * val (l.drop n) := by rw [← val_append, List.take_append_drop]
  have : 1 * val (l.drop n) ≤ 2 ^ (l.take n).length * val (l.drop n) := Nat.mul_le_mul_right _ (Nat.two_pow_pos _)
  omega
theorem heldref_loop (l : List Bool) (m : List Bool) (s : Bool) (hv : val l < 9223372036854775808) (hl : l.length ≤ 100000) : ∀ n, n ≤ l.length →
    Ev (fun k => astrolaberef01_Held.l0 k l (val (l.drop n) : Int) ((n : Int) - 1) m s) (sg s (val l), 0)
  | 0, _ => by
    refine Ev.step (f := fun _ => some (sg s (val l), 0)) (fun k => ?_) (Ev.now _)
    simp only [astrolaberef01_Held.l0]
    rw [if_neg (by omega), List.drop_zero]
    cases s with
    | true => rw [if_pos rfl, wrap_in (by omega) (by omega)]; rfl
    | false => rfl
  | n + 1, hn => by
    have e1 : ((n + 1 : Nat) : Int) - 1 = (n : Int) := by omega
    rw [e1]
    have w : wrap64 ((n : Int) - 1) = (n : Int) - 1 := wrap_in (by omega) (by omega)
    have hd := val_drop l n
    have hle := val_drop_le l n
    refine Ev.step (fun k => ?_) (heldref_loop l m s hv hl n (by omega))
    simp only [astrolaberef01_Held.l0]
    rw [if_pos (by omega), if_pos (by omega), if_pos (by omega), rdOf_getD, w]
    have w2 : wrap64 (2 * (val (l.drop (n + 1)) : Int)) = 2 * (val (l.drop (n + 1)) : Int) := wrap_in (by omega) (by omega)
    rw [w2]
    cases hb : l.getD n false with
    | true =>
      rw [hb] at hd
      simp [bit] at hd
      rw [if_pos rfl, wrap_in (by omega) (by omega), hd]
      congr 1; omega
    | false =>
      rw [hb] at hd
      simp [bit] at hd
      rw [if_neg (by decide), hd]
      congr 1
theorem edge_val : val ((List.replicate 64 false).set 63 true) = 9223372036854775808 := by decide +kernel
theorem heldref_ev (l : List Bool) (s : Bool) (hl : l.length ≤ 100000) : Ev (fun k => astrolaberef01_Held.f k l s) (sat (sg s (val l))) := by
  have ht := tr_length_le l
  have htv := tr_val l
  have hc := cmp_ev (tr l) ((List.replicate 64 false).set 63 true) (by omega) (by simp)
  rw [htv, edge_val] at hc
  unfold astrolaberef01_Held.f
  refine Ev.bind (trim_ev l (by omega)) ?_
  refine Ev.congr (fun k => by rw [if_pos (by decide)]) ?_
  refine Ev.congr (f := fun k => (astrolaberef01_Cmp.f k (tr l) ((List.replicate 64 false).set 63 true)).bind fun t259 => if s = true then astrolaberef01_Held.j0 k (tr l) t259 (t259 == 0) l s else astrolaberef01_Held.j0 k (tr l) t259 false l s) (fun k => ?_) ?_
  · simp only [Option.bind_some]
    rw [if_pos (by simp)]
    rfl
  · refine Ev.bind hc ?_
    unfold cmpN
    by_cases hlt : val l < 9223372036854775808
    · rw [if_pos hlt]
      have hloop := heldref_loop (tr l) l s (by omega) (by omega) (tr l).length (Nat.le_refl _)
      rw [List.drop_length] at hloop
      have e : sat (sg s (val l)) = (sg s (val l), 0) := sat_in _ (by unfold sg In64; cases s <;> simp <;> omega)
      rw [e]
      rw [htv] at hloop
      refine Ev.congr (f := fun k => astrolaberef01_Held.j0 k (tr l) (-1) false l s) (fun k => by cases s <;> rfl) ?_
      refine Ev.step (fun k => ?_) hloop
      simp only [astrolaberef01_Held.j0]
      rw [if_neg (by decide), if_neg (by decide), wrap_in (by omega) (by omega)]
      rfl
    · rw [if_neg hlt]
      by_cases heq : val l = 9223372036854775808
      · rw [if_pos heq, heq]
        refine Ev.congr (f := fun k => astrolaberef01_Held.j0 k (tr l) 0 s l s) (fun k => by cases s <;> rfl) ?_
        refine Ev.step (f := fun _ => some (sat (sg s 9223372036854775808))) (fun k => ?_) (Ev.now _)
        cases s <;> rfl
      · rw [if_neg heq]
        refine Ev.congr (f := fun k => astrolaberef01_Held.j0 k (tr l) 1 false l s) (fun k => by cases s <;> rfl) ?_
        refine Ev.step (f := fun _ => some (sat (sg s (val l)))) (fun k => ?_) (Ev.now _)
        simp only [astrolaberef01_Held.j0]
        rw [if_neg (by decide), if_pos (by decide)]
        unfold sat sg
        cases s with
        | true => rw [if_pos rfl, if_pos rfl, if_pos (by omega)]
        | false => simp only [Bool.false_eq_true, if_false]; rw [if_neg (by omega), if_pos (by omega)]
theorem sum_ev (a b : Int) (ha : In64 a) (hb : In64 b) : Ev (fun k => astrolaberef01_Sum.f k a b) (sat (a + b)) := by
  obtain ⟨p, hp, vp, lp⟩ := of_ev a ha
  obtain ⟨q, hq, vq, lq⟩ := of_ev b hb
  obtain ⟨r, s, hr, hv, hl⟩ := add_ev p (decide (a < 0)) q (decide (b < 0)) (by omega) (by omega)
  rw [vp, vq, sg_of, sg_of] at hv
  unfold astrolaberef01_Sum.f
  refine Ev.bind hp (Ev.bind hq (Ev.bind hr (Ev.bind (heldref_ev r s (by omega)) ?_)))
  rw [hv]
  exact Ev.now _
theorem sg_not (s : Bool) (n : Nat) : sg (!s) n = -sg s n := by cases s <;> simp [sg]
theorem diff_ev (a b : Int) (ha : In64 a) (hb : In64 b) : Ev (fun k => astrolaberef01_Diff.f k a b) (sat (a - b)) := by
  obtain ⟨p, hp, vp, lp⟩ := of_ev a ha
  obtain ⟨q, hq, vq, lq⟩ := of_ev b hb
  obtain ⟨r, s, hr, hv, hl⟩ := add_ev p (decide (a < 0)) q (!decide (b < 0)) (by omega) (by omega)
  rw [vp, vq, sg_not, sg_of, sg_of] at hv
  unfold astrolaberef01_Diff.f
  refine Ev.bind hp (Ev.bind hq (Ev.bind (a := (q, !decide (b < 0))) (Ev.now _) (Ev.bind hr (Ev.bind (heldref_ev r s (by omega)) ?_))))
  rw [hv, show a + -b = a - b by omega]
  exact Ev.now _
theorem val_drop_div (l : List Bool) (n : Nat) (h : n ≤ l.length) : val (l.drop n) = val l / 2 ^ n := by
  have e : val l = val (l.take n) + 2 ^ n * val (l.drop n) := by
    have := val_append (l.take n) (l.drop n)
    rw [List.take_append_drop, List.length_take, Nat.min_eq_left h] at this
    exact this
  have hlt := val_lt (l.take n)
  rw [List.length_take, Nat.min_eq_left h] at hlt
  rw [e, Nat.add_mul_div_left _ _ (Nat.two_pow_pos n), Nat.div_eq_of_lt hlt]; omega
theorem down_ev (l : List Bool) (s : Bool) (n : Nat) (hl : l.length ≤ 2000) : ∃ r, astrolaberef01_Down.f l s (n : Int) = some (r, s) ∧ val r = val l / 2 ^ n ∧ r.length ≤ 2000 := by
  unfold astrolaberef01_Down.f
  by_cases h : n > l.length
  · refine ⟨[], by rw [if_pos (by omega)], ?_, by simp⟩
    have h1 := val_lt l
    have h2 : 2 ^ l.length ≤ 2 ^ n := Nat.pow_le_pow_right (by decide) (by omega)
    rw [Nat.div_eq_of_lt (by omega)]; rfl
  · refine ⟨l.drop n, by rw [if_neg (by omega), if_pos (by omega), if_pos (by omega), Int.toNat_natCast], val_drop_div l n (by omega), by simp; omega⟩
theorem reflerp_j4 (a b m k : Int) (ha : In64 a) (hb : In64 b) : Ev (fun n => astrolaberef01_Lerp.j4 n a b (lerpK k : Int) (lerpM m (lerpK k) : Int)) ((lerpV a b m k).1, lerpF a b m k) := by
  have hK := lerpK_le k
  have hM := lerpM_le m (lerpK k)
  have hp := pow32 hK
  unfold lerpF lerpV lerpP lerpD
  generalize lerpM m (lerpK k) = M at *
  generalize lerpK k = K at *
  have hd := sat_bd (b - a)
  have hdiff := diff_ev b a hb ha
  generalize hdd : sat (b - a) = D at *
  have hf1 : D.2 = 0 ∨ D.2 = 1 := by rw [← hdd]; exact sat_flag01 _
  obtain ⟨p, hp1, vp, lp⟩ := of_ev D.1 hd
  obtain ⟨q, hq1, vq, lq⟩ := of_ev (M : Int) ⟨by omega, by omega⟩
  obtain ⟨r, hr, vr, lr⟩ := mul_ev p (decide (D.1 < 0)) q (decide ((M : Int) < 0)) (by omega) (by omega)
  obtain ⟨t, ht, vt, lt⟩ := down_ev r ((decide (D.1 < 0)) != (decide ((M : Int) < 0))) K (by omega)
  rw [vr, vp, vq, Int.natAbs_natCast] at vt
  have hh := heldref_ev t ((decide (D.1 < 0)) != (decide ((M : Int) < 0))) (by omega)
  rw [vt, decide_eq_false (show ¬ (M : Int) < 0 by omega), Bool.bne_false] at hh
  have hs := sum_ev a (sat (sg (decide (D.1 < 0)) (D.1.natAbs * M / 2 ^ K))).1 ha (sat_bd _)
  have f2 := sat_flag01 (sg (decide (D.1 < 0)) (D.1.natAbs * M / 2 ^ K))
  generalize sat (sg (decide (D.1 < 0)) (D.1.natAbs * M / 2 ^ K)) = G at *
  have f3 := sat_flag01 (a + G.1)
  generalize sat (a + G.1) = S at *
  refine Ev.step (f := fun k => (astrolaberef01_Diff.f k b a).bind fun bt406 => ((astrolaberef01_Of.f k bt406.1).bind fun bt408 => ((astrolaberef01_Of.f k (M : Int)).bind fun bt412 => ((astrolaberef01_Mul.f k bt408.1 bt408.2 bt412.1 bt412.2).bind fun bt416 => ((astrolaberef01_Down.f bt416.1 bt416.2 (K : Int)).bind fun bt420 => ((astrolaberef01_Held.f k bt420.1 bt420.2).bind fun bt424 => ((astrolaberef01_Sum.f k a bt424.1).bind fun bt426 => (if (wrap64 ((wrap64 (bt406.2 + bt424.2)) + bt426.2)) > 0 then (some (bt426.1, 1)) else (some (bt426.1, 0))))))))))
    (fun k => by simp only [astrolaberef01_Lerp.j4]) ?_
  refine Ev.bind hdiff (Ev.bind hp1 (Ev.bind hq1 (Ev.bind hr (Ev.bind (a := (t, (decide (D.1 < 0)) != (decide ((M : Int) < 0)))) (Ev.congr (fun k => ht) (Ev.now _)) ?_))))
  rw [decide_eq_false (show ¬ (M : Int) < 0 by omega), Bool.bne_false]
  refine Ev.bind hh (Ev.bind hs ?_)
  have w1 : wrap64 (D.2 + G.2) = D.2 + G.2 := wrap_in (by omega) (by omega)
  rw [w1, wrap_in (by omega) (by omega)]
  by_cases hz : D.2 = 0 ∧ G.2 = 0 ∧ S.2 = 0
  · rw [if_pos hz]
    exact Ev.congr (fun k => by rw [if_neg (by omega)]) (Ev.now _)
  · rw [if_neg hz]
    exact Ev.congr (fun k => by rw [if_pos (by omega)]) (Ev.now _)
theorem reflerp_loop (a b m : Int) (K : Nat) (hK : K ≤ 32) (res : Int × Int) (h : Ev (fun n => astrolaberef01_Lerp.j4 n a b (K : Int) (lerpM m K : Int)) res) : ∀ (d j : Nat), j + d = K →
    Ev (fun n => astrolaberef01_Lerp.l0 n a b m (K : Int) ((2 ^ j : Nat) : Int) (j : Int)) res
  | 0, j, hj => by
    obtain rfl : j = K := by omega
    refine Ev.step (f := fun n => astrolaberef01_Lerp.j3 n a b (j : Int) ((2 ^ j : Nat) : Int) (if m < 0 then 0 else m)) (fun k => ?_) ?_
    · simp only [astrolaberef01_Lerp.l0]
      rw [if_neg (by omega)]
      split <;> rfl
    · refine Ev.step (fun k => ?_) h
      simp only [astrolaberef01_Lerp.j3]
      unfold lerpM
      generalize 2 ^ j = P
      by_cases h1 : m < 0
      · rw [if_pos h1, if_pos h1, if_neg (by omega)]; rfl
      · rw [if_neg h1, if_neg h1]
        by_cases h2 : m > (P : Int)
        · rw [if_pos h2, if_pos h2]
        · rw [if_neg h2, if_neg h2]; congr 1; omega
  | d + 1, j, hj => by
    have hp := pow32 (K := j + 1) (by omega)
    have hps : 2 ^ (j + 1) = 2 * 2 ^ j := by rw [Nat.pow_succ, Nat.mul_comm]
    have ih := reflerp_loop a b m K hK res h d (j + 1) (by omega)
    refine Ev.step (fun k => ?_) ih
    simp only [astrolaberef01_Lerp.l0]
    have e1 : wrap64 (2 * ((2 ^ j : Nat) : Int)) = ((2 ^ (j + 1) : Nat) : Int) := by
      generalize 2 ^ (j + 1) = Q at *
      generalize 2 ^ j = P at *
      rw [wrap_in (by omega) (by omega)]; omega
    have e2 : wrap64 ((j : Int) + 1) = ((j + 1 : Nat) : Int) := by rw [wrap_in (by omega) (by omega)]; omega
    rw [if_pos (by omega), e1, e2]
theorem reflerp_ev (a b m k : Int) (ha : In64 a) (hb : In64 b) : Ev (fun n => astrolaberef01_Lerp.f n a b m k) ((lerpV a b m k).1, lerpF a b m k) := by
  have h := reflerp_loop a b m (lerpK k) (lerpK_le k) _ (reflerp_j4 a b m k ha hb) (lerpK k) 0 (by omega)
  refine Ev.congr (f := fun n => astrolaberef01_Lerp.j0 n a b m (if k < 0 then 0 else k)) (fun n => ?_) ?_
  · unfold astrolaberef01_Lerp.f; split <;> rfl
  · refine Ev.step (f := fun n => astrolaberef01_Lerp.j1 n a b m (lerpK k : Int)) (fun n => ?_) (Ev.step (fun n => ?_) h)
    · simp only [astrolaberef01_Lerp.j0]
      unfold lerpK
      by_cases h1 : k < 0
      · rw [if_pos h1, if_pos h1, if_neg (by decide)]; rfl
      · rw [if_neg h1, if_neg h1]
        by_cases h2 : k > 32
        · rw [if_pos h2, if_pos h2]; rfl
        · rw [if_neg h2, if_neg h2]; congr 1; omega
    · simp only [astrolaberef01_Lerp.j1]; rfl
end Go.Proofs.YtgalkkolbobmbaaGreat.Q
