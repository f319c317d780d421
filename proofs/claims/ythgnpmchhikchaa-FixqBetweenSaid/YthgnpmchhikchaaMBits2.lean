/- Plain arithmetic: the reference's sums and differences of sizes are those of numbers. -/
import Derived.Test.YthgnpmchhikchaaMBits
import Derived.Test.YthgnpmchhikchaaQ8
namespace Go.Proofs.Ythgnpmchhikchaa.Q
open Go.RowKit Go.Proofs.YthgnpmchhikchaaW.PrintWords Go.Proofs.YthgnpmchhikchaaW.PrintLast Go.Proofs.YthgnpmchhikchaaW.PrintMore
set_option linter.unusedVariables false

theorem rdOf_getD (l : List Bool) (i : Nat) : rdOf false l (i : Int) = l.getD i false := by
  unfold rdOf; simp [List.getD_eq_getElem?_getD]
theorem getD_past (l : List Bool) (i : Nat) (h : ¬ i < l.length) : l.getD i false = false := by
  simp [List.getD_eq_getElem?_getD, List.getElem?_eq_none (show l.length ≤ i by omega)]
theorem val_drop (l : List Bool) (i : Nat) : val (l.drop i) = bit (l.getD i false) + 2 * val (l.drop (i + 1)) := by
  by_cases h : i < l.length
  · rw [drop_cons l i h]
    have e : l.getD i false = l[i] := by simp [List.getD_eq_getElem?_getD, List.getElem?_eq_getElem h]
    rw [e]; rfl
  · rw [getD_past l i h, List.drop_eq_nil_of_le (by omega), List.drop_eq_nil_of_le (by omega)]; rfl
def maj (x y c : Bool) : Bool := x && y || x && c || y && c
theorem add3 (x y c : Bool) : bit ((x != y) != c) + 2 * bit (maj x y c) = bit x + bit y + bit c := by cases x <;> cases y <;> cases c <;> rfl
theorem plus_step (a b out : List Bool) (c : Bool) (i : Nat) (ho : out.length < 140737488355328) (hi : i < 9223372036854775807) (k : Nat) :
    astrolaberef01_plus.l0 (k + 1) a b out c (i : Int) = if i < a.length ∨ i < b.length ∨ c = true then astrolaberef01_plus.l0 k a b (out ++ [(a.getD i false != b.getD i false) != c]) (maj (a.getD i false) (b.getD i false) c) ((i + 1 : Nat) : Int) else some out := by
  have w : wrap64 ((i : Int) + 1) = ((i + 1 : Nat) : Int) := by rw [wrap_in (by omega) (by omega)]; omega
  simp only [astrolaberef01_plus.l0, rdOf_getD, w, Option.bind_some]
  have pa := getD_past a i
  have pb := getD_past b i
  generalize a.getD i false = x at *
  generalize b.getD i false = y at *
  by_cases ha : i < a.length
  · rw [if_pos (show (i : Int) < a.length by omega), if_pos (show (0 : Int) ≤ i by omega), if_pos (show i < a.length ∨ i < b.length ∨ c = true from .inl ha)]
    by_cases hb : i < b.length
    · rw [if_pos (show (i : Int) < b.length by omega), if_pos ho]
      cases x <;> cases y <;> cases c <;> rfl
    · rw [if_neg (show ¬ (i : Int) < b.length by omega), if_pos ho, pb hb]
      cases x <;> cases c <;> rfl
  · rw [if_neg (show ¬ (i : Int) < a.length by omega), pa ha]
    by_cases hb : i < b.length
    · rw [if_pos (show (i : Int) < b.length by omega), if_pos (show (0 : Int) ≤ i by omega), if_pos ho, if_pos (show i < a.length ∨ i < b.length ∨ c = true from .inr (.inl hb))]
      cases y <;> cases c <;> rfl
    · rw [if_neg (show ¬ (i : Int) < b.length by omega), pb hb]
      cases c with
      | false => rw [if_neg (by decide), if_neg (by simp; omega)]
      | true => rw [if_pos rfl, if_pos ho, if_pos (show i < a.length ∨ i < b.length ∨ true = true from .inr (.inr rfl))]; rfl
theorem plus_loop (a b : List Bool) : ∀ (d : Nat) (out : List Bool) (c : Bool) (i : Nat), out.length = i → max a.length b.length + 1 - i ≤ d → i ≤ max a.length b.length + 1 → (i = max a.length b.length + 1 → c = false) → max a.length b.length < 140737488355327 →
    ∃ r, Ev (fun k => astrolaberef01_plus.l0 k a b out c (i : Int)) r ∧ val r = val out + 2 ^ i * (val (a.drop i) + val (b.drop i) + bit c) ∧ r.length ≤ max a.length b.length + 1
  | d, out, c, i, ho, hd, hi, hc, hm => by
    by_cases h : i < a.length ∨ i < b.length ∨ c = true
    · have hlt : i < max a.length b.length + 1 := by
        rcases h with h | h | h
        · omega
        · omega
        · by_cases e : i = max a.length b.length + 1
          · have := hc e; rw [this] at h; cases h
          · omega
      obtain ⟨d, rfl⟩ : ∃ d', d = d' + 1 := ⟨d - 1, by omega⟩
      have hc' : i + 1 = max a.length b.length + 1 → maj (a.getD i false) (b.getD i false) c = false := fun e => by
        rw [getD_past a i (by omega), getD_past b i (by omega)]; cases c <;> rfl
      obtain ⟨r, hr, hv, hl⟩ := plus_loop a b d (out ++ [(a.getD i false != b.getD i false) != c]) (maj (a.getD i false) (b.getD i false) c) (i + 1) (by simp [ho]) (by omega) (by omega) hc' hm
      refine ⟨r, Ev.step (fun k => ?_) hr, ?_, hl⟩
      · rw [plus_step a b out c i (by omega) (by omega), if_pos h]
      · rw [hv, val_snoc, ho, val_drop a i, val_drop b i, Nat.pow_succ]
        have := add3 (a.getD i false) (b.getD i false) c
        generalize bit ((a.getD i false != b.getD i false) != c) = z at *
        generalize bit (maj (a.getD i false) (b.getD i false) c) = m at *
        have e : bit (a.getD i false) + 2 * val (a.drop (i + 1)) + (bit (b.getD i false) + 2 * val (b.drop (i + 1))) + bit c = z + 2 * (val (a.drop (i + 1)) + val (b.drop (i + 1)) + m) := by omega
        rw [e, Nat.mul_assoc (2 ^ i) 2, Nat.mul_add (2 ^ i) z]; omega
    · refine ⟨out, Ev.step (f := fun _ => some out) (fun k => ?_) (Ev.now _), ?_, by omega⟩
      · rw [plus_step a b out c i (by omega) (by omega), if_neg h]
      · have hcf : c = false := by cases c; rfl; simp at h
        rw [List.drop_eq_nil_of_le (by omega), List.drop_eq_nil_of_le (by omega), hcf]
        simp [val, bit]
theorem plus_ev (a b : List Bool) (ha : a.length ≤ 100000) (hb : b.length ≤ 100000) : ∃ r, Ev (fun k => astrolaberef01_plus.f k a b) r ∧ val r = val a + val b ∧ r.length ≤ max a.length b.length + 1 := by
  obtain ⟨r, hr, hv, hl⟩ := plus_loop a b _ [] false 0 rfl (Nat.le_refl _) (by omega) (by omega) (by omega)
  exact ⟨r, hr, by simpa [val, bit] using hv, hl⟩

def bor (x y c : Bool) : Bool := !x && (y || c) || y && c
theorem sub3 (x y c : Bool) : bit ((x != y) != c) + bit y + bit c = bit x + 2 * bit (bor x y c) := by cases x <;> cases y <;> cases c <;> rfl
theorem minus_step (a b out : List Bool) (c : Bool) (i : Nat) (ho : out.length < 140737488355328) (hi : i < 9223372036854775807) (k : Nat) :
    astrolaberef01_minus.l0 (k + 1) a b out c (i : Int) = if i < a.length then astrolaberef01_minus.l0 k a b (out ++ [(a.getD i false != b.getD i false) != c]) (bor (a.getD i false) (b.getD i false) c) ((i + 1 : Nat) : Int) else (astrolaberef01_trim.f k out).bind fun t => some t := by
  have w : wrap64 ((i : Int) + 1) = ((i + 1 : Nat) : Int) := by rw [wrap_in (by omega) (by omega)]; omega
  simp only [astrolaberef01_minus.l0, rdOf_getD, w, Option.bind_some]
  have pb := getD_past b i
  generalize a.getD i false = x at *
  generalize b.getD i false = y at *
  by_cases ha : i < a.length
  · rw [if_pos (show (i : Int) < a.length by omega), if_pos ha]
    by_cases hb : i < b.length
    · rw [if_pos (show (i : Int) < b.length by omega), if_pos (show (0 : Int) ≤ i by omega), if_pos ho]
      cases x <;> cases y <;> cases c <;> rfl
    · rw [if_neg (show ¬ (i : Int) < b.length by omega), if_pos (show (0 : Int) ≤ i by omega), if_pos ho, pb hb]
      cases x <;> cases c <;> rfl
  · rw [if_neg (show ¬ (i : Int) < a.length by omega), if_neg ha]
theorem minus_loop (a b : List Bool) (hle : val b ≤ val a) (hm : a.length < 140737488355328) : ∀ (d : Nat) (out : List Bool) (c : Bool) (i : Nat), out.length = i → a.length - i ≤ d → i ≤ a.length →
    val out + 2 ^ i * val (a.drop i) + val b = val a + 2 ^ i * (val (b.drop i) + bit c) →
    ∃ r, Ev (fun k => astrolaberef01_minus.l0 k a b out c (i : Int)) r ∧ val r + val b = val a ∧ r.length ≤ a.length
  | d, out, c, i, ho, hd, hi, hv => by
    by_cases h : i < a.length
    · obtain ⟨d, rfl⟩ : ∃ d', d = d' + 1 := ⟨d - 1, by omega⟩
      have hv' : val (out ++ [(a.getD i false != b.getD i false) != c]) + 2 ^ (i + 1) * val (a.drop (i + 1)) + val b = val a + 2 ^ (i + 1) * (val (b.drop (i + 1)) + bit (bor (a.getD i false) (b.getD i false) c)) := by
        rw [val_drop a i, val_drop b i] at hv
        rw [val_snoc, ho, Nat.pow_succ]
        have := sub3 (a.getD i false) (b.getD i false) c
        generalize bit ((a.getD i false != b.getD i false) != c) = z at *
        generalize bit (bor (a.getD i false) (b.getD i false) c) = m at *
        generalize bit (a.getD i false) = p at *
        generalize bit (b.getD i false) = q at *
        generalize bit c = s at *
        generalize val (a.drop (i + 1)) = A at *
        generalize val (b.drop (i + 1)) = B at *
        generalize 2 ^ i = P at *
        rw [Nat.mul_assoc, Nat.mul_assoc]
        simp only [Nat.mul_add] at *
        have e : P * z + P * q + P * s = P * p + P * (2 * m) := by rw [← Nat.mul_add, ← Nat.mul_add, ← Nat.mul_add, this]
        omega
      obtain ⟨r, hr, h1, h2⟩ := minus_loop a b hle hm d (out ++ [(a.getD i false != b.getD i false) != c]) (bor (a.getD i false) (b.getD i false) c) (i + 1) (by simp [ho]) (by omega) (by omega) hv'
      exact ⟨r, Ev.step (fun k => by rw [minus_step a b out c i (by omega) (by omega), if_pos h]) hr, h1, h2⟩
    · have e : i = a.length := by omega
      refine ⟨tr out, Ev.step (fun k => by rw [minus_step a b out c i (by omega) (by omega), if_neg h]) (Ev.bind (trim_ev out (by omega)) (Ev.now _)), ?_, by have := tr_length_le out; omega⟩
      rw [tr_val]
      rw [List.drop_eq_nil_of_le (show a.length ≤ i by omega)] at hv
      have hlt := val_lt out
      rw [ho] at hlt
      generalize val (b.drop i) + bit c = z at *
      have hz : z = 0 := by
        rcases Nat.eq_zero_or_pos z with h0 | h0
        · exact h0
        · have : 2 ^ i * 1 ≤ 2 ^ i * z := Nat.mul_le_mul_left _ h0
          simp [val] at hv; omega
      subst hz
      simpa [val] using hv
theorem minus_ev (a b : List Bool) (hle : val b ≤ val a) (ha : a.length ≤ 100000) : ∃ r, Ev (fun k => astrolaberef01_minus.f k a b) r ∧ val r + val b = val a ∧ r.length ≤ a.length := by
  obtain ⟨r, hr, hv, hl⟩ := minus_loop a b hle (by omega) _ [] false 0 rfl (Nat.le_refl _) (by omega) (by simp [val, bit])
  exact ⟨r, hr, hv, hl⟩
end Go.Proofs.Ythgnpmchhikchaa.Q
