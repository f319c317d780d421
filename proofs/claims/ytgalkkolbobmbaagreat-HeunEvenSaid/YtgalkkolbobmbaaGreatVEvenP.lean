/- HeunEven, the plain part: what the object's pieces make; means of the same slopes are the slopes. -/
import Derived.Test.YtgalkkolbobmbaaGreatVHeun
import Derived.Test.YtgalkkolbobmbaaGreatVMul
import Derived.Test.YtgalkkolbobmbaaGreatV6
namespace Go.Proofs.YtgalkkolbobmbaaGreat.V
open Go.RowKit Go.Proofs.YtgalkkolbobmbaaGreatW.PrintWords Go.Proofs.YtgalkkolbobmbaaGreatW.PrintLast Go.Proofs.YtgalkkolbobmbaaGreatW.PrintMore
set_option linter.unusedVariables false
set_option linter.unusedSimpArgs false

/-- The object's Deriv: each slope, put. -/
def insTo (ks : List Int) : Nat → List S49
  | 0 => []
  | n + 1 => insTo ks n ++ [⟨1, (n : Int), 0, 0, 0, rd ks (n : Int)⟩, ⟨20, (n : Int), (n : Int), 0, 0, 0⟩]
theorem insTo_length (ks : List Int) : ∀ n, (insTo ks n).length = 2 * n
  | 0 => rfl
  | n + 1 => by simp [insTo, insTo_length ks n]; omega
theorem rdT_append_left {a b : List S49} {i : Nat} (h : i < a.length) : rd_T49 (a ++ b) (i : Int) = rd_T49 a (i : Int) := by
  unfold rd_T49
  simp [List.getD, List.getElem?_append_left h]
theorem rdT_append_right {a b : List S49} {i : Nat} : rd_T49 (a ++ b) ((a.length + i : Nat) : Int) = rd_T49 b (i : Int) := by
  unfold rd_T49
  rw [Int.toNat_natCast, Int.toNat_natCast]
  simp [List.getD, List.getElem?_append_right]
theorem insTo_at (ks : List Int) (i : Nat) : ∀ n, i < n → rd_T49 (insTo ks n) ((2 * i : Nat) : Int) = ⟨1, (i : Int), 0, 0, 0, rd ks (i : Int)⟩ ∧ rd_T49 (insTo ks n) ((2 * i + 1 : Nat) : Int) = ⟨20, (i : Int), (i : Int), 0, 0, 0⟩
  | 0, h => absurd h (by omega)
  | n + 1, h => by
    have hl := insTo_length ks n
    by_cases e : i = n
    · subst e
      unfold insTo
      have e1 : (2 * i : Nat) = (insTo ks i).length + 0 := by omega
      have e2 : (2 * i + 1 : Nat) = (insTo ks i).length + 1 := by omega
      refine ⟨?_, ?_⟩
      · rw [show ((2 * i : Nat) : Int) = (((insTo ks i).length + 0 : Nat) : Int) from congrArg Int.ofNat e1, rdT_append_right]
        rfl
      · rw [show ((2 * i + 1 : Nat) : Int) = (((insTo ks i).length + 1 : Nat) : Int) from congrArg Int.ofNat e2, rdT_append_right]
        rfl
    · have ih := insTo_at ks i n (by omega)
      unfold insTo
      rw [rdT_append_left (by omega), rdT_append_left (by omega)]
      exact ih
/-- No operators: the pieces here ask for none. -/
def O0 : Int → Int → Int → Int → Option (Int × Int) := fun _ _ _ _ => none
theorem opsFor0 (cs : Array Value) : OpsFor cs O0 := fun w0 S _ _ op a b c q1 q2 _ h => by cases h
theorem rd_set {l : List Int} {i : Nat} {v : Int} (h : i < l.length) : rd (l.set i v) (i : Int) = v := by
  unfold rd
  simp [List.getD, h]
theorem at_set (l : List Int) (i : Nat) (v : Int) (h : i < l.length) : atV (l.set i v) (i : Int) = some v := by
  unfold atV
  have hl : (l.set i v).length = l.length := List.length_set ..
  rw [if_pos (by omega), if_neg (by omega), rd_set h]
def kRow (ks : List Int) (L i : Nat) : List Int := tabRow (ks.take i) L
theorem runV_succ (O : Int → Int → Int → Int → Option (Int × Int)) (inn st mem : List Int) (raised : List Bool) (l : List S49) (k : Nat) (pc dn : Int) (s : RS) : runV O inn st mem raised l (k + 1) pc dn s = if pc < (l.length : Int) then (if 0 ≤ pc then (stepV O inn st mem raised (rd_T49 l pc) pc s).bind fun r => runV O inn st mem raised l k (wrap64 (r.1 + 1)) (wrap64 (dn + 1)) r.2 else none) else some (s, dn) := rfl
theorem run_from (ks st : List Int) (nr : Nat) (hn : ks.length ≤ nr) (hL : ks.length ≤ 1000) : ∀ (d i : Nat), i + d = ks.length → ∀ (regs : List Int), regs.length = nr → ∀ (dn : Int),
    ∃ r dn', runV O0 [] st [] [] (insTo ks ks.length) (2 * d + 1) ((2 * i : Nat) : Int) dn ⟨regs, 0, kRow ks ks.length i, [], []⟩ = some (⟨r, 0, ks, [], []⟩, dn')
  | 0, i, hi, regs, hr, dn => by
    obtain rfl : i = ks.length := by omega
    refine ⟨regs, dn, ?_⟩
    have hl := insTo_length ks ks.length
    simp only [runV]
    rw [if_neg (by omega)]
    have e : kRow ks ks.length ks.length = ks := by unfold kRow; rw [List.take_length]; exact tabRow_full ks
    rw [e]
  | d + 1, i, hi, regs, hr, dn => by
    obtain ⟨a1, a2⟩ := insTo_at ks i ks.length (by omega)
    have hl := insTo_length ks ks.length
    have hk : (kRow ks ks.length i).length = ks.length := tabRow_length _ _ (by simp; omega)
    obtain ⟨r, dn', ih⟩ := run_from ks st nr hn hL d (i + 1) (by omega) (regs.set i (rd ks (i : Int))) (by rw [List.length_set]; exact hr) (wrap64 (wrap64 (dn + 1) + 1))
    refine ⟨r, dn', ?_⟩
    have hw1 : wrap64 (((2 * i : Nat) : Int) + 1) = ((2 * i + 1 : Nat) : Int) := by rw [wrap_in (by omega) (by omega)]; omega
    have hw2 : wrap64 (((2 * i + 1 : Nat) : Int) + 1) = ((2 * (i + 1) : Nat) : Int) := by rw [wrap_in (by omega) (by omega)]; omega
    have s1 : stepV O0 [] st [] [] ⟨1, (i : Int), 0, 0, 0, rd ks (i : Int)⟩ ((2 * i : Nat) : Int) ⟨regs, 0, kRow ks ks.length i, [], []⟩ = some (((2 * i : Nat) : Int), ⟨regs.set i (rd ks (i : Int)), 0, kRow ks ks.length i, [], []⟩) := by
      unfold stepV loadV
      dsimp only
      rw [if_neg (by decide), if_neg (by decide), if_neg (by decide), if_neg (by decide), if_pos rfl, Option.bind_some]
      dsimp only
      rw [if_pos rfl]
      unfold setI
      rw [if_pos ⟨by omega, by omega⟩, Int.toNat_natCast, Option.bind_some]
    have s2 : stepV O0 [] st [] [] ⟨20, (i : Int), (i : Int), 0, 0, 0⟩ ((2 * i + 1 : Nat) : Int) ⟨regs.set i (rd ks (i : Int)), 0, kRow ks ks.length i, [], []⟩ = some (((2 * i + 1 : Nat) : Int), ⟨regs.set i (rd ks (i : Int)), 0, kRow ks ks.length (i + 1), [], []⟩) := by
      unfold stepV
      dsimp only
      rw [if_neg (by decide), if_pos rfl, at_set regs i _ (by omega), Option.bind_some]
      unfold setI
      rw [if_pos ⟨by omega, by omega⟩, Int.toNat_natCast]
      have e : (kRow ks ks.length i).set i (rd ks (i : Int)) = kRow ks ks.length (i + 1) := by
        unfold kRow
        have ht : (ks.take i).length = i := by simp; omega
        have h1 := tabRow_set (ks.take i) ks.length (rd ks (i : Int)) (by omega)
        rw [ht] at h1
        rw [h1]
        congr 1
        unfold rd
        rw [Int.toNat_natCast, List.take_succ_eq_append_getElem (by omega)]
        simp [List.getD, show i < ks.length by omega]
      rw [e]
      rfl
    rw [show 2 * (d + 1) + 1 = (2 * d + 1 + 1) + 1 by omega, runV_succ, if_pos (by omega), if_pos (by omega), a1, s1, Option.bind_some]
    dsimp only
    rw [hw1, runV_succ, if_pos (by omega), if_pos (by omega), a2, s2, Option.bind_some]
    dsimp only
    rw [hw2]
    exact ih
theorem run_all (ks st : List Int) (nr : Nat) (hn : ks.length ≤ nr) (hL : ks.length ≤ 1000) (dn : Int) :
    ∃ s dn', runV O0 [] st [] [] (insTo ks ks.length) (2 * ks.length + 1) 0 dn ⟨List.replicate nr 0, 0, List.replicate ks.length 0, [], []⟩ = some (s, dn') ∧ s.put = ks ∧ s.fl = 0 := by
  obtain ⟨r, dn', h⟩ := run_from ks st nr hn hL ks.length 0 (by omega) (List.replicate nr 0) (by simp) dn
  refine ⟨⟨r, 0, ks, [], []⟩, dn', ?_, rfl, rfl⟩
  rw [show kRow ks ks.length 0 = List.replicate ks.length 0 by simp [kRow, tabRow]] at h
  exact h
/-- The registers that it asks for. -/
theorem regs_insTo (ks : List Int) : ∀ n, n ≤ 1000 → (insTo ks n).foldl regStep 0 = (n : Int)
  | 0, _ => rfl
  | n + 1, h => by
    unfold insTo
    rw [List.foldl_append, regs_insTo ks n (by omega)]
    simp only [List.foldl_cons, List.foldl_nil]
    have e1 : regStep (n : Int) ⟨1, (n : Int), 0, 0, 0, rd ks (n : Int)⟩ = ((n + 1 : Nat) : Int) := by
      unfold regStep
      simp [rIf, isD, isA, isB, isC]
      rw [wrap_in (by omega) (by omega)]
    rw [e1]
    unfold regStep
    simp [rIf, isD, isA, isB, isC]
    omega
theorem regsTo_insTo (ks : List Int) (n : Nat) (h : n ≤ 1000) : regsTo (four (insTo ks n) [] [] []) 4 = (n : Int) := by
  have e := regs_insTo ks n h
  simp only [regsTo, four, e, List.foldl_nil]
  split <;> split <;> (try split) <;> (try split) <;> omega
theorem right_const (L : Nat) (hL : L ≤ 40) (i : Nat) (hi : i < L) (v behind : Int) : rightB 0 0 L 0 0 0 ⟨1, (i : Int), 0, 0, 0, v⟩ behind = true := by
  unfold rightB
  simp [hereB, fieldB, placeD, placeA, placeB, belowB, isD, isA, isB, isC]
  omega
theorem right_put (L : Nat) (hL : L ≤ 40) (i : Nat) (hi : i < L) (behind : Int) : rightB 0 0 L 0 0 0 ⟨20, (i : Int), (i : Int), 0, 0, 0⟩ behind = true := by
  unfold rightB
  simp [hereB, fieldB, placeD, placeA, placeB, belowB, isD, isA, isB, isC]
  omega
theorem wrong_none (ks : List Int) (hL : ks.length ≤ 40) : ∀ m, m ≤ 2 * ks.length → wrongTo (rightB 0 0 ks.length 0 0) 0 (insTo ks ks.length) m = []
  | 0, _ => rfl
  | m + 1, h => by
    have hr : rightB 0 0 ks.length 0 0 0 (rd_T49 (insTo ks ks.length) (m : Int)) (((insTo ks ks.length).length : Int) - m - 1) = true := by
      obtain ⟨i, hi⟩ : ∃ i, m = 2 * i ∨ m = 2 * i + 1 := ⟨m / 2, by omega⟩
      obtain ⟨a1, a2⟩ := insTo_at ks i ks.length (by omega)
      rcases hi with rfl | rfl
      · rw [a1]; exact right_const ks.length hL i (by omega) _ _
      · rw [a2]; exact right_put ks.length hL i (by omega) _
    unfold wrongTo
    rw [wrong_none ks hL m (by omega), if_pos hr]
    rfl
theorem right_even (ks st : List Int) (hs : st.length = ks.length) (hL : ks.length ≤ 40) : rightO [] [] st [] 0 0 (insTo ks ks.length) [] [] [] = true := by
  have hl := insTo_length ks ks.length
  have hw : wrongPs (rightB 0 0 ks.length 0 0) (four (insTo ks ks.length) [] [] []) 4 = [] := by
    have h0 := wrong_none ks hL (2 * ks.length) (Nat.le_refl _)
    simp only [wrongPs, four, hl, List.length_nil, wrongTo, List.append_nil, List.nil_append]
    exact h0
  unfold rightO
  rw [hs]
  simp only [List.length_nil]
  rw [hw]
  simp [belowB, banksB, longB, hl]
  omega
/-! flags -/
theorem orB {p q : Int} (hp : p = 0 ∨ p = 1) (hq : q = 0 ∨ q = 1) : (Go.bits .or .i64 p q = 0 ∨ Go.bits .or .i64 p q = 1) ∧ (Go.bits .or .i64 p q = 0 ↔ p = 0 ∧ q = 0) := by
  rcases hp with rfl | rfl <;> rcases hq with rfl | rfl <;> decide +kernel
theorem satF (x : Int) : (sat x).2 = 0 ∨ (sat x).2 = 1 := by unfold sat; split; exact .inr rfl; split; exact .inr rfl; exact .inl rfl
theorem sat_of_flag {x : Int} (h : (sat x).2 = 0) : In64 x := by
  unfold sat at h
  split at h
  · simp at h
  · split at h
    · simp at h
    · exact ⟨by omega, by omega⟩
def mulV (a b : Int) : Int × Int := sat (sg ((decide (a < 0)) != (decide (b < 0))) (a.natAbs * b.natAbs / 4294967296))
def alongV (st sl : List Int) (h : Int) (n : Nat) : Int := (sat (rd st (n : Int) + (mulV h (rd sl (n : Int))).1)).1
def alongF (st sl : List Int) (h f0 : Int) : Nat → Int
  | 0 => f0
  | n + 1 => Go.bits .or .i64 (Go.bits .or .i64 (alongF st sl h f0 n) (mulV h (rd sl (n : Int))).2) (sat (rd st (n : Int) + (mulV h (rd sl (n : Int))).1)).2
def meanV (ks : List Int) (n : Nat) : Int := Int.tdiv (sat (rd ks (n : Int) + rd ks (n : Int))).1 2
def meanF (ks : List Int) (f0 : Int) : Nat → Int
  | 0 => f0
  | n + 1 => Go.bits .or .i64 (meanF ks f0 n) (sat (rd ks (n : Int) + rd ks (n : Int))).2
theorem alongF01 (st sl : List Int) (h f0 : Int) (h0 : f0 = 0 ∨ f0 = 1) : ∀ n, alongF st sl h f0 n = 0 ∨ alongF st sl h f0 n = 1
  | 0 => h0
  | n + 1 => (orB (orB (alongF01 st sl h f0 h0 n) (satF _)).1 (satF _)).1
theorem alongF_zero (st sl : List Int) (h f0 : Int) (h0 : f0 = 0 ∨ f0 = 1) : ∀ n, alongF st sl h f0 n = 0 → f0 = 0
  | 0, e => e
  | n + 1, e => alongF_zero st sl h f0 h0 n ((orB (alongF01 st sl h f0 h0 n) (satF _)).2.1 ((orB (orB (alongF01 st sl h f0 h0 n) (satF _)).1 (satF _)).2.1 e).1).1
theorem meanF01 (ks : List Int) (f0 : Int) (h0 : f0 = 0 ∨ f0 = 1) : ∀ n, meanF ks f0 n = 0 ∨ meanF ks f0 n = 1
  | 0 => h0
  | n + 1 => (orB (meanF01 ks f0 h0 n) (satF _)).1
theorem meanF_zero (ks : List Int) (f0 : Int) (h0 : f0 = 0 ∨ f0 = 1) : ∀ n, meanF ks f0 n = 0 → ∀ i, i < n → (sat (rd ks (i : Int) + rd ks (i : Int))).2 = 0
  | 0, _, i, hi => absurd hi (by omega)
  | n + 1, e, i, hi => by
    obtain ⟨e1, e2⟩ := (orB (meanF01 ks f0 h0 n) (satF _)).2.1 e
    by_cases c : i = n
    · rw [c]; exact e2
    · exact meanF_zero ks f0 h0 n e1 i (by omega)
theorem mean_same {ks : List Int} {i : Nat} (h : (sat (rd ks (i : Int) + rd ks (i : Int))).2 = 0) : meanV ks i = rd ks (i : Int) := by
  unfold meanV
  rw [sat_in _ (sat_of_flag h)]
  show Int.tdiv (rd ks (i : Int) + rd ks (i : Int)) 2 = _
  rw [show rd ks (i : Int) + rd ks (i : Int) = rd ks (i : Int) * 2 by omega]
  exact Int.mul_tdiv_cancel _ (by decide)
theorem rd_tab (V : Nat → Int) (i : Nat) : ∀ n, i < n → rd (tabV V n) (i : Int) = V i
  | 0, h => absurd h (by omega)
  | n + 1, h => by
    have hl := tabV_length V n
    by_cases e : i = n
    · subst e
      unfold rd tabV
      simp [List.getD, hl]
    · have ih := rd_tab V i n (by omega)
      unfold rd at ih ⊢
      unfold tabV
      rw [← ih]
      simp [List.getD, List.getElem?_append_left (show i < (tabV V n).length by omega)]
theorem tab_congr {V W : Nat → Int} : ∀ n, (∀ i, i < n → V i = W i) → tabV V n = tabV W n
  | 0, _ => rfl
  | n + 1, h => by unfold tabV; rw [tab_congr n (fun i hi => h i (by omega)), h n (by omega)]
/-- Where nothing is held, both steps are the same. -/
theorem even_same (st ks : List Int) (h : Int) (hl : st.length = ks.length) (f0 : Int) (h0 : f0 = 0 ∨ f0 = 1)
    (hz : alongF st (tabV (meanV ks) st.length) h (meanF ks f0 st.length) st.length = 0) : tabV (alongV st (tabV (meanV ks) st.length) h) st.length = tabV (alongV st ks h) st.length := by
  have hm := alongF_zero st _ h _ (meanF01 ks f0 h0 st.length) _ hz
  refine tab_congr _ (fun i hi => ?_)
  unfold alongV
  rw [rd_tab _ _ _ hi, mean_same (meanF_zero ks f0 h0 st.length hm i hi)]
theorem in64_at {l : List Int} (h : ∀ x ∈ l, (Lit.int .i64 x).wf = true) (n : Nat) (hn : n < l.length) : In64 (rd l (n : Int)) := by
  unfold rd
  have e : l.getD (n : Int).toNat 0 = l[n] := by simp [List.getD, hn]
  rw [e]
  exact in64_of (h _ (List.getElem_mem hn))
/-- along's numbers are fixq's. -/
theorem along_ok (st sl : List Int) (h f0 : Int) (hs : ∀ n, n < st.length → In64 (rd st (n : Int))) (hk : ∀ n, n < st.length → In64 (rd sl (n : Int))) (hh : In64 h) (n : Nat) (hn : n < st.length) :
    ∃ KM m f1 f2, fixq_Mul.f KM h (rd sl (n : Int)) = some (m, f1) ∧ fixq_Add.f (rd st (n : Int)) m = some (alongV st sl h n, f2) ∧ alongF st sl h f0 (n + 1) = Go.bits .or .i64 (Go.bits .or .i64 (alongF st sl h f0 n) f1) f2 := by
  obtain ⟨KM, hK⟩ := Ev.rounds (mul_eq h (rd sl (n : Int)) hh (hk n hn))
  exact ⟨KM, (mulV h (rd sl (n : Int))).1, (mulV h (rd sl (n : Int))).2, (sat (rd st (n : Int) + (mulV h (rd sl (n : Int))).1)).2, hK, add_eq _ _ (hs n hn) (sat_bd _), rfl⟩
theorem mean_ok (ks : List Int) (f0 : Int) (n : Nat) (hk : In64 (rd ks (n : Int))) :
    ∃ a f, fixq_Add.f (rd ks (n : Int)) (rd ks (n : Int)) = some (a, f) ∧ -9223372036854775808 ≤ a ∧ a ≤ 9223372036854775807 ∧ meanV ks n = Int.tdiv a 2 ∧ meanF ks f0 (n + 1) = Go.bits .or .i64 (meanF ks f0 n) f :=
  ⟨(sat (rd ks (n : Int) + rd ks (n : Int))).1, (sat (rd ks (n : Int) + rd ks (n : Int))).2, add_eq _ _ hk hk, (sat_bd _).1, (sat_bd _).2, rfl, rfl⟩
theorem mean_in (ks : List Int) (n : Nat) : In64 (meanV ks n) := by
  unfold meanV
  obtain ⟨h1, h2⟩ := sat_bd (rd ks (n : Int) + rd ks (n : Int))
  generalize (sat (rd ks (n : Int) + rd ks (n : Int))).1 = x at h1 h2
  by_cases h0 : 0 ≤ x
  · rw [Int.tdiv_eq_ediv_of_nonneg h0]
    exact ⟨by omega, by omega⟩
  · have e : x.tdiv 2 = -((-x) / 2) := by rw [← Int.tdiv_eq_ediv_of_nonneg (by omega), Int.neg_tdiv, Int.neg_neg]
    rw [e]
    exact ⟨by omega, by omega⟩
end Go.Proofs.YtgalkkolbobmbaaGreat.V
