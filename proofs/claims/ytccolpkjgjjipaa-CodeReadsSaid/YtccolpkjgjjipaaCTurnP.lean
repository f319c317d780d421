/- An object's bytes, cut off or one of them turned, are none's: plainly. -/
import Derived.Test.YtccolpkjgjjipaaCRefI
import Derived.Test.YtccolpkjgjjipaaCObject
import Derived.Laws.Strings
namespace Go.Proofs.Ytccolpkjgjjipaa.K
set_option linter.unusedVariables false
set_option linter.unusedSimpArgs false
open Go.RowKit Go.Proofs.YtccolpkjgjjipaaW.PrintWords
theorem sameB_eq : ∀ {xs ys : List Int}, Byt xs → Byt ys → sameB xs ys = true → xs = ys := by
  intro xs ys hx hy h
  unfold sameB at h
  rw [beq_iff_eq] at h
  have h1 : ∀ zs : List Int, (strOfNums zs).toList = zs.map fun n => UInt8.ofNat n.toNat := fun zs => by
    rw [← strOfNums_data, ByteArray.toList_eq]
  rw [h1, h1] at h
  induction xs generalizing ys with
  | nil => cases ys with
    | nil => rfl
    | cons y ys => simp at h
  | cons x xs ih => cases ys with
    | nil => simp at h
    | cons y ys =>
      simp only [List.map_cons, List.cons.injEq] at h
      obtain ⟨x0, x1⟩ := hx x List.mem_cons_self
      obtain ⟨y0, y1⟩ := hy y List.mem_cons_self
      have e := congrArg UInt8.toNat h.1
      rw [UInt8.toNat_ofNat', UInt8.toNat_ofNat'] at e
      rw [ih hx.tail hy.tail h.2, show x = y by omega]
theorem vB_ge {k : Nat} {u : Int} (h : u ≥ 128) : vB (k + 1) u = (u % 128 + 128) :: vB k (u / 128) := by rw [vB, if_pos h]
theorem vB_lt {k : Nat} {u : Int} (h : ¬ u ≥ 128) : vB (k + 1) u = [u] := by rw [vB, if_neg h]
/-- Self-delimiting: what is written tells where it ends. -/
theorem vB_pf : ∀ (k : Nat) (u v : Int) (r s : List Int), 0 ≤ u → u < 128 ^ (k + 1) → 0 ≤ v → v < 128 ^ (k + 1) → vB (k + 1) u ++ r = vB (k + 1) v ++ s → u = v ∧ r = s
  | 0, u, v, r, s, u0, u1, v0, v1, h => by
    have hu : u < 128 := by simpa using u1
    have hv : v < 128 := by simpa using v1
    rw [vB_lt (by omega), vB_lt (by omega)] at h
    simpa using h
  | k + 1, u, v, r, s, u0, u1, v0, v1, h => by
    have h2 : u / 128 < 128 ^ (k + 1) := by
      rw [Int.pow_succ] at u1
      exact Int.ediv_lt_of_lt_mul (by omega) u1
    have h3 : v / 128 < 128 ^ (k + 1) := by
      rw [Int.pow_succ] at v1
      exact Int.ediv_lt_of_lt_mul (by omega) v1
    by_cases hu : u ≥ 128
    · by_cases hv : v ≥ 128
      · rw [vB_ge hu, vB_ge hv, List.cons_append, List.cons_append, List.cons.injEq] at h
        obtain ⟨e1, e2⟩ := vB_pf k (u / 128) (v / 128) r s (by omega) h2 (by omega) h3 h.2
        exact ⟨by omega, e2⟩
      · rw [vB_ge hu, vB_lt hv, List.cons_append, List.cons_append, List.cons.injEq] at h
        omega
    · by_cases hv : v ≥ 128
      · rw [vB_lt hu, vB_ge hv, List.cons_append, List.cons_append, List.cons.injEq] at h
        omega
      · rw [vB_lt hu, vB_lt hv, List.cons_append, List.cons_append, List.cons.injEq] at h
        exact ⟨h.1, by simpa using h.2⟩
theorem numB_pf {a b : Int} {r s : List Int} (h : numB a ++ r = numB b ++ s) : zg a = zg b ∧ r = s := by
  have ha := zg_range a
  have hb := zg_range b
  exact vB_pf 9 (zg a) (zg b) r s ha.1 (by omega) hb.1 (by omega) h
theorem zg_nat {m n : Nat} (hm : m ≤ 9223372036854775806) (hn : n ≤ 9223372036854775806) (h : zg (m : Int) = zg (n : Int)) : m = n := by
  rw [zg_zz (in64_len hm), zg_zz (in64_len hn)] at h
  unfold zz at h
  rw [if_pos (by omega), if_pos (by omega)] at h
  omega
theorem flat_pf {α : Type} {f : α → List Int} (hf : ∀ a b r s, f a ++ r = f b ++ s → f a = f b ∧ r = s) : ∀ (l m : List α) (r s : List Int), l.length = m.length → l.flatMap f ++ r = m.flatMap f ++ s → l.flatMap f = m.flatMap f ∧ r = s
  | [], [], r, s, _, h => ⟨rfl, by simpa using h⟩
  | a :: l, b :: m, r, s, hl, h => by
    rw [List.flatMap_cons, List.flatMap_cons, List.append_assoc, List.append_assoc] at h
    obtain ⟨e1, e2⟩ := hf a b _ _ h
    obtain ⟨e3, e4⟩ := flat_pf hf l m r s (by simpa using hl) e2
    rw [List.flatMap_cons, List.flatMap_cons, e1, e3]
    exact ⟨rfl, e4⟩
theorem num_pf {a b : Int} {r s : List Int} (h : numB a ++ r = numB b ++ s) : numB a = numB b ∧ r = s := by
  obtain ⟨e1, e2⟩ := numB_pf h
  exact ⟨by unfold numB; rw [e1], e2⟩
theorem list_pf {l m : List Int} {r s : List Int} (hl : l.length ≤ 9223372036854775806) (hm : m.length ≤ 9223372036854775806) (h : listB l ++ r = listB m ++ s) : listB l = listB m ∧ r = s := by
  unfold listB at h ⊢
  rw [List.append_assoc, List.append_assoc] at h
  obtain ⟨e1, e2⟩ := numB_pf h
  have e3 := zg_nat hl hm e1
  obtain ⟨e4, e5⟩ := flat_pf (fun a b r s h => num_pf h) l m r s e3 e2
  exact ⟨by rw [e3, e4], e5⟩
theorem ins_pf {x y : S47} {r s : List Int} (h : insB x ++ r = insB y ++ s) : insB x = insB y ∧ r = s := by
  unfold insB at h ⊢
  simp only [List.append_assoc] at h
  obtain ⟨e0, h⟩ := num_pf h
  obtain ⟨e1, h⟩ := num_pf h
  obtain ⟨e2, h⟩ := num_pf h
  obtain ⟨e3, h⟩ := num_pf h
  obtain ⟨e4, h⟩ := num_pf h
  obtain ⟨e5, h⟩ := num_pf h
  exact ⟨by rw [e0, e1, e2, e3, e4, e5], h⟩
theorem piece_pf {l m : List S47} {r s : List Int} (hl : l.length ≤ 9223372036854775806) (hm : m.length ≤ 9223372036854775806) (h : pieceB l ++ r = pieceB m ++ s) : pieceB l = pieceB m ∧ r = s := by
  unfold pieceB at h ⊢
  rw [List.append_assoc, List.append_assoc] at h
  obtain ⟨e1, e2⟩ := numB_pf h
  have e3 := zg_nat hl hm e1
  obtain ⟨e4, e5⟩ := flat_pf (fun a b r s h => ins_pf h) l m r s e3 e2
  exact ⟨by rw [e3, e4], e5⟩
def obBody (o : OB) : List Int := bodyB o.1 o.2.1 o.2.2.1 o.2.2.2.1 o.2.2.2.2.1 o.2.2.2.2.2.1 o.2.2.2.2.2.2.1 o.2.2.2.2.2.2.2.1 o.2.2.2.2.2.2.2.2.1 o.2.2.2.2.2.2.2.2.2
def obSmall (o : OB) : Prop := o.1.length ≤ 9223372036854775806 ∧ o.2.1.length ≤ 9223372036854775806 ∧ o.2.2.1.length ≤ 9223372036854775806 ∧ o.2.2.2.1.length ≤ 9223372036854775806 ∧ o.2.2.2.2.2.2.1.length ≤ 9223372036854775806 ∧ o.2.2.2.2.2.2.2.1.length ≤ 9223372036854775806 ∧ o.2.2.2.2.2.2.2.2.1.length ≤ 9223372036854775806 ∧ o.2.2.2.2.2.2.2.2.2.length ≤ 9223372036854775806
theorem obBytes_eq (o : OB) : obBytes o = obBody o ++ tailB (sumB (obBody o)) := rfl
theorem body_pf {o p : OB} {r s : List Int} (ho : obSmall o) (hp : obSmall p) (h : obBody o ++ r = obBody p ++ s) : obBody o = obBody p ∧ r = s := by
  obtain ⟨o0, o1, o2, o3, o4, o5, o6, o7, o8, o9⟩ := o
  obtain ⟨p0, p1, p2, p3, p4, p5, p6, p7, p8, p9⟩ := p
  obtain ⟨a0, a1, a2, a3, a6, a7, a8, a9⟩ := ho
  obtain ⟨b0, b1, b2, b3, b6, b7, b8, b9⟩ := hp
  simp only [obBody, bodyB, headB] at h ⊢
  simp only [List.append_assoc] at h
  have h := List.append_cancel_left h
  obtain ⟨e0, h⟩ := list_pf a0 b0 h
  obtain ⟨e1, h⟩ := list_pf a1 b1 h
  obtain ⟨e2, h⟩ := list_pf a2 b2 h
  obtain ⟨e3, h⟩ := list_pf a3 b3 h
  obtain ⟨e4, h⟩ := num_pf h
  obtain ⟨e5, h⟩ := num_pf h
  obtain ⟨e6, h⟩ := piece_pf a6 b6 h
  obtain ⟨e7, h⟩ := piece_pf a7 b7 h
  obtain ⟨e8, h⟩ := piece_pf a8 b8 h
  obtain ⟨e9, h⟩ := piece_pf a9 b9 h
  exact ⟨by rw [e0, e1, e2, e3, e4, e5, e6, e7, e8, e9], h⟩
/-- No object's bytes begin another's. -/
theorem bytes_pf {o p : OB} {r : List Int} (ho : obSmall o) (hp : obSmall p) (h : obBytes o ++ r = obBytes p) : r = [] := by
  rw [obBytes_eq, obBytes_eq, List.append_assoc] at h
  obtain ⟨e, h⟩ := body_pf ho hp h
  have := congrArg List.length h
  rw [List.length_append] at this
  have h4 : ∀ s, (tailB s).length = 4 := fun _ => rfl
  rw [h4, h4] at this
  exact List.eq_nil_of_length_eq_zero (by omega)
theorem u32_mod (n : Int) : IntKind.u32.wrap n = n % 4294967296 := by simp [IntKind.wrap, IntKind.bits, IntKind.signed]
theorem xor32 (x c : Int) : Go.bits .xor .u32 x c = ((BitVec.ofInt 32 x ^^^ BitVec.ofInt 32 c).toNat : Int) := by
  have h := (BitVec.ofInt 32 x ^^^ BitVec.ofInt 32 c).isLt
  unfold Go.bits
  simp only []
  rw [u32_mod]
  have e : IntKind.u32.bits = 32 := rfl
  rw [e]
  omega
theorem xor_range (x c : Int) : 0 ≤ Go.bits .xor .u32 x c ∧ Go.bits .xor .u32 x c < 4294967296 := by
  have h := (BitVec.ofInt 32 x ^^^ BitVec.ofInt 32 c).isLt
  rw [xor32]
  omega
theorem ofInt_inj {x y : Int} (hx0 : 0 ≤ x) (hx : x < 4294967296) (hy0 : 0 ≤ y) (hy : y < 4294967296) (h : BitVec.ofInt 32 x = BitVec.ofInt 32 y) : x = y := by
  have := congrArg BitVec.toNat h
  rw [BitVec.toNat_ofInt, BitVec.toNat_ofInt] at this
  omega
theorem xor_inj {x y c : Int} (hx0 : 0 ≤ x) (hx : x < 4294967296) (hy0 : 0 ≤ y) (hy : y < 4294967296) (h : Go.bits .xor .u32 x c = Go.bits .xor .u32 y c) : x = y := by
  rw [xor32, xor32] at h
  have h2 : BitVec.ofInt 32 x ^^^ BitVec.ofInt 32 c = BitVec.ofInt 32 y ^^^ BitVec.ofInt 32 c := BitVec.eq_of_toNat_eq (by exact_mod_cast h)
  exact ofInt_inj hx0 hx hy0 hy ((BitVec.xor_left_inj _).1 h2)
theorem xor_inj2 {x c d : Int} (hc0 : 0 ≤ c) (hc : c < 4294967296) (hd0 : 0 ≤ d) (hd : d < 4294967296) (h : Go.bits .xor .u32 x c = Go.bits .xor .u32 x d) : c = d := by
  rw [xor32, xor32] at h
  have h2 : BitVec.ofInt 32 x ^^^ BitVec.ofInt 32 c = BitVec.ofInt 32 x ^^^ BitVec.ofInt 32 d := BitVec.eq_of_toNat_eq (by exact_mod_cast h)
  exact ofInt_inj hc0 hc hd0 hd ((BitVec.xor_right_inj _).1 h2)
theorem mul_inv (z : Int) : z * 16777619 % 4294967296 * 899433627 % 4294967296 = z % 4294967296 := by
  rw [Int.mul_emod, Int.emod_emod, ← Int.mul_emod, Int.mul_assoc, show (16777619 : Int) * 899433627 = 1 + 4294967296 * 3513497 by decide, Int.mul_add, Int.mul_one, ← Int.mul_assoc, Int.mul_comm z 4294967296, Int.mul_assoc, Int.add_mul_emod_self_left]
theorem mul_inj {a b : Int} (ha0 : 0 ≤ a) (ha : a < 4294967296) (hb0 : 0 ≤ b) (hb : b < 4294967296) (h : a * 16777619 % 4294967296 = b * 16777619 % 4294967296) : a = b := by
  have h2 : a * 16777619 % 4294967296 * 899433627 % 4294967296 = b * 16777619 % 4294967296 * 899433627 % 4294967296 := by rw [h]
  rw [mul_inv, mul_inv, Int.emod_eq_of_lt ha0 ha, Int.emod_eq_of_lt hb0 hb] at h2
  exact h2
theorem step_inj {x y c : Int} (hx0 : 0 ≤ x) (hx : x < 4294967296) (hy0 : 0 ≤ y) (hy : y < 4294967296) (h : sumStep x c = sumStep y c) : x = y :=
  xor_inj hx0 hx hy0 hy (mul_inj (xor_range _ _).1 (xor_range _ _).2 (xor_range _ _).1 (xor_range _ _).2 h)
theorem step_inj2 {x c d : Int} (hc0 : 0 ≤ c) (hc : c < 256) (hd0 : 0 ≤ d) (hd : d < 256) (h : sumStep x c = sumStep x d) : c = d := by
  have h2 := xor_inj2 (by omega) (by omega) (by omega) (by omega) (mul_inj (xor_range _ _).1 (xor_range _ _).2 (xor_range _ _).1 (xor_range _ _).2 h)
  omega
theorem fold_inj : ∀ (l : List Int) {x y : Int}, 0 ≤ x → x < 4294967296 → 0 ≤ y → y < 4294967296 → l.foldl sumStep x = l.foldl sumStep y → x = y
  | [], x, y, _, _, _, _, h => h
  | c :: l, x, y, x0, x1, y0, y1, h => by
    rw [List.foldl_cons, List.foldl_cons] at h
    exact step_inj x0 x1 y0 y1 (fold_inj l (sumStep_range _ _).1 (sumStep_range _ _).2 (sumStep_range _ _).1 (sumStep_range _ _).2 h)
theorem sum_set {l : List Int} (hl : Byt l) {i : Nat} (hi : i < l.length) {c : Int} (hc0 : 0 ≤ c) (hc : c < 256) (h : sumB (l.set i c) = sumB l) : c = l[i] := by
  have hb := hl _ (List.getElem_mem hi)
  unfold sumB at h
  have e1 : l = l.take i ++ l[i] :: l.drop (i + 1) := by rw [← List.drop_eq_getElem_cons hi, List.take_append_drop]
  have e2 : l.set i c = l.take i ++ c :: l.drop (i + 1) := List.set_eq_take_append_cons_drop .. |>.trans (if_pos hi)
  have e3 : l.foldl sumStep 2166136261 = (l.take i ++ l[i] :: l.drop (i + 1)).foldl sumStep 2166136261 := congrArg (fun z => z.foldl sumStep 2166136261) e1
  rw [e3, e2, List.foldl_append, List.foldl_append, List.foldl_cons, List.foldl_cons] at h
  exact step_inj2 hc0 hc hb.1 hb.2 (fold_inj _ (sumStep_range _ _).1 (sumStep_range _ _).2 (sumStep_range _ _).1 (sumStep_range _ _).2 h)
theorem tail_inj {s t : Int} (hs0 : 0 ≤ s) (hs : s < 4294967296) (ht0 : 0 ≤ t) (ht : t < 4294967296) (h : tailB s = tailB t) : s = t := by
  simp only [tailB, List.cons.injEq] at h
  omega
theorem cut_none {o : OB} (ho : obSmall o) {i : Nat} (hi : i < (obBytes o).length) (p : OB) (hp : obSmall p) : obBytes p ≠ (obBytes o).take i := by
  intro h
  have h2 : obBytes p ++ (obBytes o).drop i = obBytes o := by rw [h, List.take_append_drop]
  have := congrArg List.length (bytes_pf hp ho h2)
  rw [List.length_drop, List.length_nil] at this
  omega
theorem turned_none {o : OB} (ho : obSmall o) {i : Nat} (hi : i < (obBytes o).length) {c : Int} (hc0 : 0 ≤ c) (hc : c < 256) (hne : (obBytes o)[i] ≠ c) (p : OB) (hp : obSmall p) : obBytes p ≠ (obBytes o).set i c := by
  intro h
  have hbb : Byt (obBody o) := bodyB_byt _ _ _ _ _ _ _ _ _ _
  have hl := congrArg List.length h
  rw [List.length_set, obBytes_eq, obBytes_eq, List.length_append, List.length_append] at hl
  have h4 : ∀ s, (tailB s).length = 4 := fun _ => rfl
  rw [h4, h4] at hl
  have hn : (obBody p).length = (obBody o).length := by omega
  by_cases hib : i < (obBody o).length
  · have e : (obBytes o).set i c = (obBody o).set i c ++ tailB (sumB (obBody o)) := by
      rw [obBytes_eq, List.set_append_left _ _ hib]
    rw [e, obBytes_eq] at h
    obtain ⟨e1, e2⟩ := List.append_inj h (by rw [List.length_set]; exact hn)
    have e3 := tail_inj (sumB_range _).1 (sumB_range _).2 (sumB_range _).1 (sumB_range _).2 e2
    rw [e1] at e3
    have e4 := sum_set hbb hib hc0 hc e3
    apply hne
    rw [e4]
    simp only [obBytes_eq]
    exact List.getElem_append_left hib
  · have e : (obBytes o).set i c = obBody o ++ (tailB (sumB (obBody o))).set (i - (obBody o).length) c := by
      rw [obBytes_eq, List.set_append_right _ _ (by omega)]
    rw [e, obBytes_eq] at h
    obtain ⟨e1, e2⟩ := List.append_inj h hn
    rw [e1] at e2
    have e5 : (obBytes o).set i c = obBytes o := by rw [e, ← e2, obBytes_eq]
    apply hne
    have e6 := congrArg (fun z => z[i]?) e5
    rw [List.getElem?_set_self hi, List.getElem?_eq_getElem hi] at e6
    exact (Option.some.inj e6).symm
theorem decF_small (bs : List Int) (h : bs.length ≤ 1000000) : obSmall (decF bs).1 := by
  obtain ⟨x0, b0, q0, e0⟩ : ∃ x b q, readF oneF bs false = (x, b, q) := ⟨_, _, _, rfl⟩
  obtain ⟨x1, b1, q1, e1⟩ : ∃ x b q, readF oneF b0 q0 = (x, b, q) := ⟨_, _, _, rfl⟩
  obtain ⟨x2, b2, q2, e2⟩ : ∃ x b q, readF oneF b1 q1 = (x, b, q) := ⟨_, _, _, rfl⟩
  obtain ⟨x3, b3, q3, e3⟩ : ∃ x b q, readF oneF b2 q2 = (x, b, q) := ⟨_, _, _, rfl⟩
  obtain ⟨x4, b4, q4, e4⟩ : ∃ x b q, oneF b3 q3 = (x, b, q) := ⟨_, _, _, rfl⟩
  obtain ⟨x5, b5, q5, e5⟩ : ∃ x b q, oneF b4 q4 = (x, b, q) := ⟨_, _, _, rfl⟩
  obtain ⟨x6, b6, q6, e6⟩ : ∃ x b q, readF insF b5 q5 = (x, b, q) := ⟨_, _, _, rfl⟩
  obtain ⟨x7, b7, q7, e7⟩ : ∃ x b q, readF insF b6 q6 = (x, b, q) := ⟨_, _, _, rfl⟩
  obtain ⟨x8, b8, q8, e8⟩ : ∃ x b q, readF insF b7 q7 = (x, b, q) := ⟨_, _, _, rfl⟩
  obtain ⟨x9, b9, q9, e9⟩ : ∃ x b q, readF insF b8 q8 = (x, b, q) := ⟨_, _, _, rfl⟩
  have m0 := readF_le one_le e0
  have m1 := readF_le one_le e1
  have m2 := readF_le one_le e2
  have m3 := readF_le one_le e3
  have m4 : b4.length ≤ b3.length := by have := one_le b3 q3; rw [e4] at this; exact this
  have m5 : b5.length ≤ b4.length := by have := one_le b4 q4; rw [e5] at this; exact this
  have m6 := readF_le ins_le e6
  have m7 := readF_le ins_le e7
  have m8 := readF_le ins_le e8
  have m9 := readF_le ins_le e9
  have hd : (decF bs).1 = (x0, x1, x2, x3, x4, x5, x6, x7, x8, x9) := by
    simp only [decF, e0, e1, e2, e3, e4, e5, e6, e7, e8, e9]
  rw [hd]
  refine ⟨?_, ?_, ?_, ?_, ?_, ?_, ?_, ?_⟩ <;> dsimp only <;> omega
theorem obBytes_byt (o : OB) : Byt (obBytes o) := bytesB_byt _ _ _ _ _ _ _ _ _ _
theorem none_tells {l : List Int} (hl : l.length ≤ 1000000) (hb : Byt l) (h : ∀ p, obSmall p → obBytes p ≠ l) : code_Object.f l = some noObj := by
  rw [code_Object_f_eq hl]
  congr 1
  unfold objF
  split
  · split
    · rfl
    · split
      · rename_i hs
        exact absurd (sameB_eq (obBytes_byt _) hb hs) (h _ (decF_small _ (by rw [List.length_drop]; omega)))
      · rfl
  · rfl
#print axioms turned_none
#print axioms none_tells
end Go.Proofs.Ytccolpkjgjjipaa.K
