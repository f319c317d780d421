/- A number's bytes, plainly: what the program's number writes behind others. -/
import Derived.Test.YtccolpkjgjjipaaK2
import Derived.Laws.BitsLemmas
namespace Go.Proofs.Ytccolpkjgjjipaa.K
set_option linter.unusedVariables false
set_option linter.unusedSimpArgs false
open Go.RowKit Go.Proofs.YtccolpkjgjjipaaW.PrintWords

/-- Is it one of 64 bits? -/
def In64 (a : Int) : Prop := -9223372036854775808 ≤ a ∧ a ≤ 9223372036854775807
theorem In64.of {a : Int} (h : (Lit.int .i64 a).wf = true) : In64 a := by
  simp only [Lit.wf, Bool.and_eq_true, decide_eq_true_eq] at h
  exact ⟨h.1, h.2⟩
/-- The number without a sign. -/
def zz (a : Int) : Int := if 0 ≤ a then 2 * a else -2 * a - 1
theorem u64_mod (n : Int) : IntKind.u64.wrap n = n % 18446744073709551616 := by simp [IntKind.wrap, IntKind.bits, IntKind.signed]
/-- .. as the program has it. -/
def zg (a : Int) : Int := Go.bits .xor .u64 (IntKind.u64.wrap (wrap64 (a * 2))) (IntKind.u64.wrap (a / 9223372036854775808))
theorem zg_range (a : Int) : 0 ≤ zg a ∧ zg a < 18446744073709551616 := by
  unfold zg Go.bits
  simp only []
  rw [u64_mod]
  omega
theorem zg_zz {a : Int} (h : In64 a) : zg a = zz a := by
  unfold In64 at h
  unfold zg zz
  by_cases h0 : 0 ≤ a
  · have e1 : a / 9223372036854775808 = 0 := by omega
    have e2 : IntKind.u64.wrap (wrap64 (a * 2)) = 2 * a := by unfold wrap64; rw [u64_mod]; omega
    have e3 : IntKind.u64.wrap 0 = 0 := by decide
    rw [e1, e2, e3, if_pos h0]
    unfold Go.bits
    have e4 : BitVec.ofInt IntKind.u64.bits 0 = 0#_ := by decide
    have e5 : IntKind.u64.bits = 64 := rfl
    rw [e4]
    simp only [BitVec.xor_zero]
    rw [u64_mod, BitVec.toNat_ofInt, e5]
    omega
  · have e1 : IntKind.u64.wrap (a / 9223372036854775808) = 18446744073709551615 := by rw [u64_mod]; omega
    have e2 : IntKind.u64.wrap (wrap64 (a * 2)) = 2 * a + 18446744073709551616 := by unfold wrap64; rw [u64_mod]; omega
    rw [e1, e2, if_neg h0]
    unfold Go.bits
    simp only []
    have e3 : BitVec.ofInt IntKind.u64.bits 18446744073709551615 = BitVec.allOnes _ := by decide
    rw [e3, BitVec.xor_allOnes, u64_mod, BitVec.toNat_not, BitVec.toNat_ofInt]
    have e4 : IntKind.u64.bits = 64 := rfl
    rw [e4]
    omega
/-- Its digits of seven bits, each but the last with a mark. -/
def vB : Nat → Int → List Int
  | 0, _ => []
  | k + 1, u => if u ≥ 128 then (u % 128 + 128) :: vB k (u / 128) else [u]
theorem vB_length : ∀ (k : Nat) (u : Int), (vB k u).length ≤ k
  | 0, _ => Nat.le_refl _
  | k + 1, u => by
    rw [vB]
    split
    · have := vB_length k (u / 128)
      simp; omega
    · simp
/-- A number's bytes. -/
def numB (a : Int) : List Int := vB 10 (zg a)
theorem numB_length (a : Int) : (numB a).length ≤ 10 := vB_length 10 _
theorem or128 {u : Int} (h0 : 0 ≤ u) (h1 : u < 256) : Go.bits .or .u8 u 128 = u % 128 + 128 := by
  obtain ⟨n, rfl⟩ := Int.eq_ofNat_of_zero_le h0
  have hn : n < 256 := by omega
  have : ∀ m : Fin 256, Go.bits .or .u8 ((m.val : Nat) : Int) 128 = ((m.val : Nat) : Int) % 128 + 128 := by decide +kernel
  exact this ⟨n, hn⟩
theorem number_loop : ∀ (d k : Nat) (x : List Int) (u : Int), 0 ≤ u → u < 128 ^ (d + 1) → d < k → x.length + d < 140737488355328 → code_number_int.l0 k x u = some (x ++ vB (d + 1) u)
  | 0, k, x, u, h0, h1, hk, hx => by
    obtain ⟨k, rfl⟩ : ∃ m, k = m + 1 := ⟨k - 1, by omega⟩
    have hu : u < 128 := by simpa using h1
    rw [code_number_int.l0, if_neg (by omega), if_pos (by omega), vB, if_neg (by omega), show u % 256 = u by omega]
  | d + 1, k, x, u, h0, h1, hk, hx => by
    obtain ⟨k, rfl⟩ : ∃ m, k = m + 1 := ⟨k - 1, by omega⟩
    rw [code_number_int.l0, vB]
    by_cases hu : u ≥ 128
    · rw [if_pos hu, if_pos (by omega), if_pos hu]
      have h2 : u / 128 < 128 ^ (d + 1) := by
        rw [Int.pow_succ] at h1
        exact Int.ediv_lt_of_lt_mul (by omega) h1
      rw [number_loop d k _ (u / 128) (by omega) h2 (by omega) (by simp; omega), or128 (by omega) (by omega)]
      rw [List.append_assoc]
      congr 2
      simp only [List.singleton_append]
      congr 1
      omega
    · rw [if_neg hu, if_pos (by omega), if_neg hu]
      congr 2
      rw [show u % 256 = u by omega]
theorem number_int_f (k : Nat) (hk : 9 < k) (x : List Int) (a : Int) (hx : x.length + 10 < 140737488355328) : code_number_int.f k x a = some (x ++ numB a) := by
  have h := zg_range a
  have := number_loop 9 k x (zg a) h.1 (by have := h.2; omega) hk (by omega)
  exact this
theorem number64_loop : ∀ (k : Nat) (x : List Int) (u : Int), code_number_int64.l0 k x u = code_number_int.l0 k x u
  | 0, _, _ => rfl
  | k + 1, x, u => by rw [code_number_int64.l0, code_number_int.l0, number64_loop k]
theorem number_int64_f (k : Nat) (hk : 9 < k) (x : List Int) (a : Int) (hx : x.length + 10 < 140737488355328) : code_number_int64.f k x a = some (x ++ numB a) := by
  rw [← number_int_f k hk x a hx, code_number_int64.f, code_number_int.f, number64_loop]
def listB (l : List Int) : List Int := numB l.length ++ l.flatMap numB
def insB (x : S47) : List Int := numB x.f0 ++ (numB x.f1 ++ (numB x.f2 ++ (numB x.f3 ++ (numB x.f4 ++ numB x.f5))))
def pieceB (l : List S47) : List Int := numB l.length ++ l.flatMap insB
def sumStep (x c : Int) : Int := ((Go.bits .xor .u32 x (c % 4294967296)) * 16777619) % 4294967296
def sumB (l : List Int) : Int := l.foldl sumStep 2166136261
def tailB (s : Int) : List Int := [s % 256, s / 256 % 256, s / 256 / 256 % 256, s / 256 / 256 / 256 % 256]
def headB (l0 l1 l2 l3 : List Int) (a4 a5 : Int) : List Int := [65, 83, 84, 49] ++ listB l0 ++ listB l1 ++ listB l2 ++ listB l3 ++ numB a4 ++ numB a5
def bodyB (l0 l1 l2 l3 : List Int) (a4 a5 : Int) (l6 l7 l8 l9 : List S47) : List Int := headB l0 l1 l2 l3 a4 a5 ++ pieceB l6 ++ pieceB l7 ++ pieceB l8 ++ pieceB l9
def bytesB (l0 l1 l2 l3 : List Int) (a4 a5 : Int) (l6 l7 l8 l9 : List S47) : List Int := bodyB l0 l1 l2 l3 a4 a5 l6 l7 l8 l9 ++ tailB (sumB (bodyB l0 l1 l2 l3 a4 a5 l6 l7 l8 l9))
def code_Bytes.f (l0 l1 l2 l3 : List Int) (a4 a5 : Int) (l6 l7 l8 l9 : List S47) : Option (List Int) :=
  if (bytesB l0 l1 l2 l3 a4 a5 l6 l7 l8 l9).length + 100 < 140737488355328 then some (bytesB l0 l1 l2 l3 a4 a5 l6 l7 l8 l9) else none
theorem wrap_i64 {n : Int} (h0 : 0 ≤ n) (h : n ≤ 9223372036854775807) : wrap64 n = n := by
  unfold wrap64; omega
theorem rd_nat {l : List Int} {i : Nat} (h : i < l.length) : rd l (i : Int) = l[i] := by
  unfold rd
  simp [List.getD_eq_getElem?_getD, List.getElem?_eq_getElem h]
theorem list_int_loop (l : List Int) : ∀ (d i k : Nat) (x : List Int), i + d = l.length → d + 11 < k → x.length + ((l.drop i).flatMap numB).length + 10 < 140737488355328 → l.length ≤ 9223372036854775806 →
    code_list_int.l0 k x l (l.length : Int) (i : Int) = some (x ++ (l.drop i).flatMap numB)
  | 0, i, k, x, hi, hk, hx, hl => by
    obtain ⟨k, rfl⟩ : ∃ m, k = m + 1 := ⟨k - 1, by omega⟩
    rw [code_list_int.l0, if_neg (by omega), List.drop_of_length_le (by omega)]
    simp
  | d + 1, i, k, x, hi, hk, hx, hl => by
    obtain ⟨k, rfl⟩ : ∃ m, k = m + 1 := ⟨k - 1, by omega⟩
    have hlt : i < l.length := by omega
    rw [List.drop_eq_getElem_cons hlt, List.flatMap_cons, List.length_append] at hx
    rw [code_list_int.l0, if_pos (by omega), if_pos (by omega), if_pos (by omega), rd_nat hlt, number_int_f k (by omega) x _ (by omega), Option.bind_some, wrap_i64 (by omega) (by omega), ← Int.natCast_succ, list_int_loop l d (i + 1) k _ (by omega) (by omega) (by rw [List.length_append]; omega) hl, List.drop_eq_getElem_cons hlt, List.flatMap_cons, List.append_assoc]
theorem list_int_f (x l : List Int) (hx : x.length + (listB l).length + 10 < 140737488355328) (hl : l.length ≤ 9223372036854775806) : code_list_int.f (l.length + 12) x l = some (x ++ listB l) := by
  rw [listB, List.length_append] at hx
  rw [code_list_int.f, number_int_f _ (by omega) x _ (by omega), Option.bind_some]
  have := list_int_loop l l.length 0 (l.length + 12) (x ++ numB l.length) (by omega) (by omega) (by rw [List.length_append, List.drop_zero]; omega) hl
  rw [List.drop_zero] at this
  rw [show (0 : Int) = ((0 : Nat) : Int) from rfl, this, listB, List.append_assoc]
theorem list_int64_loop (l : List Int) : ∀ (d i k : Nat) (x : List Int), i + d = l.length → d + 11 < k → x.length + ((l.drop i).flatMap numB).length + 10 < 140737488355328 → l.length ≤ 9223372036854775806 →
    code_list_int64.l0 k x l (l.length : Int) (i : Int) = some (x ++ (l.drop i).flatMap numB)
  | 0, i, k, x, hi, hk, hx, hl => by
    obtain ⟨k, rfl⟩ : ∃ m, k = m + 1 := ⟨k - 1, by omega⟩
    rw [code_list_int64.l0, if_neg (by omega), List.drop_of_length_le (by omega)]
    simp
  | d + 1, i, k, x, hi, hk, hx, hl => by
    obtain ⟨k, rfl⟩ : ∃ m, k = m + 1 := ⟨k - 1, by omega⟩
    have hlt : i < l.length := by omega
    rw [List.drop_eq_getElem_cons hlt, List.flatMap_cons, List.length_append] at hx
    rw [code_list_int64.l0, if_pos (by omega), if_pos (by omega), if_pos (by omega), rd_nat hlt, number_int64_f k (by omega) x _ (by omega), Option.bind_some, wrap_i64 (by omega) (by omega), ← Int.natCast_succ, list_int64_loop l d (i + 1) k _ (by omega) (by omega) (by rw [List.length_append]; omega) hl, List.drop_eq_getElem_cons hlt, List.flatMap_cons, List.append_assoc]
theorem list_int64_f (x l : List Int) (hx : x.length + (listB l).length + 10 < 140737488355328) (hl : l.length ≤ 9223372036854775806) : code_list_int64.f (l.length + 12) x l = some (x ++ listB l) := by
  rw [listB, List.length_append] at hx
  rw [code_list_int64.f, number_int_f _ (by omega) x _ (by omega), Option.bind_some]
  have := list_int64_loop l l.length 0 (l.length + 12) (x ++ numB l.length) (by omega) (by omega) (by rw [List.length_append, List.drop_zero]; omega) hl
  rw [List.drop_zero] at this
  rw [show (0 : Int) = ((0 : Nat) : Int) from rfl, this, listB, List.append_assoc]
theorem sum_loop (l : List Int) : ∀ (d i k : Nat) (x : Int), i + d = l.length → d < k → l.length ≤ 9223372036854775806 → code_sum.l0 k x l (l.length : Int) (i : Int) = some ((l.drop i).foldl sumStep x)
  | 0, i, k, x, hi, hk, hl => by
    obtain ⟨k, rfl⟩ : ∃ m, k = m + 1 := ⟨k - 1, by omega⟩
    rw [code_sum.l0, if_neg (by omega), List.drop_of_length_le (by omega)]
    rfl
  | d + 1, i, k, x, hi, hk, hl => by
    obtain ⟨k, rfl⟩ : ∃ m, k = m + 1 := ⟨k - 1, by omega⟩
    have hlt : i < l.length := by omega
    rw [code_sum.l0, if_pos (by omega), if_pos (by omega), if_pos (by omega), rd_nat hlt, wrap_i64 (by omega) (by omega), ← Int.natCast_succ, sum_loop l d (i + 1) k _ (by omega) (by omega) hl, List.drop_eq_getElem_cons hlt, List.foldl_cons]
    rfl
theorem sum_f (l : List Int) (hl : l.length ≤ 9223372036854775806) : code_sum.f (l.length + 1) l = some (sumB l) := by
  rw [code_sum.f, show (0 : Int) = ((0 : Nat) : Int) from rfl, sum_loop l l.length 0 _ _ (by omega) (by omega) hl, List.drop_zero]
  rfl
theorem vB_pos (k : Nat) (u : Int) : 1 ≤ (vB (k + 1) u).length := by
  rw [vB]
  split <;> simp
theorem numB_pos (a : Int) : 1 ≤ (numB a).length := vB_pos 9 _
theorem flat_ge {α : Type} (f : α → List Int) (hf : ∀ a, 1 ≤ (f a).length) : ∀ l : List α, l.length ≤ (l.flatMap f).length
  | [] => Nat.le_refl _
  | a :: l => by
    have := flat_ge f hf l
    have := hf a
    rw [List.flatMap_cons, List.length_append, List.length_cons]
    omega
theorem listB_ge (l : List Int) : l.length ≤ (listB l).length := by
  have := flat_ge numB numB_pos l
  rw [listB, List.length_append]; omega
theorem pieceB_ge (l : List S47) : l.length ≤ (pieceB l).length := by
  have := flat_ge insB (fun x => by have := numB_pos x.f0; rw [insB, List.length_append]; omega) l
  rw [pieceB, List.length_append]; omega
/-- A piece's bytes behind others, so many instructions being done. -/
def iTo (b : List Int) (l : List S47) : Nat → List Int
  | 0 => b ++ numB l.length
  | j + 1 => iTo b l j ++ insB (rd_T47 l (j : Int))
theorem iTo_take (b : List Int) (l : List S47) : ∀ j, j ≤ l.length → iTo b l j = b ++ numB l.length ++ (l.take j).flatMap insB
  | 0, _ => by simp [iTo]
  | j + 1, hj => by
    have hlt : j < l.length := by omega
    have hr : rd_T47 l (j : Int) = l[j] := by
      unfold rd_T47
      simp [List.getD_eq_getElem?_getD, List.getElem?_eq_getElem hlt]
    rw [iTo, iTo_take b l j (by omega), hr, List.take_add_one, List.getElem?_eq_getElem hlt, List.flatMap_append]
    simp
theorem iTo_all (b : List Int) (l : List S47) : iTo b l l.length = b ++ pieceB l := by
  rw [iTo_take b l _ (Nat.le_refl _), List.take_length, pieceB, List.append_assoc]
theorem iTo_le (b : List Int) (l : List S47) (j : Nat) (hj : j ≤ l.length) : (iTo b l j).length ≤ (b ++ pieceB l).length := by
  rw [iTo_take b l j hj, pieceB, List.length_append, List.length_append, List.length_append, List.length_append]
  have : ((l.take j).flatMap insB).length ≤ (l.flatMap insB).length := by
    have h := congrArg (fun z => (List.flatMap insB z).length) (List.take_append_drop j l)
    simp only [List.flatMap_append, List.length_append] at h
    omega
  omega
/-- The bytes behind so many pieces. -/
def pTo (b : List Int) (ps : Nat → List S47) : Nat → List Int
  | 0 => b
  | k + 1 => pTo b ps k ++ pieceB (ps k)
def four {α : Type} (a b c d : α) : Nat → α
  | 0 => a
  | 1 => b
  | 2 => c
  | _ => d
/-- What a call has made: a row of bytes of the call's own; no block of another type has been written. -/
def Made (w0 w : World) (l : List Int) (e : Ending) (w' : World) : Prop :=
  ∃ v, e = .returned v ∧ Kd.R (Kd.int .u8) 5 w' w0.heap.size (fun _ => True) v l ∧ Below w0.heap.size w0 w' ∧ ∀ (g : Nat) (cs : Array Value) (t : Nat), 5 ≠ t → w.heap[g]? = some (Obj.cells cs t (0, 0)) → w'.heap[g]? = some (Obj.cells cs t (0, 0))
section
variable {w0 w : World} {v : Value} {l0 : List Int}
theorem made_kept {w' : World} (ho : Kd.R (Kd.int .u8) 5 w w0.heap.size (fun _ => True) v l0) (hk : Kept w w' (fun k_ => some k_ = v.ownBlock)) : ∀ (g : Nat) (cs : Array Value) (t : Nat), 5 ≠ t → w.heap[g]? = some (Obj.cells cs t (0, 0)) → w'.heap[g]? = some (Obj.cells cs t (0, 0)) :=
  fun g cs t ht hg => blk_kept hg hk (fun hs => (Kd.R_ne ho hg ht) hs)
theorem number_any (a : Int) (hB : Below w0.heap.size w0 w) (ho : Kd.R (Kd.int .u8) 5 w w0.heap.size (fun _ => True) v l0) (hl : l0.length + 10 < 140737488355328) :
    Calls Try.prog 44 #[v, .int .i64 a] w (Made w0 w (l0 ++ numB a)) :=
  (code_number_int.calls 11 (fun k_ => some k_ = v.ownBlock) v l0 a _ w0 w hB (Kd.R_tight rfl ho) (number_int_f 11 (by omega) l0 a hl)).mono fun e w' ⟨v', he, hR, hB', hk⟩ =>
    ⟨v', he, Kd.R_mono hR (fun _ _ => trivial), hB', made_kept ho hk⟩
theorem number64_any (a : Int) (hB : Below w0.heap.size w0 w) (ho : Kd.R (Kd.int .u8) 5 w w0.heap.size (fun _ => True) v l0) (hl : l0.length + 10 < 140737488355328) :
    Calls Try.prog 45 #[v, .int .i64 a] w (Made w0 w (l0 ++ numB a)) :=
  (code_number_int64.calls 11 (fun k_ => some k_ = v.ownBlock) v l0 a _ w0 w hB (Kd.R_tight rfl ho) (number_int64_f 11 (by omega) l0 a hl)).mono fun e w' ⟨v', he, hR, hB', hk⟩ =>
    ⟨v', he, Kd.R_mono hR (fun _ _ => trivial), hB', made_kept ho hk⟩
theorem list_any (A : Option Addr) (c : Nat) (l : List Int) (hB : Below w0.heap.size w0 w) (ho : Kd.R (Kd.int .u8) 5 w w0.heap.size (fun _ => True) v l0) (hr : Kd.C (Kd.int .i64) w0 A l.length l) (hc : l.length ≤ c) (hl : l0.length + (listB l).length + 10 < 140737488355328) :
    Calls Try.prog 42 #[v, .slice A l.length c] w (Made w0 w (l0 ++ listB l)) :=
  (code_list_int.calls (l.length + 12) (fun k_ => some k_ = v.ownBlock) v l0 A c l _ w0 w hB (Kd.R_tight rfl ho) (Kd.C_kept_came (Kd.heap_int .i64) hr hB (fun k_ hs_ => Kd.R_base ho k_ hs_.symm)) hc (list_int_f l0 l hl (by have := listB_ge l; omega))).mono fun e w' ⟨v', he, hR, hB', hk⟩ =>
    ⟨v', he, Kd.R_mono hR (fun _ _ => trivial), hB', made_kept ho hk⟩
theorem list64_any (A : Option Addr) (c : Nat) (l : List Int) (hB : Below w0.heap.size w0 w) (ho : Kd.R (Kd.int .u8) 5 w w0.heap.size (fun _ => True) v l0) (hr : Kd.C (Kd.int .i64) w0 A l.length l) (hc : l.length ≤ c) (hl : l0.length + (listB l).length + 10 < 140737488355328) :
    Calls Try.prog 43 #[v, .slice A l.length c] w (Made w0 w (l0 ++ listB l)) :=
  (code_list_int64.calls (l.length + 12) (fun k_ => some k_ = v.ownBlock) v l0 A c l _ w0 w hB (Kd.R_tight rfl ho) (Kd.C_kept_came (Kd.heap_int .i64) hr hB (fun k_ hs_ => Kd.R_base ho k_ hs_.symm)) hc (list_int64_f l0 l hl (by have := listB_ge l; omega))).mono fun e w' ⟨v', he, hR, hB', hk⟩ =>
    ⟨v', he, Kd.R_mono hR (fun _ _ => trivial), hB', made_kept ho hk⟩
end
end Go.Proofs.Ytccolpkjgjjipaa.K
