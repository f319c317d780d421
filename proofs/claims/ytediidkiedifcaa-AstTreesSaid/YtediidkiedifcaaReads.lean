/- What the claim's form reads as data of a type is a value of the print's kind for that type: one lemma for each shape. (Written for every seat; Ytediidkiedifcaa is the seat's name.) -/
import Derived.Test.YtediidkiedifcaaWSized
import Derived.Test.YtediidkiedifcaaWMore
import Derived.ChangeArms
import Derived.ChangeSlices
import Derived.DataReads
import Derived.DataElems
namespace Go.Proofs.Ytediidkiedifcaa.Rds
open Go.RowKit Go.Proofs.YtediidkiedifcaaW.PrintWords Go.ChangeShapes Go.WideShapes
set_option linter.unusedVariables false

/-- What is read of type t is a value of kind d, of which G holds. -/
structure Rd (P : Program) (t : TypeId) {α : Type} (d : Kd α) (G : α → Prop) : Prop where
  out : ∀ {H : Type} {enc : TypeId × Value → H} {W : World} {base : Nat} {spare : Nat → Bool} {held : Bool} {fuel : Nat} {cs : List Value} {x : DataW H × List MemPlace},
    DataW.trod enc P W base spare held fuel t cs = some x → ((x.1.weights P t).all (· ≤ reachBytes) = true) → ∃ y : α, d.K W y cs ∧ G y
theorem Rd.int {P : Program} {t : TypeId} {k : IntKind} (ht : P.underlying t = some (.int k)) : Rd P t (Kd.int k) (fun n => (Lit.int k n).wf = true) := by
  constructor
  intro H enc W base spare held fuel cs x h hw
  obtain ⟨n, rfl, rfl, hn⟩ := DataW.trod_int ht h
  exact ⟨n, rfl, hn⟩
theorem Rd.bool {P : Program} {t : TypeId} (ht : P.underlying t = some .bool) : Rd P t Kd.bool (fun _ => True) := by
  constructor
  intro H enc W base spare held fuel cs x h hw
  obtain ⟨b, rfl, rfl⟩ := DataW.trod_bool ht h
  exact ⟨b, rfl, trivial⟩
theorem Rd.string {P : Program} {t : TypeId} (ht : P.underlying t = some .string) : Rd P t Kd.string (fun s => s.size ≤ 140737488351232) := by
  constructor
  intro H enc W base spare held fuel cs x h hw
  obtain ⟨s, rfl, rfl, hs⟩ := DataW.trod_string ht h
  refine ⟨s, rfl, ?_⟩
  have h2 : s.size ≤ reachBytes := by simpa [DataW.weights] using hw
  exact h2
theorem weightsAll_mem {H : Type} {P : Program} {e : TypeId} {l : List (DataW H)} {d : DataW H} (hd : d ∈ l) {n : Nat} (hn : n ∈ d.weights P e) : n ∈ DataW.weightsAll P e l := by
  induction l with
  | nil => cases hd
  | cons a l ih =>
    simp only [DataW.weightsAll, List.mem_append]
    rcases List.mem_cons.1 hd with rfl | hd
    · exact .inl hn
    · exact .inr (ih hd)
theorem weightsEach_at {H : Type} {P : Program} : ∀ {ts : List TypeId} {ds : List (DataW H)} {j : Nat} {t : TypeId} {d : DataW H}, ts[j]? = some t → ds[j]? = some d → (DataW.weightsEach P ts ds).all (· ≤ reachBytes) = true → (d.weights P t).all (· ≤ reachBytes) = true
  | [], _, _, _, _, h, _, _ => by simp at h
  | _ :: _, [], _, _, _, _, h, _ => by simp at h
  | a :: ts, b :: ds, 0, t, d, h1, h2, h => by
    simp at h1 h2
    subst h1; subst h2
    simp only [DataW.weightsEach, List.all_append, Bool.and_eq_true] at h
    exact h.1
  | a :: ts, b :: ds, j + 1, t, d, h1, h2, h => by
    simp only [DataW.weightsEach, List.all_append, Bool.and_eq_true] at h
    exact weightsEach_at (j := j) (by simpa using h1) (by simpa using h2) h.2
theorem list_pick {α : Type} {p : Nat → α → Prop} : ∀ n : Nat, (∀ i, i < n → ∃ y, p i y) → ∃ ys : List α, ys.length = n ∧ ∀ i y, ys[i]? = some y → p i y
  | 0, _ => ⟨[], rfl, fun i y h => by simp at h⟩
  | n + 1, h => by
    obtain ⟨ys, hl, hy⟩ := list_pick n (fun i hi => h i (by omega))
    obtain ⟨y, hp⟩ := h n (by omega)
    refine ⟨ys ++ [y], by simp [hl], fun i z hz => ?_⟩
    by_cases hi : i < n
    · rw [List.getElem?_append_left (by omega)] at hz
      exact hy i z hz
    · have : i < (ys ++ [y]).length := (List.getElem?_eq_some_iff.1 hz).1
      have hin : i = n := by simp at this; omega
      subst hin
      rw [List.getElem?_append_right (by omega), hl] at hz
      simp at hz
      subst hz
      exact hp
theorem Rd.slice {P : Program} {t e : TypeId} {α : Type} {d : Kd α} {G : α → Prop} {B : Nat} (ht : P.underlying t = some (.slice e)) (hs : P.cellsOf e = d.sz) (hB : P.bytesOf e = B) (hd : Rd P e d G) :
    Rd P t (Kd.slice e d) (fun xs => xs.length * B ≤ 140737488351232 ∧ xs.length ≤ 9223372036854775807 ∧ ∀ x ∈ xs, G x) := by
  constructor
  intro H enc W base spare held fuel cs x h hw
  rcases DataW.trod_slice ht h with ⟨rfl, rfl⟩ | ⟨a, len, cap, elems, rest, n, rfl, rfl, rfl, hb, hl, hm, hlen, hel, _, _⟩
  · exact ⟨[], ⟨none, 0, rfl, Nat.le_refl _, rfl, by simp, fun h0 => absurd h0 (by simp)⟩, by simp, by simp, by simp⟩
  · simp only [DataW.weights, ht, List.all_cons, List.all_append, Bool.and_eq_true, decide_eq_true_eq, List.length_map] at hw
    obtain ⟨hw1, hw2, _⟩ := hw
    have hmx : maxLen ≤ 9223372036854775807 := by decide
    have each : ∀ i, i < len → ∃ y : α, ∃ c : List Value, d.K W y c ∧ G y ∧ c.length = d.sz ∧ ∀ j u, c[j]? = some u → W.cell? (a.add (i * d.sz + j)) = some u := by
      intro i hi
      have h1 := hel i hi
      have hi' : i < elems.length := by omega
      rw [List.getElem?_eq_getElem hi', Option.bind_eq_some_iff] at h1
      obtain ⟨c, hc, hy⟩ := h1
      obtain ⟨_, hcl, hcell⟩ := World.cells?_some hc
      obtain ⟨y, hK, hG⟩ := hd.out hy (by
        rw [List.all_eq_true] at hw2 ⊢
        exact fun q hq => hw2 q (weightsAll_mem (d := (elems[i]).1) (List.mem_map.2 ⟨elems[i], List.getElem_mem hi', rfl⟩) hq))
      refine ⟨y, c, hK, hG, by rw [hcl, hs], fun j u hj => ?_⟩
      have hj' : j < c.length := (List.getElem?_eq_some_iff.1 hj).1
      have := hcell j (by omega)
      rw [hj, hs] at this
      rw [← this, Addr.add_add]
    obtain ⟨ys, hyl, hy⟩ := list_pick (p := fun i y => ∃ c : List Value, d.K W y c ∧ G y ∧ c.length = d.sz ∧ ∀ j u, c[j]? = some u → W.cell? (a.add (i * d.sz + j)) = some u) len each
    have hln : (len + rest.length) * B ≤ 140737488351232 := by rw [← hB, ← hlen]; exact hw1
    refine ⟨ys, ⟨some a, cap, by rw [hyl], by omega, rfl, by omega, fun _ => ⟨a, rfl, fun j p hp => ?_⟩⟩, ?_, by omega, fun x hx => ?_⟩
    · obtain ⟨c, h1, _, h2, h3⟩ := hy j p hp
      exact ⟨c, h2, h1, h3⟩
    · rw [hyl]
      exact Nat.le_trans (Nat.mul_le_mul_right _ (by omega)) hln
    · obtain ⟨i, hi⟩ := List.getElem?_of_mem hx
      obtain ⟨_, _, h2, _⟩ := hy i x hi
      exact h2
/-- The fields of a struct from some offset on. -/
structure RdF (P : Program) (fs : List Field) (off : Nat) {α : Type} (d : Kd α) (G : α → Prop) : Prop where
  out : ∀ {H : Type} {enc : TypeId × Value → H} {W : World} {base : Nat} {spare : Nat → Bool} {held : Bool} {n : Nat} {cs : List Value} {xs : List (DataW H × List MemPlace)},
    cs.length = off + d.sz → xs.length = fs.length → (∀ (i : Nat) (f : Field), fs[i]? = some f → DataW.trod enc P W base spare held n f.type ((cs.drop f.offset).take (P.cellsOf f.type)) = xs[i]?) →
    ((DataW.weightsEach P (fs.map (·.type)) (xs.map (·.1))).all (· ≤ reachBytes) = true) → ∃ y : α, d.K W y (cs.drop off) ∧ G y
theorem RdF.one {P : Program} {f : Field} {off : Nat} {α : Type} {d : Kd α} {G : α → Prop} (ho : f.offset = off) (hs : P.cellsOf f.type = d.sz) (hd : Rd P f.type d G) : RdF P [f] off d G := by
  constructor
  intro H enc W base spare held n cs xs hl hx hf hw
  have h0 := hf 0 f rfl
  rw [ho, hs, List.take_of_length_le (by rw [List.length_drop]; omega)] at h0
  match xs, hx with
  | [x], _ =>
    simp only [List.map_cons, List.map_nil, DataW.weightsEach, List.append_nil] at hw
    exact hd.out h0 hw
theorem RdF.cons {P : Program} {f : Field} {fs : List Field} {off : Nat} {α β : Type} {d : Kd α} {b : Kd β} {G : α → Prop} {G2 : β → Prop} (ho : f.offset = off) (hs : P.cellsOf f.type = d.sz) (hd : Rd P f.type d G) (hb : RdF P fs (off + d.sz) b G2) :
    RdF P (f :: fs) off (Kd.pair d b) (fun y => G y.1 ∧ G2 y.2) := by
  constructor
  intro H enc W base spare held n cs xs hl hx hf hw
  have hl' : cs.length = off + (d.sz + b.sz) := hl
  match xs, hx with
  | x :: xs, hx =>
    simp only [List.map_cons, DataW.weightsEach, List.all_append, Bool.and_eq_true] at hw
    obtain ⟨y, hy, hG⟩ := hd.out (by have h0 := hf 0 f rfl; rw [ho, hs] at h0; exact h0) hw.1
    obtain ⟨z, hz, hG2⟩ := hb.out (cs := cs) (xs := xs) (by omega) (by simpa using hx) (fun i g hg => by have := hf (i + 1) g (by simpa using hg); simpa using this) hw.2
    refine ⟨(y, z), ⟨_, _, ?_, hy, hz⟩, hG, hG2⟩
    rw [← List.drop_drop, List.take_append_drop]
theorem Rd.struct {P : Program} {t : TypeId} {fs : Array Field} {α : Type} {d : Kd α} {G : α → Prop} (ht : P.underlying t = some (.struct fs)) (hs : P.cellsOf t = d.sz) (hd : RdF P fs.toList 0 d G) : Rd P t d G := by
  constructor
  intro H enc W base spare held fuel cs x h hw
  obtain ⟨xs, n, rfl, rfl, hl, hx, hf⟩ := DataW.trod_struct ht h
  simp only [DataW.weights, ht] at hw
  exact hd.out (by omega) (by simpa using hx) (fun i f hi => hf i f (by simpa using hi)) hw
theorem Rd.iso {P : Program} {t : TypeId} {α β : Type} {d : Kd α} {G : α → Prop} (f : β → α) (g : α → β) (hfg : ∀ y, f (g y) = y) (hd : Rd P t d G) : Rd P t (Kd.iso d f) (fun x => G (f x)) := by
  constructor
  intro H enc W base spare held fuel cs x h hw
  obtain ⟨y, hy, hG⟩ := hd.out h hw
  refine ⟨g y, ?_, ?_⟩
  · show d.K W (f (g y)) cs
    rw [hfg]; exact hy
  · show G (f (g y))
    rw [hfg]; exact hG
theorem Rd.imp {P : Program} {t : TypeId} {α : Type} {d : Kd α} {G G2 : α → Prop} (h : Rd P t d G) (hi : ∀ x, G x → G2 x) : Rd P t d G2 := by
  constructor
  intro H enc W base spare held fuel cs x hx hw
  obtain ⟨y, hy, hG⟩ := h.out hx hw
  exact ⟨y, hy, hi y hG⟩
/-- A value of more cells than one is an aggregate of them. -/
theorem agg_of {v : Value} {cs : List Value} (h : v.cells.toList = cs) (hl : 2 ≤ cs.length) : v = .agg cs.toArray := by
  cases v <;> (try (simp [Value.cells] at h; subst h; simp at hl; done))
  all_goals (simp only [Value.cells] at h; subst h; simp)
theorem slice_of {v : Value} {A : Option Addr} {n c : Nat} (h : v.cells.toList = [.slice A n c]) (hv : ∃ a l k, v = .slice a l k) : v = .slice A n c := by
  obtain ⟨a, l, k, rfl⟩ := hv
  simp [Value.cells] at h
  simp [h]
end Go.Proofs.Ytediidkiedifcaa.Rds
