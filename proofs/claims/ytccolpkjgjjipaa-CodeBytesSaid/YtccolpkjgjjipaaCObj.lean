/- The Go function code.Object. -/
import Derived.Test.YtccolpkjgjjipaaCEnv
import Derived.Deep.RegionHeld3
import Derived.Deep.DeepCutAuto
import Derived.Deep.CutBlock
import Derived.Lib.SmallJoins
import Derived.Laws.EntriesVeiled
namespace Go.Proofs.Ytccolpkjgjjipaa.K
open Go.RowKit Go.Proofs.YtccolpkjgjjipaaW.PrintWords Go.Proofs.YtccolpkjgjjipaaW.PrintLast Go.Proofs.YtccolpkjgjjipaaW.PrintMore
set_option linter.unusedVariables false
set_option linter.unusedSimpArgs false
abbrev OB := List Int × List Int × List Int × List Int × Int × Int × List S47 × List S47 × List S47 × List S47
/-- What bytes behind the first four tell, and whether they are bad. -/
def decF (bs : List Int) : OB × Bool :=
  let a := readF oneF bs false
  let b := readF oneF a.2.1 a.2.2
  let c := readF oneF b.2.1 b.2.2
  let d := readF oneF c.2.1 c.2.2
  let e := oneF d.2.1 d.2.2
  let f := oneF e.2.1 e.2.2
  let p := readF insF f.2.1 f.2.2
  let q := readF insF p.2.1 p.2.2
  let r := readF insF q.2.1 q.2.2
  let s := readF insF r.2.1 r.2.2
  ((a.1, b.1, c.1, d.1, e.1, f.1, p.1, q.1, r.1, s.1), s.2.2)
abbrev OR := List Int × List Int × List Int × List Int × Int × Int × List S47 × List S47 × List S47 × List S47 × Bool
def noObj : OR := ([], [], [], [], 0, 0, [], [], [], [], false)
def obBytes (o : OB) : List Int := bytesB o.1 o.2.1 o.2.2.1 o.2.2.2.1 o.2.2.2.2.1 o.2.2.2.2.2.1 o.2.2.2.2.2.2.1 o.2.2.2.2.2.2.2.1 o.2.2.2.2.2.2.2.2.1 o.2.2.2.2.2.2.2.2.2
def okObj (o : OB) : OR := (o.1, o.2.1, o.2.2.1, o.2.2.2.1, o.2.2.2.2.1, o.2.2.2.2.2.1, o.2.2.2.2.2.2.1, o.2.2.2.2.2.2.2.1, o.2.2.2.2.2.2.2.2.1, o.2.2.2.2.2.2.2.2.2, true)
def magicB (l : List Int) : Bool := decide (4 ≤ l.length) && sameB (l.take 4) [65, 83, 84, 49]
def code_Object.f (l : List Int) : Option OR :=
  if 1000000 < l.length then none else if magicB l = true then
    (if (decF (l.drop 4)).2 = true then some noObj else if sameB (obBytes (decF (l.drop 4)).1) l = true then some (okObj (decF (l.drop 4)).1) else some noObj)
  else some noObj
set_option maxHeartbeats 4000000 in
set_option maxRecDepth 100000 in
theorem object_no (A0 : Option Addr) (c0 : Nat) (l0 : List Int) (w : World) (hr0 : Kd.C (Kd.int .u8) w A0 l0.length l0) (hc0 : l0.length ≤ c0) (hm : magicB l0 = false) :
    Calls Try.prog 10 #[.slice A0 l0.length c0] w fun e w' => e = .returned (.tuple #[.agg #[.slice none 0 0, .slice none 0 0, .slice none 0 0, .slice none 0 0, .int .i64 0, .int .i64 0, .slice none 0 0, .slice none 0 0, .slice none 0 0, .slice none 0 0], .bool false]) ∧ Below w.heap.size w w' := by
  have kc := Joins.run_convert_bytes_const_at (P := Try.prog) (w.alloc (Obj.cells #[.slice none 0 0, .slice none 0 0, .slice none 0 0, .slice none 0 0, .int .i64 0, .int .i64 0, .slice none 0 0, .slice none 0 0, .slice none 0 0, .slice none 0 0] 28)) 22 5 #[.int .u8 65, .int .u8 83, .int .u8 84, .int .u8 49] 4 4 (w.heap.size + 1) (by simp) Try.underlying22 Try.underlying5
  have HR := Aside0.mk hr0
  have HM := Aside0.mk hm
  clear hr0 hm
  go_enter Try.func10, Try.ntmps10
  go_wp2_with (go_at_call 28; refine (cutPrefix_no A0 c0 (w.heap.size + 1) (4, 5) l0 _ (Kd.C_alloc (Kd.C_alloc HR.out _) _) hc0 (by have := blk_new (w.alloc (Obj.cells #[.slice none 0 0, .slice none 0 0, .slice none 0 0, .slice none 0 0, .int .i64 0, .int .i64 0, .slice none 0 0, .slice none 0 0, .slice none 0 0, .slice none 0 0] 28)) (Obj.cells #[.int .u8 65, .int .u8 83, .int .u8 84, .int .u8 49] 5 (4, 5)); simpa using this) HM.out).mono ?_; rintro e w2 ⟨rfl, rfl⟩)
  have hz : (((w.alloc (Obj.cells #[.slice none 0 0, .slice none 0 0, .slice none 0 0, .slice none 0 0, .int .i64 0, .int .i64 0, .slice none 0 0, .slice none 0 0, .slice none 0 0, .slice none 0 0] 28)).alloc (Obj.cells #[.int .u8 65, .int .u8 83, .int .u8 84, .int .u8 49] 5 (4, 5)))).heap[w.heap.size]? = some (.cells #[.slice none 0 0, .slice none 0 0, .slice none 0 0, .slice none 0 0, .int .i64 0, .int .i64 0, .slice none 0 0, .slice none 0 0, .slice none 0 0, .slice none 0 0] 28 (0, 0)) := blk_alloc (blk_new w _) _
  exact bodyPost_ret (results_list (rs := [.cell 2 28, .tmp 3]) rfl (by simp) (.cell w.heap.size 28 _ (0, 0) _ rfl hz Try.underlying28 rfl (by kernel_rfl) (.tmp .nil))) rfl ⟨rfl, ((Below.refl _ _).alloc (Nat.le_refl _) _).alloc (by simp) _⟩
#print axioms object_no
theorem env_start {w : World} {A0 : Option Addr} {c0 : Nat} {l0 : List Int} (hr : Kd.C (Kd.int .u8) w A0 l0.length l0) (hc : l0.length ≤ c0) (h4 : 4 ≤ l0.length) :
    Env w (((((w.alloc (Obj.cells #[.slice none 0 0, .slice none 0 0, .slice none 0 0, .slice none 0 0, .int .i64 0, .int .i64 0, .slice none 0 0, .slice none 0 0, .slice none 0 0, .slice none 0 0] 28)).alloc (Obj.cells #[.int .u8 65, .int .u8 83, .int .u8 84, .int .u8 49] 5 (4, 5))).alloc (Obj.cells #[.slice (cutA A0 c0) (l0.length - 4) (c0 - 4), .bool false] 52)).alloc (Obj.cells #[.pointer (some ⟨w.heap.size + 1 + 1, 0, none⟩)] 50)).alloc (Obj.cells #[fSmall (w.heap.size + 1 + 1 + 1)] 54)) (((((w.alloc (Obj.cells #[.slice none 0 0, .slice none 0 0, .slice none 0 0, .slice none 0 0, .int .i64 0, .int .i64 0, .slice none 0 0, .slice none 0 0, .slice none 0 0, .slice none 0 0] 28)).alloc (Obj.cells #[.int .u8 65, .int .u8 83, .int .u8 84, .int .u8 49] 5 (4, 5))).alloc (Obj.cells #[.slice (cutA A0 c0) (l0.length - 4) (c0 - 4), .bool false] 52)).alloc (Obj.cells #[.pointer (some ⟨w.heap.size + 1 + 1, 0, none⟩)] 50)).alloc (Obj.cells #[fSmall (w.heap.size + 1 + 1 + 1)] 54)) w.heap.size (w.heap.size + 1 + 1) (w.heap.size + 1 + 1 + 1) (w.heap.size + 1 + 1 + 1 + 1) (l0.drop 4) false := by
  have hb : Below w.heap.size w (((((w.alloc (Obj.cells #[.slice none 0 0, .slice none 0 0, .slice none 0 0, .slice none 0 0, .int .i64 0, .int .i64 0, .slice none 0 0, .slice none 0 0, .slice none 0 0, .slice none 0 0] 28)).alloc (Obj.cells #[.int .u8 65, .int .u8 83, .int .u8 84, .int .u8 49] 5 (4, 5))).alloc (Obj.cells #[.slice (cutA A0 c0) (l0.length - 4) (c0 - 4), .bool false] 52)).alloc (Obj.cells #[.pointer (some ⟨w.heap.size + 1 + 1, 0, none⟩)] 50)).alloc (Obj.cells #[fSmall (w.heap.size + 1 + 1 + 1)] 54)) := ((((((Below.refl _ _).alloc (Nat.le_refl _) _).alloc (by simp) _).alloc (by simp; omega) _).alloc (by simp; omega) _).alloc (by simp; omega) _)
  refine ⟨hb, blk_alloc (blk_alloc (blk_alloc (blk_alloc (blk_new w _) _) _) _) _, ?_, ?_, ⟨⟨cutA A0 c0, c0 - 4, ?_, by rw [List.length_drop]; omega, fun W' hk => C_cut h4 hc (Kd.C_kept_came (Kd.heap_int .u8) hr hb (fun k (e : k = _) => by omega) W' hk)⟩, Kept.refl _ _⟩, by omega⟩
  · refine blk_alloc ?_ _
    have := blk_new (((w.alloc (Obj.cells #[.slice none 0 0, .slice none 0 0, .slice none 0 0, .slice none 0 0, .int .i64 0, .int .i64 0, .slice none 0 0, .slice none 0 0, .slice none 0 0, .slice none 0 0] 28)).alloc (Obj.cells #[.int .u8 65, .int .u8 83, .int .u8 84, .int .u8 49] 5 (4, 5))).alloc (Obj.cells #[.slice (cutA A0 c0) (l0.length - 4) (c0 - 4), .bool false] 52)) (Obj.cells #[.pointer (some ⟨w.heap.size + 1 + 1, 0, none⟩)] 50)
    simpa using this
  · have := blk_new ((((w.alloc (Obj.cells #[.slice none 0 0, .slice none 0 0, .slice none 0 0, .slice none 0 0, .int .i64 0, .int .i64 0, .slice none 0 0, .slice none 0 0, .slice none 0 0, .slice none 0 0] 28)).alloc (Obj.cells #[.int .u8 65, .int .u8 83, .int .u8 84, .int .u8 49] 5 (4, 5))).alloc (Obj.cells #[.slice (cutA A0 c0) (l0.length - 4) (c0 - 4), .bool false] 52)).alloc (Obj.cells #[.pointer (some ⟨w.heap.size + 1 + 1, 0, none⟩)] 50)) (Obj.cells #[fSmall (w.heap.size + 1 + 1 + 1)] 54)
    simpa using this
  · refine blk_alloc (blk_alloc ?_ _) _
    have := blk_new ((w.alloc (Obj.cells #[.slice none 0 0, .slice none 0 0, .slice none 0 0, .slice none 0 0, .int .i64 0, .int .i64 0, .slice none 0 0, .slice none 0 0, .slice none 0 0, .slice none 0 0] 28)).alloc (Obj.cells #[.int .u8 65, .int .u8 83, .int .u8 84, .int .u8 49] 5 (4, 5))) (Obj.cells #[.slice (cutA A0 c0) (l0.length - 4) (c0 - 4), .bool false] 52)
    rw [List.length_drop]
    simpa using this
theorem far10 {W : World} {a : Addr} {v : Value} {g : Nat} {x0 x1 x2 x3 x4 x5 x6 x7 x8 x9 : Value} (h : W.cell? a = some v) (hne : a.block ≠ g) : ((((((((((W.setCell ⟨g, 0, none⟩ x0).setCell ⟨g, 1, none⟩ x1).setCell ⟨g, 2, none⟩ x2).setCell ⟨g, 3, none⟩ x3).setCell ⟨g, 4, none⟩ x4).setCell ⟨g, 5, none⟩ x5).setCell ⟨g, 6, none⟩ x6).setCell ⟨g, 7, none⟩ x7).setCell ⟨g, 8, none⟩ x8).setCell ⟨g, 9, none⟩ x9).cell? a = some v := by
  simp [World.cell?_setCell_far, hne, Ne.symm hne, h]
end Go.Proofs.Ytccolpkjgjjipaa.K
