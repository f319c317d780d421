/- The Go function code.Object: its contract. -/
import Derived.Test.YtccolpkjgjjipaaCObj2
namespace Go.Proofs.Ytccolpkjgjjipaa.K
set_option linter.unusedVariables false
set_option linter.unusedSimpArgs false
open Go.RowKit Go.Proofs.YtccolpkjgjjipaaW.PrintWords Go.Proofs.YtccolpkjgjjipaaW.PrintLast Go.Proofs.YtccolpkjgjjipaaW.PrintMore
theorem code_Object_f_eq {l : List Int} (h : l.length ≤ 1000000) : code_Object.f l = some (objF l) := by
  unfold code_Object.f objF
  rw [if_neg (by omega)]
  repeat' split
  all_goals rfl
theorem code_Object_f_len {l : List Int} {t : OR} (h : code_Object.f l = some t) : l.length ≤ 1000000 := by
  unfold code_Object.f at h
  split at h
  · cases h
  · omega
theorem code_Object.calls (A0 : Option Addr) (c0 : Nat) (l0 : List Int) (t0 t1 t2 t3 : List Int) (t4 t5 : Int) (t6 t7 t8 t9 : List S47) (t10 : Bool) (w : World) (hr0 : Kd.C (Kd.int .u8) w A0 l0.length l0) (hc0 : l0.length ≤ c0)
    (h : code_Object.f l0 = some (t0, t1, t2, t3, t4, t5, t6, t7, t8, t9, t10)) :
    Calls Try.prog 10 #[.slice A0 l0.length c0] w fun e w' => ∃ v0 v1 v2 v3 v6 v7 v8 v9 : Value, e = .returned (.tuple #[.agg #[v0, v1, v2, v3, .int .i64 t4, .int .i64 t5, v6, v7, v8, v9], .bool t10]) ∧
      Kd.R (Kd.int .i64) 3 w' w.heap.size (fun _ => True) v0 t0 ∧ Kd.R (Kd.int .i64) 3 w' w.heap.size (fun _ => True) v1 t1 ∧ Kd.R (Kd.int .i64) 2 w' w.heap.size (fun _ => True) v2 t2 ∧ Kd.R (Kd.int .i64) 2 w' w.heap.size (fun _ => True) v3 t3 ∧
      Kd.R k47 47 w' w.heap.size (fun _ => True) v6 t6 ∧ Kd.R k47 47 w' w.heap.size (fun _ => True) v7 t7 ∧ Kd.R k47 47 w' w.heap.size (fun _ => True) v8 t8 ∧ Kd.R k47 47 w' w.heap.size (fun _ => True) v9 t9 ∧ Below w.heap.size w w' := by
  have hl := code_Object_f_len h
  have ho : objF l0 = (t0, t1, t2, t3, t4, t5, t6, t7, t8, t9, t10) := by
    rw [code_Object_f_eq hl] at h
    exact Option.some.inj h
  show Calls Try.prog 10 #[.slice A0 l0.length c0] w (ObjPost w (t0, t1, t2, t3, t4, t5, t6, t7, t8, t9, t10))
  cases hm : magicB l0 with
  | true =>
    have := object_yes A0 c0 l0 w hr0 hc0 hm hl
    rw [ho] at this
    exact this
  | false =>
    refine (object_no A0 c0 l0 w hr0 hc0 hm).mono ?_
    rintro e w' ⟨rfl, hb⟩
    rw [← ho]
    unfold objF
    rw [hm, if_neg (by decide)]
    exact noObj_post hb rfl
#print axioms code_Object.calls
end Go.Proofs.Ytccolpkjgjjipaa.K
