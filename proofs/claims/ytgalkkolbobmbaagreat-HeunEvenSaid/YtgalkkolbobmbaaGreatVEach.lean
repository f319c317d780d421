/- heun's each, for the two closures of along and Step; the sum of flags. -/
import Derived.Test.YtgalkkolbobmbaaGreatVMade
namespace Go.Proofs.YtgalkkolbobmbaaGreat.V
open Go.RowKit Go.Proofs.YtgalkkolbobmbaaGreatW.PrintWords Go.Proofs.YtgalkkolbobmbaaGreatW.PrintLast Go.Proofs.YtgalkkolbobmbaaGreatW.PrintMore
set_option linter.unusedVariables false
set_option linter.unusedSimpArgs false
/-- A sum of flags at block S. -/
def FlagAt (S : Nat) (fl : Int) (w : World) : Prop := w.heap[S]? = some (.cells #[.int .i64 fl] 124 (0, 0))
theorem of_any (S : Nat) (fl v f : Int) (w : World) (hS : FlagAt S fl w) :
    Calls Tryz.prog 73 #[.pointer (some ⟨S, 0, none⟩), .int .i64 v, .int .i64 f] w fun e w' => e = .returned (.int .i64 v) ∧ FlagAt S (Go.bits .or .i64 fl f) w' ∧ Chg (fun k => k = S) w w' := by
  have c := cell_of_one hS
  have fz := free_of_one hS
  have HN := Aside0.mk (one_setCell (u := .int .i64 (Go.bits .or .i64 fl f)) hS)
  clear hS
  go_enter Tryz.func73, Tryz.ntmps73
  go_wp2
  go_ret
  exact ⟨rfl, HN.out, Chg.setCell (S := fun k => k = S) (p := ⟨S, 0, none⟩) (Chg.refl _ w) (.inl rfl) _⟩
/-- The values of the first n calls. -/
def tabV (V : Nat → Int) : Nat → List Int
  | 0 => []
  | n + 1 => tabV V n ++ [V n]
theorem tabV_length (V : Nat → Int) : ∀ n, (tabV V n).length = n
  | 0 => rfl
  | n + 1 => by simp [tabV, tabV_length V n]
def tabRow (p : List Int) (L : Nat) : List Int := p ++ List.replicate (L - p.length) 0
theorem tabRow_length (p : List Int) (L : Nat) (h : p.length ≤ L) : (tabRow p L).length = L := by simp [tabRow]; omega
theorem tabRow_full (p : List Int) : tabRow p p.length = p := by simp [tabRow]
theorem tabRow_set (p : List Int) (L : Nat) (q : Int) (h : p.length < L) : (tabRow p L).set p.length q = tabRow (p ++ [q]) L := by
  unfold tabRow
  rw [List.set_append_right _ _ (Nat.le_refl _), Nat.sub_self]
  obtain ⟨d, hd⟩ : ∃ d, L - p.length = d + 1 := ⟨L - p.length - 1, by omega⟩
  have hd' : L - (p ++ [q]).length = d := by simp; omega
  rw [hd, hd', List.replicate_succ, List.set_cons_zero, List.append_assoc]
  rfl
set_option maxHeartbeats 4000000 in
set_option maxRecDepth 100000 in
theorem each131 (z0 z1 z2 z3 : Value) (L : Nat) (w : World) (S : Nat) (V Fl : Nat → Int) (hL : L ≤ 100000) (hS : FlagAt S (Fl 0) w)
    (hstep : ∀ n W, n < L → Chg (fun k => k = S) w W → FlagAt S (Fl n) W → Calls Tryz.prog 131 #[.int .i64 (n : Int), z0, z1, z2, z3] W fun e W' => e = .returned (.int .i64 (V n)) ∧ FlagAt S (Fl (n + 1)) W' ∧ Chg (fun k => k = S) W W') :
    Calls Tryz.prog 75 #[.int .i64 (L : Int), .func (.func 131) #[] #[z0, z1, z2, z3]] w fun e w' => ∃ v, e = .returned v ∧ Kd.R (Kd.int .i64) 2 w' w.heap.size (fun _ => True) v (tabV V L) ∧ FlagAt S (Fl L) w' ∧ Chg (fun k => k = S) w w' := by
  have hSl : S < w.heap.size := lt_of_block hS
  have HS0 := Aside0.mk hS
  have HST := Aside0.mk hstep
  clear hS hstep
  go_enter Tryz.func75, Tryz.ntmps75
  go_wp2_with ((with_reducible refine gate_dst (N := 8) rfl ?_); refine Kd.R_make (Kd.int .i64) (w0 := w) w.heap.size 2 rfl (N := 8) rfl 23 _ _ rfl (L : Int) rfl rfl Tryz.underlying23 (.int .i64 0) 8 row2 rfl (by decide) (by decide) (0 : Int) (ok := fun _ => True) (okp := fun _ => True) rfl (fun _ hk => hk) trivial (by omega) (by omega) (Below.refl _ _) (Nat.le_refl _) ?_; intro v1 w1 ho1 hb1 hg1 hn1; rw [show List.replicate (L : Int).toNat (0 : Int) = tabRow [] L by simp [tabRow]] at ho1; obtain ⟨A, c, rfl⟩ := Kd.R_slice ho1; rw [tabRow_length [] L (by simp)] at ho1; rw [tabRow_length [] L (by simp)])
  have HS1 := Aside0.mk (show FlagAt S (Fl 0) w1 from (hg1.block _ hSl (fun e => by cases e)).trans HS0.out)
  have HG1 := Aside0.mk (show Chg (fun k => k = S) w w1 from ⟨hg1.os, hg1.tape, hg1.output, hg1.size, fun k hk _ => hg1.block k hk (fun e => by cases e)⟩)
  have HO1 := Aside0.mk ho1
  clear hg1 hb1 hn1 ho1 HS0
  go_loopw [11] (fun i wr => ∃ (n : Nat), i = .int .i64 n ∧ n ≤ L ∧ Aside0 (Kd.R (Kd.int .i64) 2 wr w.heap.size (fun _ => True) (.slice A L c) (tabRow (tabV V n) L)) ∧ Aside0 (FlagAt S (Fl n) wr) ∧ Aside0 (Chg (fun k => k = S) w wr)) (fun i _ => L - (intOf i).toNat)
  case atStart => exact ⟨0, rfl, Nat.zero_le _, HO1, HS1, HG1⟩
  case round =>
    clear HO1 HS1 HG1
    obtain ⟨n, rfl, hn, HO, HS, HG⟩ := hrel
    have hpl := tabV_length V n
    have HPL := Aside0.mk hpl
    clear hpl
    by_cases hlt : n < L
    · have hltb : decide ((n : Int) < (L : Int)) = true := decide_eq_true (by omega)
      have hrl : (tabRow (tabV V n) L).length = L := tabRow_length _ L (by rw [HPL.out]; omega)
      obtain ⟨g, cg, eg, gb, gl, cl, HGF⟩ := Kd.R_form HO.out (by rw [hrl]; omega)
      rw [hrl] at eg
      injection eg with eA _ ec
      subst ec
      subst eA
      clear HGF gl cl
      go_wp2_with (go_at_call 131; (refine (HST.out n wr hlt HG.out HS.out).mono ?_); rintro e w2 ⟨rfl, hs2, hc2⟩; have HO2 := Aside0.mk (Kd.R_mono (Kd.R_step (Kd.R_types HO.out HS.out (by decide)) (fun k hk hl => hc2.block k hl hk.2)) (fun _ _ => trivial : ∀ k_, _ → True)); have HC2 := Aside0.mk hs2; have HG2 := Aside0.mk (HG.out.then_ hc2 (fun _ hi => .inl hi)); clear hs2 hc2; have hcell := (Kd.R_cell (0 : Int) (by rw [hrl]; exact HO2.out) (n : Int) (by omega) (by rw [hrl]; omega)).1; have hfree := (Kd.R_cell (0 : Int) (by rw [hrl]; exact HO2.out) (n : Int) (by omega) (by rw [hrl]; omega)).2; rw [Int.toNat_natCast] at hcell hfree)
      go_roundw
      case rel => exact ⟨n + 1, by go_num, by omega, ⟨by have h := (Kd.R_put (by rw [hrl]; exact HO2.out) (n : Int) (V n)).1; rw [Int.toNat_natCast, hrl] at h; have e := tabRow_set (tabV V n) L (V n) (by rw [HPL.out]; exact hlt); rw [HPL.out] at e; rw [e] at h; exact h⟩, ⟨(heap_setCell_other w2 ⟨g, n, none⟩ S _ (fun e => by have : S = g := e; omega)).trans HC2.out⟩, ⟨HG2.out.setCell (p := ⟨g, n, none⟩) (.inr gb) _⟩⟩
      case measure => simp [intOf]; omega
    · obtain rfl : n = L := by omega
      have hltb : decide ((n : Int) < (n : Int)) = false := decide_eq_false (by omega)
      have HO2 := Aside0.mk (show Kd.R (Kd.int .i64) 2 wr w.heap.size (fun _ => True) (.slice A n c) (tabV V n) from by have h := HO.out; rw [show tabRow (tabV V n) n = tabV V n by (have e := tabRow_full (tabV V n); rwa [HPL.out] at e)] at h; exact h)
      go_wp2
      go_ret
      exact ⟨_, rfl, HO2.out, HS.out, HG.out⟩
set_option maxHeartbeats 4000000 in
set_option maxRecDepth 100000 in
theorem each76 (z0 z1 z2 : Value) (L : Nat) (w : World) (S : Nat) (V Fl : Nat → Int) (hL : L ≤ 100000) (hS : FlagAt S (Fl 0) w)
    (hstep : ∀ n W, n < L → Chg (fun k => k = S) w W → FlagAt S (Fl n) W → Calls Tryz.prog 76 #[.int .i64 (n : Int), z0, z1, z2] W fun e W' => e = .returned (.int .i64 (V n)) ∧ FlagAt S (Fl (n + 1)) W' ∧ Chg (fun k => k = S) W W') :
    Calls Tryz.prog 75 #[.int .i64 (L : Int), .func (.func 76) #[] #[z0, z1, z2]] w fun e w' => ∃ v, e = .returned v ∧ Kd.R (Kd.int .i64) 2 w' w.heap.size (fun _ => True) v (tabV V L) ∧ FlagAt S (Fl L) w' ∧ Chg (fun k => k = S) w w' := by
  have hSl : S < w.heap.size := lt_of_block hS
  have HS0 := Aside0.mk hS
  have HST := Aside0.mk hstep
  clear hS hstep
  go_enter Tryz.func75, Tryz.ntmps75
  go_wp2_with ((with_reducible refine gate_dst (N := 8) rfl ?_); refine Kd.R_make (Kd.int .i64) (w0 := w) w.heap.size 2 rfl (N := 8) rfl 23 _ _ rfl (L : Int) rfl rfl Tryz.underlying23 (.int .i64 0) 8 row2 rfl (by decide) (by decide) (0 : Int) (ok := fun _ => True) (okp := fun _ => True) rfl (fun _ hk => hk) trivial (by omega) (by omega) (Below.refl _ _) (Nat.le_refl _) ?_; intro v1 w1 ho1 hb1 hg1 hn1; rw [show List.replicate (L : Int).toNat (0 : Int) = tabRow [] L by simp [tabRow]] at ho1; obtain ⟨A, c, rfl⟩ := Kd.R_slice ho1; rw [tabRow_length [] L (by simp)] at ho1; rw [tabRow_length [] L (by simp)])
  have HS1 := Aside0.mk (show FlagAt S (Fl 0) w1 from (hg1.block _ hSl (fun e => by cases e)).trans HS0.out)
  have HG1 := Aside0.mk (show Chg (fun k => k = S) w w1 from ⟨hg1.os, hg1.tape, hg1.output, hg1.size, fun k hk _ => hg1.block k hk (fun e => by cases e)⟩)
  have HO1 := Aside0.mk ho1
  clear hg1 hb1 hn1 ho1 HS0
  go_loopw [11] (fun i wr => ∃ (n : Nat), i = .int .i64 n ∧ n ≤ L ∧ Aside0 (Kd.R (Kd.int .i64) 2 wr w.heap.size (fun _ => True) (.slice A L c) (tabRow (tabV V n) L)) ∧ Aside0 (FlagAt S (Fl n) wr) ∧ Aside0 (Chg (fun k => k = S) w wr)) (fun i _ => L - (intOf i).toNat)
  case atStart => exact ⟨0, rfl, Nat.zero_le _, HO1, HS1, HG1⟩
  case round =>
    clear HO1 HS1 HG1
    obtain ⟨n, rfl, hn, HO, HS, HG⟩ := hrel
    have hpl := tabV_length V n
    have HPL := Aside0.mk hpl
    clear hpl
    by_cases hlt : n < L
    · have hltb : decide ((n : Int) < (L : Int)) = true := decide_eq_true (by omega)
      have hrl : (tabRow (tabV V n) L).length = L := tabRow_length _ L (by rw [HPL.out]; omega)
      obtain ⟨g, cg, eg, gb, gl, cl, HGF⟩ := Kd.R_form HO.out (by rw [hrl]; omega)
      rw [hrl] at eg
      injection eg with eA _ ec
      subst ec
      subst eA
      clear HGF gl cl
      go_wp2_with (go_at_call 76; (refine (HST.out n wr hlt HG.out HS.out).mono ?_); rintro e w2 ⟨rfl, hs2, hc2⟩; have HO2 := Aside0.mk (Kd.R_mono (Kd.R_step (Kd.R_types HO.out HS.out (by decide)) (fun k hk hl => hc2.block k hl hk.2)) (fun _ _ => trivial : ∀ k_, _ → True)); have HC2 := Aside0.mk hs2; have HG2 := Aside0.mk (HG.out.then_ hc2 (fun _ hi => .inl hi)); clear hs2 hc2; have hcell := (Kd.R_cell (0 : Int) (by rw [hrl]; exact HO2.out) (n : Int) (by omega) (by rw [hrl]; omega)).1; have hfree := (Kd.R_cell (0 : Int) (by rw [hrl]; exact HO2.out) (n : Int) (by omega) (by rw [hrl]; omega)).2; rw [Int.toNat_natCast] at hcell hfree)
      go_roundw
      case rel => exact ⟨n + 1, by go_num, by omega, ⟨by have h := (Kd.R_put (by rw [hrl]; exact HO2.out) (n : Int) (V n)).1; rw [Int.toNat_natCast, hrl] at h; have e := tabRow_set (tabV V n) L (V n) (by rw [HPL.out]; exact hlt); rw [HPL.out] at e; rw [e] at h; exact h⟩, ⟨(heap_setCell_other w2 ⟨g, n, none⟩ S _ (fun e => by have : S = g := e; omega)).trans HC2.out⟩, ⟨HG2.out.setCell (p := ⟨g, n, none⟩) (.inr gb) _⟩⟩
      case measure => simp [intOf]; omega
    · obtain rfl : n = L := by omega
      have hltb : decide ((n : Int) < (n : Int)) = false := decide_eq_false (by omega)
      have HO2 := Aside0.mk (show Kd.R (Kd.int .i64) 2 wr w.heap.size (fun _ => True) (.slice A n c) (tabV V n) from by have h := HO.out; rw [show tabRow (tabV V n) n = tabV V n by (have e := tabRow_full (tabV V n); rwa [HPL.out] at e)] at h; exact h)
      go_wp2
      go_ret
      exact ⟨_, rfl, HO2.out, HS.out, HG.out⟩
end Go.Proofs.YtgalkkolbobmbaaGreat.V
