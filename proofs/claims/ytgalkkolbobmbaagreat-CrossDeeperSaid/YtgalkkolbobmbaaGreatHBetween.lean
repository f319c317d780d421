/- heun.Between: the walk of each, of the closure and of the sum of flags. -/
import Derived.Test.YtgalkkolbobmbaaGreatVClone
import Derived.Test.YtgalkkolbobmbaaGreatHBet0
import Derived.OneCell

namespace Go.Proofs.YtgalkkolbobmbaaGreat.Q
open Go.RowKit Go.Proofs.YtgalkkolbobmbaaGreatW.PrintWords Go.Proofs.YtgalkkolbobmbaaGreatW.PrintLast Go.Proofs.YtgalkkolbobmbaaGreatW.PrintMore
set_option linter.unusedVariables false
set_option linter.unusedSimpArgs false

theorem grown_setOne (w : World) (S : Nat) (u : Value) : w.grownBy (w.setCell ⟨S, 0, none⟩ u) (some S) :=
 ⟨rfl, rfl, rfl, by simp, fun k _ hk => heap_setCell_other w ⟨S, 0, none⟩ k u (fun e => hk (by simp [e]))⟩
theorem sum_of_any (S : Nat) (fl v f : Int) (w : World) (hS : w.heap[S]? = some (.cells #[.int .i64 fl] 124 (0, 0))) :
 Calls Tryz.prog 73 #[.pointer (some ⟨S, 0, none⟩), .int .i64 v, .int .i64 f] w fun e w' => e = .returned (.int .i64 v) ∧ w'.heap[S]? = some (.cells #[.int .i64 (Go.bits .or .i64 fl f)] 124 (0, 0)) ∧ w.grownBy w' (some S) := by
 have c := cell_of_one hS
 have fz := free_of_one hS
 have HN := Aside0.mk (one_setCell (u := .int .i64 (Go.bits .or .i64 fl f)) hS)
 clear hS
 go_enter Tryz.func73, Tryz.ntmps73
 go_wp2
 go_ret
 exact ⟨rfl, HN.out, grown_setOne w S _⟩
/-! the closure -/
theorem grown_trans {w w1 w2 : World} {row : Option Nat} (h : w.grownBy w1 row) (k : w1.grownBy w2 row) : w.grownBy w2 row :=
 ⟨k.os.trans h.os, k.tape.trans h.tape, k.output.trans h.output, Nat.le_trans h.size k.size, fun j hj hr => (k.block j (Nat.lt_of_lt_of_le hj h.size) hr).trans (h.block j hj hr)⟩
theorem grown_of_below' {w w1 : World} (S : Nat) (h : Below w.heap.size w.drew w1) : w.grownBy w1 (some S) :=
 ⟨h.os, h.tape, h.output, h.size, fun j hj _ => h.block j hj⟩
/-- The world in which the closure is called: the sum, the four boxes, the lists. -/
structure CloW (W0 : World) (S BA BB BP BK : Nat) (ad0 ad1 : Addr) (n0 n1 c0 c1 : Nat) (l0 l1 : List Int) (a2 a3 x fl : Int) (w : World) : Prop where
 hS : w.heap[S]? = some (.cells #[.int .i64 fl] 124 (0, 0))
 hA : w.heap[BA]? = some (.cells #[.slice (some ad0) n0 c0] 23 (0, 0))
 hB : w.heap[BB]? = some (.cells #[.slice (some ad1) n1 c1] 23 (0, 0))
 hP : w.heap[BP]? = some (.cells #[.int .i64 a2] 3 (0, 0))
 hK : w.heap[BK]? = some (.cells #[.int .i64 a3] 3 (0, 0))
 b0 : Below W0.heap.size W0 w
 lt : W0.heap.size ≤ S
 e0 : W0.cell? (ad0.add x.toNat) = some (.int .i64 (rd l0 x))
 e1 : W0.cell? (ad1.add x.toNat) = some (.int .i64 (rd l1 x))
theorem ne_of_type {w : World} {S B t : Nat} {x y : Array Value} (hS : w.heap[S]? = some (.cells x 124 (0, 0))) (hB : w.heap[B]? = some (.cells y t (0, 0))) (ht : t ≠ 124) : some B ≠ some S := fun e => by
 cases e
 rw [hS] at hB
 injection hB with hB
 injection hB with _ hB
 exact ht hB.symm
section
variable {W0 : World} {S BA BB BP BK : Nat} {ad0 ad1 : Addr} {n0 n1 c0 c1 : Nat} {l0 l1 : List Int} {a2 a3 x fl : Int} {w w' : World}
theorem CloW.below (h : CloW W0 S BA BB BP BK ad0 ad1 n0 n1 c0 c1 l0 l1 a2 a3 x fl w) (hb : Below w.heap.size w.drew w') : CloW W0 S BA BB BP BK ad0 ad1 n0 n1 c0 c1 l0 l1 a2 a3 x fl w' where
 hS := (hb.block _ (lt_of_block h.hS)).trans h.hS
 hA := (hb.block _ (lt_of_block h.hA)).trans h.hA
 hB := (hb.block _ (lt_of_block h.hB)).trans h.hB
 hP := (hb.block _ (lt_of_block h.hP)).trans h.hP
 hK := (hb.block _ (lt_of_block h.hK)).trans h.hK
 b0 := below_step (below_drew1 h.b0) hb
 lt := h.lt
 e0 := h.e0
 e1 := h.e1
theorem CloW.cells (h : CloW W0 S BA BB BP BK ad0 ad1 n0 n1 c0 c1 l0 l1 a2 a3 x fl w) : w.cell? ⟨BA, 0, none⟩ = some (.slice (some ad0) n0 c0) ∧ w.cell? ⟨BB, 0, none⟩ = some (.slice (some ad1) n1 c1) ∧ w.cell? ⟨BP, 0, none⟩ = some (.int .i64 a2) ∧ w.cell? ⟨BK, 0, none⟩ = some (.int .i64 a3) ∧ w.cell? (ad0.add x.toNat) = some (.int .i64 (rd l0 x)) ∧ w.cell? (ad1.add x.toNat) = some (.int .i64 (rd l1 x)) :=
 ⟨cell_of_one h.hA, cell_of_one h.hB, cell_of_one h.hP, cell_of_one h.hK, (h.b0.cell (World.block_lt_of_cell? W0 _ h.e0)).trans h.e0, (h.b0.cell (World.block_lt_of_cell? W0 _ h.e1)).trans h.e1⟩
theorem CloW.grown {fl' : Int} (h : CloW W0 S BA BB BP BK ad0 ad1 n0 n1 c0 c1 l0 l1 a2 a3 x fl w) (hg : w.grownBy w' (some S)) (hS : w'.heap[S]? = some (.cells #[.int .i64 fl'] 124 (0, 0))) : CloW W0 S BA BB BP BK ad0 ad1 n0 n1 c0 c1 l0 l1 a2 a3 x fl' w' where
 hS := hS
 hA := (hg.block _ (lt_of_block h.hA) (ne_of_type h.hS h.hA (by decide))).trans h.hA
 hB := (hg.block _ (lt_of_block h.hB) (ne_of_type h.hS h.hB (by decide))).trans h.hB
 hP := (hg.block _ (lt_of_block h.hP) (ne_of_type h.hS h.hP (by decide))).trans h.hP
 hK := (hg.block _ (lt_of_block h.hK) (ne_of_type h.hS h.hK (by decide))).trans h.hK
 b0 := h.b0.grown hg h.b0.size (fun k hk => by injection hk with hk; subst hk; exact h.lt)
 lt := h.lt
 e0 := h.e0
 e1 := h.e1
end
def clo_T : Bool × List (List Nat × List Nat) := (true, [([], []), ([], []), ([0, 1], [0, 1]), ([2], [2]), ([], []), ([], []), ([4, 5], [4, 5]), ([6], [6]), ([], []), ([], []), ([3, 7, 8, 9], [3, 7, 8, 9]), ([10], [10]), ([10], [10]), ([11, 12, 10], [11, 12]), ([13, 13, 0, 1, 2, 3, 4, 5, 6, 7, 8, 9, 10, 11, 12, 13], [13])])
def clo_B : List Nat := [0, 0, 3, 7, 0, 0, 48, 112, 0, 0, 1023, 2047, 2047, 8191, 16383]
theorem clo_tab : rtab .any (opsOf Tryz.f79 1) = clo_T := by kernel_rfl
theorem clo_bits : waitsOk clo_T.2 clo_B = true := by kernel_rfl
set_option maxHeartbeats 2000000 in
set_option maxRecDepth 100000 in
theorem clo_any (k : Nat) (W0 : World) (S BA BB BP BK : Nat) (ad0 ad1 : Addr) (n0 n1 c0 c1 : Nat) (l0 l1 : List Int) (a2 a3 x fl q1 q2 : Int) (p : 0 ≤ x) (p0 : x < (n0 : Int)) (p1 : x < (n1 : Int)) (w : World)
 (hq : fixq_Lerp.f k (rd l0 x) (rd l1 x) a2 a3 = some (q1, q2)) (hw : CloW W0 S BA BB BP BK ad0 ad1 n0 n1 c0 c1 l0 l1 a2 a3 x fl w) :
 Calls Tryz.prog 79 #[.int .i64 x, .pointer (some ⟨S, 0, none⟩), .pointer (some ⟨BA, 0, none⟩), .pointer (some ⟨BB, 0, none⟩), .pointer (some ⟨BP, 0, none⟩), .pointer (some ⟨BK, 0, none⟩)] w
  fun e w' => e = .returned (.int .i64 q1) ∧ CloW W0 S BA BB BP BK ad0 ad1 n0 n1 c0 c1 l0 l1 a2 a3 x (Go.bits .or .i64 fl q2) w' ∧ w.grownBy w' (some S) := by
 have HQ := Aside0.mk hq
 have HH := Aside0.mk hw
 clear hq hw
 replace p := eq_true p
 replace p0 := eq_true p0
 replace p1 := eq_true p1
 go_enter Tryz.func79, Tryz.ntmps79
 go_wp2
 refine start_ (n := 15) (S := fun w' => w'.cell? ⟨BA, 0, none⟩ = some (.slice (some ad0) n0 c0) ∧ w'.cell? ⟨BB, 0, none⟩ = some (.slice (some ad1) n1 c1) ∧ w'.cell? ⟨BP, 0, none⟩ = some (.int .i64 a2) ∧ w'.cell? ⟨BK, 0, none⟩ = some (.int .i64 a3) ∧ w'.cell? (ad0.add x.toNat) = some (.int .i64 (rd l0 x)) ∧ w'.cell? (ad1.add x.toNat) = some (.int .i64 (rd l1 x))) (ds := []) (Array.replicate 15 false) (by kernel_rfl) rfl rfl HH.out.cells (fun hHeld => ?_); refine with_tabW clo_tab clo_bits (fun HT_ HW_ => ?_)
 refine pu HT_ 1 9 rfl rfl (by kernel_rfl) (fun _ _ _ h => h) (by rfl) (by intro w'; go_simp; with_reducible rfl) (by simp only [Act.put, sA, sB, sC, i64_w, i32_w]; rfl) ?_
 refine pu HT_ 5 13 rfl rfl (by kernel_rfl) (fun _ _ _ h => h) (by rfl) (by intro w'; go_simp; with_reducible rfl) (by simp only [Act.put, sA, sB, sC, i64_w, i32_w]; rfl) ?_
 refine tk HT_ HW_ hHeld 0 8 rfl rfl (by kernel_rfl) (fun _ _ _ h => h) (by rfl) (by rintro w' ⟨s0, s1, s2, s3, s4, s5⟩; go_simp; with_reducible rfl) (by simp only [Act.put, sA, sB, sC, i64_w, i32_w]; rfl) ?_
 refine tk HT_ HW_ hHeld 4 12 rfl rfl (by kernel_rfl) (fun _ _ _ h => h) (by rfl) (by rintro w' ⟨s0, s1, s2, s3, s4, s5⟩; go_simp; with_reducible rfl) (by simp only [Act.put, sA, sB, sC, i64_w, i32_w]; rfl) ?_
 refine tk HT_ HW_ hHeld 8 16 rfl rfl (by kernel_rfl) (fun _ _ _ h => h) (by rfl) (by rintro w' ⟨s0, s1, s2, s3, s4, s5⟩; go_simp; with_reducible rfl) (by simp only [Act.put, sA, sB, sC, i64_w, i32_w]; rfl) ?_
 refine tk HT_ HW_ hHeld 9 17 rfl rfl (by kernel_rfl) (fun _ _ _ h => h) (by rfl) (by rintro w' ⟨s0, s1, s2, s3, s4, s5⟩; go_simp; with_reducible rfl) (by simp only [Act.put, sA, sB, sC, i64_w, i32_w]; rfl) ?_
 refine pu HT_ 2 10 rfl rfl (by kernel_rfl) (fun _ _ _ h => h) (by rfl) (by intro w'; go_simp; with_reducible rfl) (by simp only [Act.put, sA, sB, sC, i64_w, i32_w]; rfl) ?_
 refine pu HT_ 6 14 rfl rfl (by kernel_rfl) (fun _ _ _ h => h) (by rfl) (by intro w'; go_simp; with_reducible rfl) (by simp only [Act.put, sA, sB, sC, i64_w, i32_w]; rfl) ?_
 refine tk HT_ HW_ hHeld 3 11 rfl rfl (by kernel_rfl) (fun _ _ _ h => h) (by rfl) (by rintro w' ⟨s0, s1, s2, s3, s4, s5⟩; go_simp; with_reducible rfl) (by simp only [Act.put, sA, sB, sC, i64_w, i32_w]; rfl) ?_
 refine tk HT_ HW_ hHeld 7 15 rfl rfl (by kernel_rfl) (fun _ _ _ h => h) (by rfl) (by rintro w' ⟨s0, s1, s2, s3, s4, s5⟩; go_simp; with_reducible rfl) (by simp only [Act.put, sA, sB, sC, i64_w, i32_w]; rfl) ?_
 refine on1 HT_ 10 (some 18) rfl rfl (by kernel_rfl) (by decide) (fun K hK => ?_)
 refine goes_ Tryz.func80 (by kernel_rfl) rfl #[.int .i64 (rd l0 x), .int .i64 (rd l1 x), .int .i64 a2, .int .i64 a3] (by rfl) rfl rfl (by (try simp only [List.map_toArray, List.map_cons, List.map_nil]); first | done | rfl) ?_
 with_reducible refine (fixq_Lerp.calls k (rd l0 x) (rd l1 x) a2 a3 q1 q2 _ HQ.out).mono ?_
 rintro e w1 ⟨rfl, hb1⟩
 refine ⟨_, rfl, ?_⟩
 have HH1 := Aside0.mk (HH.out.below hb1)
 have HB1 := Aside0.mk (show w.grownBy w1 (some S) from grown_of_below' S (show Below w.heap.size w.drew w1 from hb1))
 clear hb1
 refine hK.out _ _ HH1.out.cells (fun hHeld => ?_)
 clear hK K
 refine norm_ (by show Act.put _ (some 18) _ = _; simp only [Act.put, sA, sB, sC, i64_w, i32_w]; rfl) ?_
 refine pu HT_ 11 19 rfl rfl (by kernel_rfl) (fun _ _ _ h => h) (by rfl) (by intro w'; go_simp; with_reducible rfl) (by simp only [Act.put, sA, sB, sC, i64_w, i32_w]; rfl) ?_
 refine pu HT_ 12 20 rfl rfl (by kernel_rfl) (fun _ _ _ h => h) (by rfl) (by intro w'; go_simp; with_reducible rfl) (by simp only [Act.put, sA, sB, sC, i64_w, i32_w]; rfl) ?_
 refine on1 HT_ 13 (some 21) rfl rfl (by kernel_rfl) (by decide) (fun K hK => ?_)
 refine goes_ Tryz.func73 (by kernel_rfl) rfl #[.pointer (some ⟨S, 0, none⟩), .int .i64 q1, .int .i64 q2] (by rfl) rfl rfl (by (try simp only [List.map_toArray, List.map_cons, List.map_nil]); first | done | rfl) ?_
 with_reducible refine (sum_of_any S fl q1 q2 _ HH1.out.hS).mono ?_
 rintro e w2 ⟨rfl, hS2, hg2⟩
 refine ⟨_, rfl, ?_⟩
 have HF := Aside0.mk (And.intro hS2 (grown_trans HB1.out hg2))
 have HC := Aside0.mk (HH1.out.grown hg2 hS2)
 clear hS2 hg2
 refine hK.out _ _ HC.out.cells (fun hHeld => ?_)
 clear hK K
 refine norm_ (by show Act.put _ (some 21) _ = _; simp only [Act.put, sA, sB, sC, i64_w, i32_w]; rfl) ?_
 refine pu HT_ 14 7 rfl rfl (by kernel_rfl) (fun _ _ _ h => h) (by rfl) (by intro w'; go_simp; with_reducible rfl) (by simp only [Act.put, sA, sB, sC, i64_w, i32_w]; rfl) ?_
 refine done_ (done_of HT_.out (by kernel_rfl)) ?_
 try go_wp2
 go_ret
 exact ⟨rfl, HC.out, HF.out.2⟩
/-! each -/
theorem grown_new {w w1 w2 : World} {row : Option Nat} {g : Nat} (h : w.grownBy w1 row) (k : w1.grownBy w2 (some g)) (hg : w.heap.size ≤ g) : w.grownBy w2 row :=
 ⟨k.os.trans h.os, k.tape.trans h.tape, k.output.trans h.output, Nat.le_trans h.size k.size, fun j hj hr => (k.block j (Nat.lt_of_lt_of_le hj h.size) (fun e => by injection e with e; omega)).trans (h.block j hj hr)⟩
theorem grown_none {w w1 : World} {row : Option Nat} (h : w.grownBy w1 none) : w.grownBy w1 row :=
 ⟨h.os, h.tape, h.output, h.size, fun j hj _ => h.block j hj (fun e => by cases e)⟩
set_option maxHeartbeats 4000000 in
set_option maxRecDepth 100000 in
theorem each_any (k L : Nat) (W0 w : World) (S BA BB BP BK : Nat) (l0 l1 : List Int) (a2 a3 : Int) (hL : L ≤ 35184372088832) (r1 : List Int) (r2 : Int) (hr : heun_betw k l0 l1 a2 a3 L = some (r1, r2))
 (hS : w.heap[S]? = some (.cells #[.int .i64 0] 124 (0, 0))) (hw : ∀ x : Int, 0 ≤ x → x < (L : Int) → ∃ ad0 ad1 c0 c1, CloW W0 S BA BB BP BK ad0 ad1 L L c0 c1 l0 l1 a2 a3 x 0 w) :
 Calls Tryz.prog 75 #[.int .i64 (L : Int), .func (.func 79) #[] #[.pointer (some ⟨S, 0, none⟩), .pointer (some ⟨BA, 0, none⟩), .pointer (some ⟨BB, 0, none⟩), .pointer (some ⟨BP, 0, none⟩), .pointer (some ⟨BK, 0, none⟩)]] w
  fun e w' => ∃ v, e = .returned v ∧ Kd.R (Kd.int .i64) 2 w' w.heap.size (fun _ => True) v r1 ∧ w'.heap[S]? = some (.cells #[.int .i64 r2] 124 (0, 0)) ∧ w.grownBy w' (some S) := by
 have hSl := lt_of_block hS
 have HS0 := Aside0.mk hS
 have HW := Aside0.mk hw
 have HR := Aside0.mk hr
 clear hS hw hr
 go_enter Tryz.func75, Tryz.ntmps75
 go_wp2_with ((with_reducible refine gate_dst (N := 8) rfl ?_); refine Kd.R_make (Kd.int .i64) w.heap.size 2 rfl (N := 8) rfl 23 _ _ rfl (L : Int) rfl rfl Tryz.underlying23 (.int .i64 0) 8 info2 rfl (by decide) (by decide) (0 : Int) (ok := fun _ => True) (okp := fun _ => True) rfl (fun _ hk => hk) trivial (by omega) (by omega) (Below.refl _ _) (Nat.le_refl _) ?_; intro v1 w1 ho1 hb1 hg1 hn1; rw [show List.replicate (L : Int).toNat (0 : Int) = betRow [] L by simp [betRow]] at ho1; obtain ⟨A, c, rfl⟩ := Kd.R_slice ho1; rw [betRow_length [] L (by simp)] at ho1; rw [betRow_length [] L (by simp)])
 have HS1 := Aside0.mk ((hg1.block _ hSl (fun e => by cases e)).trans HS0.out)
 have HG1 := Aside0.mk (grown_none (row := some S) hg1)
 have HO1 := Aside0.mk ho1
 clear hg1 hb1 hn1 ho1 HS0
 go_loopw [11] (fun i wr => ∃ (n : Nat) (p : List Int × Int), i = .int .i64 n ∧ n ≤ L ∧ Aside0 (heun_betw k l0 l1 a2 a3 n = some p) ∧ Aside0 (Kd.R (Kd.int .i64) 2 wr w.heap.size (fun _ => True) (.slice A L c) (betRow p.1 L)) ∧ Aside0 (wr.heap[S]? = some (.cells #[.int .i64 p.2] 124 (0, 0))) ∧ Aside0 (w.grownBy wr (some S))) (fun i _ => L - (intOf i).toNat)
 case atStart => exact ⟨0, ([], 0), rfl, Nat.zero_le _, ⟨rfl⟩, HO1, HS1, HG1⟩
 case round =>
  clear HO1 HS1 HG1
  obtain ⟨n, p, rfl, hn, HP, HO, HS, HG⟩ := hrel
  by_cases hlt : n < L
  · have hltb : decide ((n : Int) < (L : Int)) = true := decide_eq_true (by omega)
    obtain ⟨pr, hpr⟩ := heun_betw_early (k := k) (l0 := l0) (l1 := l1) (a2 := a2) (a3 := a3) (n + 1) (L - (n + 1)) (r := (r1, r2)) (by rw [show n + 1 + (L - (n + 1)) = L by omega]; exact HR.out)
    obtain ⟨p', q, hp', hq, hpr'⟩ := heun_betw_step hpr
    obtain rfl : p = p' := Option.some.inj (HP.out.symm.trans hp')
    have hpl := heun_betw_length n hp'
    have HPR := Aside0.mk (hpr.trans (congrArg some hpr'))
    clear hpr hpr' hp' pr
    obtain ⟨p1, p2⟩ := p
    obtain ⟨q1, q2⟩ := q
    dsimp only at hpl
    have HPL := Aside0.mk hpl
    clear hpl
    obtain ⟨ad0, ad1, c0, c1, hcw⟩ := HW.out (n : Int) (by omega) (by omega)
    have HC := Aside0.mk (hcw.grown HG.out HS.out)
    have HQ := Aside0.mk hq
    clear hcw hq
    have hrl : (betRow p1 L).length = L := betRow_length p1 L (by rw [HPL.out]; omega)
    obtain ⟨g, cg, eg, gb, gl, cl, HGF⟩ := Kd.R_form HO.out (by rw [hrl]; omega)
    rw [hrl] at eg
    injection eg with eA _ ec
    subst ec
    subst eA
    clear HGF gl cl
    go_wp2_with (go_at_call 79; (refine (clo_any k W0 S BA BB BP BK ad0 ad1 L L c0 c1 l0 l1 a2 a3 (n : Int) p2 q1 q2 (by omega) (by omega) (by omega) _ HQ.out HC.out).mono ?_); rintro e w2 ⟨rfl, hc2, hg2⟩; have HO2 := Aside0.mk (Kd.R_mono (Kd.R_grown (Kd.R_types HO.out HS.out (by decide)) hg2 (fun k hk e => hk.2 (by injection e))) (fun _ _ => trivial : ∀ k_, _ → True)); have HC2 := Aside0.mk hc2.hS; have HG2 := Aside0.mk (grown_trans HG.out hg2); clear hc2 hg2; have hcell := (Kd.R_cell (0 : Int) (by rw [hrl]; exact HO2.out) (n : Int) (by omega) (by rw [hrl]; omega)).1; have hfree := (Kd.R_cell (0 : Int) (by rw [hrl]; exact HO2.out) (n : Int) (by omega) (by rw [hrl]; omega)).2; rw [Int.toNat_natCast] at hcell hfree)
    go_roundw
    case rel => exact ⟨n + 1, (p1 ++ [q1], Go.bits .or .i64 p2 q2), by go_num, by omega, HPR, ⟨by have h := (Kd.R_put (by rw [hrl]; exact HO2.out) (n : Int) q1).1; rw [Int.toNat_natCast, hrl] at h; have e := betRow_set p1 L q1 (by rw [HPL.out]; exact hlt); rw [HPL.out] at e; rw [e] at h; exact h⟩, ⟨(heap_setCell_other w2 ⟨g, n, none⟩ S _ (fun e => by have : S = g := e; omega)).trans HC2.out⟩, ⟨grown_new HG2.out ⟨rfl, rfl, rfl, by simp, fun k _ hk => heap_setCell_other w2 ⟨g, n, none⟩ k _ (fun e => hk (by rw [e]))⟩ gb⟩⟩
    case measure => simp [intOf]; omega
  · obtain rfl : n = L := by omega
    have hltb : decide ((n : Int) < (n : Int)) = false := decide_eq_false (by omega)
    obtain rfl : p = (r1, r2) := Option.some.inj (HP.out.symm.trans HR.out)
    have hpl := heun_betw_length n HR.out
    have HO2 := Aside0.mk (show Kd.R (Kd.int .i64) 2 wr w.heap.size (fun _ => True) (.slice A n c) r1 from by have h := HO.out; rw [show betRow (r1, r2).1 n = r1 by rw [← hpl]; exact betRow_full r1] at h; exact h)
    go_wp2
    go_ret
    exact ⟨_, rfl, HO2.out, HS.out, HG.out⟩
/-! Between -/
theorem five_allocs (w : World) (o0 o1 o2 o3 o4 : Obj) (W : World) (h : ((((w.alloc o0).alloc o1).alloc o2).alloc o3).alloc o4 = W) :
 W.heap[w.heap.size]? = some o0 ∧ W.heap[w.heap.size + 1]? = some o1 ∧ W.heap[w.heap.size + 1 + 1]? = some o2 ∧ W.heap[w.heap.size + 1 + 1 + 1]? = some o3 ∧ W.heap[w.heap.size + 1 + 1 + 1 + 1]? = some o4 ∧ Below w.heap.size w W := by
 subst h
 have g : ∀ (w : World) (o : Obj) (k : Nat) (x : Obj), w.heap[k]? = some x → (w.alloc o).heap[k]? = some x := fun w o k x hx => (heap_alloc_old w o (lt_of_block hx)).trans hx
 have z : ∀ (w : World) (o : Obj), (w.alloc o).heap[w.heap.size]? = some o := fun w o => heap_alloc_new w o
 have s : ∀ (w : World) (o : Obj), (w.alloc o).heap.size = w.heap.size + 1 := fun w o => by simp
 refine ⟨g _ _ _ _ (g _ _ _ _ (g _ _ _ _ (g _ _ _ _ (z w o0)))), g _ _ _ _ (g _ _ _ _ (g _ _ _ _ ?_)), g _ _ _ _ (g _ _ _ _ ?_), g _ _ _ _ ?_, ?_, ?_⟩
 · have := z (w.alloc o0) o1; rwa [s] at this
 · have := z ((w.alloc o0).alloc o1) o2; rwa [s, s] at this
 · have := z (((w.alloc o0).alloc o1).alloc o2) o3; rwa [s, s, s] at this
 · have := z ((((w.alloc o0).alloc o1).alloc o2).alloc o3) o4; rwa [s, s, s, s] at this
 · repeat (first | exact Below.refl _ _ | apply below_alloc)

set_option maxHeartbeats 4000000 in
set_option maxRecDepth 100000 in
theorem heun_Between.calls (k : Nat) (A0 : Option Addr) (c0 : Nat) (l0 : List Int) (A1 : Option Addr) (c1 : Nat) (l1 : List Int) (a2 : Int) (a3 : Int) (r1 : List Int) (r2 : Int) (w : World) (hr0 : Kd.C (Kd.int .i64) w A0 l0.length l0) (hc0 : l0.length ≤ c0) (hr1 : Kd.C (Kd.int .i64) w A1 l1.length l1) (hc1 : l1.length ≤ c1) (h : heun_Between.f k l0 l1 a2 a3 = some (r1, r2)) :
 Calls Tryz.prog 36 #[.slice A0 l0.length c0, .slice A1 l1.length c1, .int .i64 a2, .int .i64 a3] w fun e w' => ∃ v0_ : Value, e = .returned (.tuple #[v0_, .int .i64 r2]) ∧ Kd.R (Kd.int .i64) 2 w' w.heap.size (fun _ => True) v0_ r1 ∧ Below w.heap.size w w' := by
 have HR0 := Aside0.mk hr0
 have HR1 := Aside0.mk hr1
 clear hr0 hr1
 unfold heun_Between.f at h
 by_cases hl : l0.length = l1.length
 · rw [if_pos hl] at h
   by_cases hs : l0.length ≤ 35184372088832
   · rw [if_pos hs] at h
     have H := Aside0.mk h
     clear h
     have hlb : decide ((l0.length : Int) = (l1.length : Int)) = true := decide_eq_true (by omega)
     go_enter Tryz.func36, Tryz.ntmps36
     go_wp2_with fail
     obtain ⟨f0, f1, f2, f3, f4, fb⟩ := five_allocs w (.cells #[.slice A0 l1.length c0] 23) (.cells #[.slice A1 l1.length c1] 23) (.cells #[.int .i64 a2] 3) (.cells #[.int .i64 a3] 3) (.cells #[.int .i64 0] 124) _ rfl
     refine (each_any k l1.length w _ (w.heap.size + 1 + 1 + 1 + 1) w.heap.size (w.heap.size + 1) (w.heap.size + 1 + 1) (w.heap.size + 1 + 1 + 1) l0 l1 a2 a3 (by omega) r1 r2 (by rw [← hl]; exact H.out) f4 (fun x hx0 hx1 => ?_)).mono ?_
     · obtain ⟨ad0, e0, x0⟩ := Kd.at_int HR0.out x hx0 (by omega)
       obtain ⟨ad1, e1, x1⟩ := Kd.at_int HR1.out x hx0 (by omega)
       cases e0
       cases e1
       exact ⟨ad0, ad1, c0, c1, f4, f0, f1, f2, f3, fb, by omega, x0, x1⟩
     · rintro e w6 ⟨v, rfl, hR, hS6, hg6⟩
       have HB := Aside0.mk (fb.grown hg6 fb.size (fun j hj => by injection hj with hj; omega))
       have HO := Aside0.mk (Kd.R_lower hR fb.size)
       have cS := cell_of_one hS6
       clear hR hS6 hg6 f0 f1 f2 f3 f4 fb
       go_wp2
       go_quiet (fail)
       go_wp2
       go_ret2
       exact ⟨v, rfl, Kd.R_drewN HO.out _, by repeat (first | (with_reducible first | exact HB.out | apply pw_below_drewN | apply below_drew1) | exact HB.out)⟩
   · rw [if_neg hs] at h
     exact absurd h (by simp)
 · rw [if_neg hl] at h
   obtain ⟨rfl, rfl⟩ : r1 = [] ∧ r2 = 0 := by cases h; exact ⟨rfl, rfl⟩
   have hlb : decide ((l0.length : Int) = (l1.length : Int)) = false := decide_eq_false (by omega)
   go_enter Tryz.func36, Tryz.ntmps36
   go_wp2
   go_ret2
   exact ⟨_, rfl, Kd.R_nil _ _ _ _ _, by repeat (first | exact Below.refl _ _ | apply below_alloc)⟩
end Go.Proofs.YtgalkkolbobmbaaGreat.Q
