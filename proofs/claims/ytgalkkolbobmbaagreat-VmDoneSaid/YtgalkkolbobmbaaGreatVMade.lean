/- A machine's run of a piece: the walk. -/
import Derived.Test.YtgalkkolbobmbaaGreatVClone
import Derived.Test.YtgalkkolbobmbaaGreatVRunW

namespace Go.Proofs.YtgalkkolbobmbaaGreat.V
open Go.RowKit Go.Proofs.YtgalkkolbobmbaaGreatW.PrintWords Go.Proofs.YtgalkkolbobmbaaGreatW.PrintLast Go.Proofs.YtgalkkolbobmbaaGreatW.PrintMore
attribute [local go_sem] max2_int min2_int max_two min_two max_three min_three max_four min_four
set_option linter.unusedVariables false
set_option linter.unusedSimpArgs false
/-- The machine's operators do what O tells. -/
def OpsOk (w0 : World) (S : Nat → Prop) (cs : Array Value) (O : Int → Int → Int → Int → Option (Int × Int)) : Prop :=
 ∀ (op : Nat) (a b c q1 q2 : Int), op < 23 → O (op : Int) a b c = some (q1, q2) → ∃ F fn cap, cs[11 + op]? = some (.func (.func F) #[] cap) ∧ Tryz.prog.funcs[F]? = some fn ∧ (fn.name == "runtime.NumGoroutine") = false ∧ fn.body.isSome = true ∧
  ∀ w', Chg S w0 w' → Calls Tryz.prog F (#[.int .i64 a, .int .i64 b, .int .i64 c] ++ cap) w' fun e w'' => e = .returned (.tuple #[.int .i64 q1, .int .i64 q2]) ∧ Below w'.heap.size w' w''
def put_T : Bool × List (List Nat × List Nat) := (true, [([], []), ([0], [0]), ([1], [1]), ([2], [2]), ([], []), ([4], [4]), ([], []), ([], []), ([7], [7]), ([6, 8], [6, 8]), ([3, 5, 0, 1, 2, 3, 4, 5, 6, 7, 8, 9], [3, 5]), ([10, 9, 9, 0, 1, 2, 3, 4, 5, 6, 7, 8, 9], [9, 10])])
def put_B : List Nat := [0, 1, 3, 7, 0, 16, 0, 0, 128, 448, 1023, 2047]
theorem put_tab : rtab .any (opsOf Tryz.f72 20) = put_T := by kernel_rfl
theorem put_bits : waitsOk put_T.2 put_B = true := by kernel_rfl
def nm_T : Bool × List (List Nat × List Nat) := (true, [([], []), ([0], [0]), ([1], [1]), ([2], [2]), ([], []), ([4], [4]), ([], []), ([], []), ([7], [7]), ([6, 8], [6, 8]), ([3, 5, 0, 1, 2, 3, 4, 5, 6, 7, 8, 9], [3, 5]), ([10, 9, 9, 0, 1, 2, 3, 4, 5, 6, 7, 8, 9], [9, 10])])
def nm_B : List Nat := [0, 1, 3, 7, 0, 16, 0, 0, 128, 448, 1023, 2047]
theorem nm_tab : rtab .any (opsOf Tryz.f72 22) = nm_T := by kernel_rfl
theorem nm_bits : waitsOk nm_T.2 nm_B = true := by kernel_rfl
def ns_T : Bool × List (List Nat × List Nat) := (true, [([], []), ([0], [0]), ([1], [1]), ([2], [2]), ([], []), ([4], [4]), ([], []), ([], []), ([7], [7]), ([6, 8], [6, 8]), ([3, 5, 0, 1, 2, 3, 4, 5, 6, 7, 8, 9], [3, 5]), ([10, 9, 9, 0, 1, 2, 3, 4, 5, 6, 7, 8, 9], [9, 10])])
def ns_B : List Nat := [0, 1, 3, 7, 0, 16, 0, 0, 128, 448, 1023, 2047]
theorem ns_tab : rtab .any (opsOf Tryz.f72 24) = ns_T := by kernel_rfl
theorem ns_bits : waitsOk ns_T.2 ns_B = true := by kernel_rfl
def op_T : Bool × List (List Nat × List Nat) := (true, [([], []), ([], []), ([1], [1]), ([0], [0]), ([3], [3]), ([4, 2], [2, 4]), ([5], [5]), ([], []), ([], []), ([8], [8]), ([7, 9], [7, 9]), ([], []), ([], []), ([12], [12]), ([11, 13, 10], [11, 13]), ([], []), ([], []), ([16], [16]), ([15, 17, 14], [15, 17]), ([6, 10, 14, 18, 18], [6, 10, 14, 18]), ([19], [19]), ([20], [20]), ([20], [20]), ([21, 19, 0, 1, 2, 3, 4, 5, 6, 7, 8, 9, 10, 11, 12, 13, 14, 15, 16, 17, 18, 19, 20, 21], [21]), ([22, 23, 0, 1, 2, 3, 4, 5, 6, 7, 8, 9, 10, 11, 12, 13, 14, 15, 16, 17, 18, 19, 20, 21, 22, 23], [22])])
def op_B : List Nat := [0, 0, 2, 1, 9, 31, 63, 0, 0, 256, 896, 0, 0, 4096, 16256, 0, 0, 65536, 262016, 524287, 1048575, 2097151, 2097151, 4194303, 16777215]
theorem op_tab : rtab .any (opsOf Tryz.f72 13) = op_T := by kernel_rfl
theorem op_bits : waitsOk op_T.2 op_B = true := by kernel_rfl
set_option maxHeartbeats 8000000 in
set_option maxRecDepth 100000 in
theorem run_any (O : Int → Int → Int → Int → Option (Int × Int)) (k : Nat) (w0 : World) (Bm Bk : Nat) (cs : Array Value) (AL A0 A1 A2 A3 : Option Addr) (cl c0 c1 c2 c3 : Nat) (vP vS vM : Value) (gP gS gM : Option Nat) (bP nr : Nat) (rg dn0 : Int) (l : List S49) (inn st mem : List Int) (raised : List Bool) (put0 ns0 nm0 : List Int)
 (hC : RunC w0 Bm Bk AL A0 A1 A2 A3 c0 c1 c2 c3 vP vS vM gP gS gM l inn st mem raised) (hm : w0.heap[Bm]? = some (.cells (cs.setIfInBounds 34 (.int .i64 dn0)) 112 (0, 0))) (hsz : cs.size = 35) (hrg : cs[10]? = some (.int .i64 rg))
 (hmx : (if rg < 1 then 1 else rg) = (nr : Int)) (hn0 : 0 < nr) (hn1 : nr ≤ 4000) (hP : Kd.R (Kd.int .i64) 2 w0 bP (fun k => some k = gP) vP put0) (hS : Kd.R (Kd.int .i64) 2 w0 bP (fun k => some k = gS) vS ns0) (hM : Kd.R (Kd.int .i64) 2 w0 bP (fun k => some k = gM) vM nm0)
 (hO : OpsOk w0 (S0 Bm gP gS gM) cs O) (s' : RS) (dn' : Int) (h : runV O inn st mem raised l k 0 dn0 ⟨List.replicate nr 0, 0, put0, ns0, nm0⟩ = some (s', dn')) :
 Calls Tryz.prog 72 #[.pointer (some ⟨Bm, 0, none⟩), .slice AL l.length cl, .pointer (some ⟨Bk, 0, none⟩)] w0 fun e w' => e = .returned (.int .i64 s'.fl) ∧ Chg (S0 Bm gP gS gM) w0 w' ∧ w'.heap[Bm]? = some (.cells (cs.setIfInBounds 34 (.int .i64 dn')) 112 (0, 0)) ∧
  Kd.R (Kd.int .i64) 2 w' bP (fun k => some k = gP) vP s'.put ∧ Kd.R (Kd.int .i64) 2 w' bP (fun k => some k = gS) vS s'.ns ∧ Kd.R (Kd.int .i64) 2 w' bP (fun k => some k = gM) vM s'.nm := by
 have hmc : ∀ (w : World) (d : Int) (j : Nat) (v : Value), w.heap[Bm]? = some (.cells (cs.setIfInBounds 34 (.int .i64 d)) 112 (0, 0)) → j ≠ 34 → cs[j]? = some v → w.cell? ⟨Bm, j, none⟩ = some v := fun w d j v hw hj hv => by
  rw [cell_of_row w Bm j _ _ _ hw, Array.getElem?_setIfInBounds_ne (fun e => hj e.symm)]
  exact hv
 have hmd : ∀ (w : World) (d : Int), w.heap[Bm]? = some (.cells (cs.setIfInBounds 34 (.int .i64 d)) 112 (0, 0)) → w.cell? ⟨Bm, 34, none⟩ = some (.int .i64 d) := fun w d hw => by
  rw [cell_of_row w Bm 34 _ _ _ hw, Array.getElem?_setIfInBounds_self_of_lt (by omega)]
 have k10 := hmc w0 dn0 10 _ hm (by decide) hrg
 have HMC := Aside0.mk hmc
 have HMD := Aside0.mk hmd
 have HC := Aside0.mk hC
 have HM0 := Aside0.mk hm
 have HP0 := Aside0.mk hP
 have HS0 := Aside0.mk hS
 have HM1 := Aside0.mk hM
 have HO := Aside0.mk hO
 have HR := Aside0.mk h
 have HRG := Aside0.mk hrg
 clear hC hm hP hS hM hO h hmc hmd hrg
 go_enter Tryz.func72, Tryz.ntmps72
 go_wp2_with ((with_reducible refine gate_dst (N := 21) rfl ?_); refine Kd.R_make (Kd.int .i64) (w0 := w0) w0.heap.size 2 rfl (N := 21) rfl 23 _ _ rfl (nr : Int) rfl rfl Tryz.underlying23 (.int .i64 0) 8 row2 rfl (by decide) (by decide) (0 : Int) (ok := fun k => k = w0.heap.size) (okp := fun _ => False) rfl (fun _ hk => hk.elim) rfl (by omega) (by omega) (Below.refl _ _) (Nat.le_refl _) ?_; intro v1 w1 ho1 hb1 hg1 hn1; rw [Int.toNat_natCast] at ho1; obtain ⟨gR, cR, hgv, hgb, hgl, -⟩ := Kd.R_form ho1 (by rw [List.length_replicate]; exact hn0); rw [List.length_replicate] at hgv; subst hgv; have hgR : gR = w0.heap.size := ho1.1 gR rfl; have HO1 := Aside0.mk ho1; have HB1 := Aside0.mk hb1; clear ho1 hb1 hg1 hn1)
 subst hgR
 have hlt1 : Bm < w1.heap.size := Nat.lt_of_lt_of_le HC.out.lB HB1.out.size
 obtain ⟨Gr, hGr⟩ : ∃ g, w1.heap.size = g := ⟨_, rfl⟩
 obtain ⟨w2, hw2⟩ : ∃ z, (w1.alloc (Obj.cells #[.slice (some ⟨w0.heap.size, 0, none⟩) nr cR] 23)) = z := ⟨_, rfl⟩
 have hW2 : RunW w0 Bm cs vP vS vM gP gS gM bP Gr w0.heap.size (some ⟨w0.heap.size, 0, none⟩) cR nr ⟨List.replicate nr 0, 0, put0, ns0, nm0⟩ dn0 w2 := by
  subst hw2 hGr
  refine ⟨(Chg.of_below HB1.out _).alloc _, blk_alloc ((HB1.out.block _ HC.out.lB).trans HM0.out) _, blk_new w1 _, Kd.R_alloc HO1.out _, by simp, Kd.R_alloc (Kd.R_below HP0.out HB1.out) _, Kd.R_alloc (Kd.R_below HS0.out HB1.out) _, Kd.R_alloc (Kd.R_below HM1.out HB1.out) _, HB1.out.size, Nat.le_refl _⟩
 have HW2 := Aside0.mk hW2
 rw [hw2, hGr]
 clear hW2 hw2 hGr HO1 HB1 HM0 HP0 HS0 HM1 k10 hlt1 hgb hgl
 go_loopg [8, 10] k (fun kq v8 v10 w' => ∃ (pc dn : Int) (s : RS), v8 = .int .i64 s.fl ∧ v10 = .int .i64 pc ∧ Aside0 (runV O inn st mem raised l kq pc dn s = some (s', dn')) ∧ Aside0 (kq ≤ k) ∧ Aside0 (RunW w0 Bm cs vP vS vM gP gS gM bP Gr w0.heap.size (some ⟨w0.heap.size, 0, none⟩) cR nr s dn w'))
 case atStart => exact ⟨0, dn0, ⟨List.replicate nr 0, 0, put0, ns0, nm0⟩, rfl, rfl, HR, ⟨Nat.le_refl _⟩, HW2⟩
 case round =>
  clear HR HW2
  obtain ⟨pc, dn, s, rfl, rfl, HA, HK1, HW⟩ := hrel
  cases gk with
  | zero => exact absurd HA.out (by simp [runV])
  | succ k1 =>
   have H := HA.out
   clear HA
   simp only [runV] at H
   by_cases c5 : pc < (l.length : Int)
   · rw [if_pos c5] at H
     have c5b : decide (pc < (l.length : Int)) = true := decide_eq_true c5
     by_cases c6 : 0 ≤ pc
     · rw [if_pos c6] at H
       obtain ⟨⟨pc1, s1⟩, HS, H⟩ := Option.bind_eq_some_iff.mp H
       dsimp only at H
       have H' := Aside0.mk H
       clear H
       obtain ⟨-, hcode, -⟩ := HC.out.at_ HW.out.chg
       obtain ⟨ad, e0, q0, q1, q2, q3, q4, q5⟩ := at_T49 hcode pc c6 c5
       subst e0
       clear hcode
       obtain ⟨x, hx⟩ : ∃ x, rd_T49 l pc = x := ⟨_, rfl⟩
       rw [hx] at q0 q1 q2 q3 q4 q5 HS
       clear hx
       obtain ⟨op, d, a, b, c, v⟩ := x
       dsimp only at q0 q1 q2 q3 q4 q5
       have hltB : Bm < wr.heap.size := Nat.lt_of_lt_of_le HC.out.lB HW.out.chg.size
       have kd : ∀ o, (wr.alloc o).cell? ⟨Bm, 34, none⟩ = some (.int .i64 dn) := fun o => HMD.out _ _ (blk_alloc HW.out.mach o)
       have fd : ∀ o, (wr.alloc o).frozen? ⟨Bm, 34, none⟩ = false := fun o => blk_frozen (blk_alloc HW.out.mach o) 34
       have p5 := eq_true c6
       have p6 := eq_true c5
       clear c5 c6
       have HST := Aside0.mk HS
       clear HS
       go_upto_region 9 with (fail)
       obtain ⟨gx, hgx⟩ : ∃ g, wr.heap.size = g := ⟨_, rfl⟩
       obtain ⟨w3, hw3⟩ : ∃ z, ((wr.setCell ⟨Bm, 34, none⟩ (.int .i64 (wrap64 (dn + 1)))).alloc (Obj.cells #[.int .i64 op, .int .i64 d, .int .i64 a, .int .i64 b, .int .i64 c, .int .i64 v] 49)) = z := ⟨_, rfl⟩
       have hR3 : Rnd w0 Bm Bk cs vP vS vM gP gS gM bP Gr w0.heap.size (some ⟨w0.heap.size, 0, none⟩) cR nr s (wrap64 (dn + 1)) gx op d a b c v w3 := by
        subst hw3 hgx
        refine ⟨(HW.out.done HC.out _).below (below_alloc (Below.refl _ _) _), ?_, HW.out.chg.size⟩
        have hn := blk_new (wr.setCell ⟨Bm, 34, none⟩ (.int .i64 (wrap64 (dn + 1)))) (Obj.cells #[.int .i64 op, .int .i64 d, .int .i64 a, .int .i64 b, .int .i64 c, .int .i64 v] 49)
        have hz : (wr.setCell ⟨Bm, 34, none⟩ (.int .i64 (wrap64 (dn + 1)))).heap.size = wr.heap.size := by simp
        rw [hz] at hn
        exact hn
       have HR3 := Aside0.mk hR3
       rw [hw3, hgx]
       clear hR3 hw3 hgx HW kd fd p5 p6 q0 q1 q2 q3 q4 q5 hltB
       obtain ⟨x0, x1, x2, x3, x4, x5⟩ := HR3.out.x
       have hst := HST.out
       clear HST
       by_cases o19 : op = 19
       · subst o19
         simp only [stepV, if_true] at hst
         obtain ⟨v1, hv, hst⟩ := Option.bind_eq_some_iff.mp hst
         have HV := Aside0.mk hv
         clear hv
         obtain ⟨rfl, rfl⟩ : (if v1 = 0 then wrap64 (pc + b) else pc) = pc1 ∧ s = s1 := by
          have h1 := Option.some.inj hst
          exact ⟨congrArg Prod.fst h1, congrArg Prod.snd h1⟩
         clear hst
         by_cases hz : v1 = 0
         · subst hz
           rw [if_pos rfl] at H'
           go_wp2_with (go_at_call 129; refine (HR3.out.run.at_call hn0 hn1 _ _ HV.out).mono ?_; rintro e w4 ⟨rfl, rfl⟩)
           go_roundg k1
           case measure => have := HK1.out; omega
           case rel => exact ⟨wrap64 (wrap64 (pc + b) + 1), wrap64 (dn + 1), s, rfl, (by first | rfl | (simp; done)), H', ⟨by have := HK1.out; omega⟩, ⟨HR3.out.run⟩⟩
         · rw [if_neg hz] at H'
           have hzb : (v1 == 0) = false := beq_eq_false_iff_ne.mpr hz
           go_wp2_with (go_at_call 129; refine (HR3.out.run.at_call hn0 hn1 _ _ HV.out).mono ?_; rintro e w4 ⟨rfl, rfl⟩)
           go_roundg k1
           case measure => have := HK1.out; omega
           case rel => exact ⟨wrap64 (pc + 1), wrap64 (dn + 1), s, rfl, (by first | rfl | (simp; done)), H', ⟨by have := HK1.out; omega⟩, ⟨HR3.out.run⟩⟩
       · have b19 : (op == 19) = false := beq_eq_false_iff_ne.mpr o19
         by_cases o20 : op = 20
         · subst o20
           simp only [stepV] at hst
           rw [if_neg (show ¬ ((20 : Int) = 19) by decide)] at hst
           rw [if_pos trivial] at hst
           obtain ⟨v1, hv, hst⟩ := Option.bind_eq_some_iff.mp hst
           have HV := Aside0.mk hv
           clear hv
           obtain ⟨l1, hset, hst⟩ := Option.bind_eq_some_iff.mp hst
           obtain ⟨p0, p1, rfl⟩ := setI_some hset
           obtain ⟨rfl, rfl⟩ : pc = pc1 ∧ { s with put := s.put.set d.toNat v1 } = s1 := by
            have h1 := Option.some.inj hst
            exact ⟨congrArg Prod.fst h1, congrArg Prod.snd h1⟩
           clear hst hset
           obtain ⟨qb, cb, hvP, -, -, -⟩ := Kd.R_form HR3.out.run.put (by omega)
           subst hvP
           have q0 := eq_true p0
           have q1 := eq_true p1
           have HR4 := Aside0.mk HR3.out.drew
           obtain ⟨bk4, bk5, bk6⟩ := HR4.out.bank HC.out
           obtain ⟨z0, z1, z2, z3, z4, z5⟩ := HR4.out.x
           go_wp2
           refine start_ (n := 12) (S := fun w' => w'.cell? ⟨Bk, 4, none⟩ = some (.slice (some ⟨qb, 0, none⟩) s.put.length cb) ∧ w'.cell? ⟨gx, 1, none⟩ = some (.int .i64 d) ∧ w'.cell? ⟨gx, 2, none⟩ = some (.int .i64 a)) (ds := []) (Array.replicate 12 false) (by kernel_rfl) rfl rfl ⟨bk4, z1, z2⟩ (fun hHeld => ?_); refine with_tabW put_tab put_bits (fun HT_ HW_ => ?_)
           refine pu HT_ 0 98 rfl rfl (by kernel_rfl) (fun _ _ _ h => h) (by rfl) (by intro w'; go_simp; with_reducible rfl) (by simp only [Act.put, sA, sB, sC, i64_w, i32_w]; rfl) ?_
           refine pu HT_ 1 99 rfl rfl (by kernel_rfl) (fun _ _ _ h => h) (by rfl) (by intro w'; go_simp; with_reducible rfl) (by simp only [Act.put, sA, sB, sC, i64_w, i32_w]; rfl) ?_
           refine pu HT_ 2 100 rfl rfl (by kernel_rfl) (fun _ _ _ h => h) (by rfl) (by intro w'; go_simp; with_reducible rfl) (by simp only [Act.put, sA, sB, sC, i64_w, i32_w]; rfl) ?_
           refine pu HT_ 4 102 rfl rfl (by kernel_rfl) (fun _ _ _ h => h) (by rfl) (by intro w'; go_simp; with_reducible rfl) (by simp only [Act.put, sA, sB, sC, i64_w, i32_w]; rfl) ?_
           refine pu HT_ 6 104 rfl rfl (by kernel_rfl) (fun _ _ _ h => h) (by rfl) (by intro w'; go_simp; with_reducible rfl) (by simp only [Act.put, sA, sB, sC, i64_w, i32_w]; rfl) ?_
           refine pu HT_ 7 105 rfl rfl (by kernel_rfl) (fun _ _ _ h => h) (by rfl) (by intro w'; go_simp; with_reducible rfl) (by simp only [Act.put, sA, sB, sC, i64_w, i32_w]; rfl) ?_
           refine tk HT_ HW_ hHeld 3 101 rfl rfl (by kernel_rfl) (fun _ _ _ h => h) (by rfl) (by rintro w' ⟨s0, s1, s2⟩; go_simp; with_reducible rfl) (by simp only [Act.put, sA, sB, sC, i64_w, i32_w]; rfl) ?_
           refine tk HT_ HW_ hHeld 5 103 rfl rfl (by kernel_rfl) (fun _ _ _ h => h) (by rfl) (by rintro w' ⟨s0, s1, s2⟩; go_simp; with_reducible rfl) (by simp only [Act.put, sA, sB, sC, i64_w, i32_w]; rfl) ?_
           refine tk HT_ HW_ hHeld 8 106 rfl rfl (by kernel_rfl) (fun _ _ _ h => h) (by rfl) (by rintro w' ⟨s0, s1, s2⟩; go_simp; with_reducible rfl) (by simp only [Act.put, sA, sB, sC, i64_w, i32_w]; rfl) ?_
           refine on1 HT_ 9 (some 107) rfl rfl (by kernel_rfl) (by decide) (fun K hK => ?_)
           refine goesV_ Tryz.func129 (by kernel_rfl) rfl #[.int .i64 a] (by rfl) rfl (by rfl) rfl (by (try simp only [List.map_toArray, List.map_cons, List.map_nil]); first | done | rfl) ?_
           refine (HR4.out.run.at_call hn0 hn1 _ _ HV.out).mono ?_
           rintro e w5 ⟨rfl, rfl⟩
           refine ⟨_, rfl, ?_⟩
           refine hK.out _ _ hHeld (fun hHeld => ?_)
           clear hK K
           refine norm_ (by show Act.put _ (some 107) _ = _; simp only [Act.put, sA, sB, sC, i64_w, i32_w]; rfl) ?_
           refine pu HT_ 10 108 rfl rfl (by kernel_rfl) (fun _ _ _ h => h) (by rfl) (by intro w'; go_simp; with_reducible rfl) (by simp only [Act.put, sA, sB, sC, i64_w, i32_w]; rfl) ?_
           obtain ⟨hcl, hfr⟩ := HR4.out.putAt rfl d p0 p1
           refine on1 HT_ 11 none rfl rfl (by kernel_rfl) (by decide) (fun K hK => ?_)
           refine skip_ (w1 := ?_) (by rfl) rfl ?_ ?_
           rotate_left
           · go_simp
             rfl
           have HR5 := Aside0.mk (HR4.out.putR HC.out rfl d v1)
           obtain ⟨bk4, bk5, bk6⟩ := HR5.out.bank HC.out
           obtain ⟨z0, z1, z2, z3, z4, z5⟩ := HR5.out.x
           refine hK.out _ _ ⟨bk4, z1, z2⟩ (fun hHeld => ?_)
           clear hK K
           refine done_ (done_of HT_.out (by kernel_rfl)) ?_
           try go_wp2
           go_roundg k1
           case measure => have := HK1.out; omega
           case rel => exact ⟨wrap64 (pc + 1), wrap64 (dn + 1), { s with put := s.put.set d.toNat v1 }, rfl, (by first | rfl | (simp; done)), H', ⟨by have := HK1.out; omega⟩, ⟨HR5.out.run⟩⟩
         · have b20 : (op == 20) = false := beq_eq_false_iff_ne.mpr o20
           by_cases o21 : op = 21
           · subst o21
             simp only [stepV] at hst
             rw [if_neg (show ¬ ((21 : Int) = 19) by decide)] at hst
             rw [if_neg (show ¬ ((21 : Int) = 20) by decide)] at hst
             rw [if_pos trivial] at hst
             obtain ⟨v1, hv, hst⟩ := Option.bind_eq_some_iff.mp hst
             have HV := Aside0.mk hv
             clear hv
             obtain ⟨l1, hset, hst⟩ := Option.bind_eq_some_iff.mp hst
             obtain ⟨p0, p1, rfl⟩ := setI_some hset
             obtain ⟨rfl, rfl⟩ : pc = pc1 ∧ { s with nm := s.nm.set d.toNat v1 } = s1 := by
              have h1 := Option.some.inj hst
              exact ⟨congrArg Prod.fst h1, congrArg Prod.snd h1⟩
             clear hst hset
             obtain ⟨qb, cb, hvP, -, -, -⟩ := Kd.R_form HR3.out.run.nm (by omega)
             subst hvP
             have q0 := eq_true p0
             have q1 := eq_true p1
             have HR4 := Aside0.mk HR3.out.drew
             obtain ⟨bk4, bk5, bk6⟩ := HR4.out.bank HC.out
             obtain ⟨z0, z1, z2, z3, z4, z5⟩ := HR4.out.x
             go_wp2
             refine start_ (n := 12) (S := fun w' => w'.cell? ⟨Bk, 6, none⟩ = some (.slice (some ⟨qb, 0, none⟩) s.nm.length cb) ∧ w'.cell? ⟨gx, 1, none⟩ = some (.int .i64 d) ∧ w'.cell? ⟨gx, 2, none⟩ = some (.int .i64 a)) (ds := []) (Array.replicate 12 false) (by kernel_rfl) rfl rfl ⟨bk6, z1, z2⟩ (fun hHeld => ?_); refine with_tabW nm_tab nm_bits (fun HT_ HW_ => ?_)
             refine pu HT_ 0 111 rfl rfl (by kernel_rfl) (fun _ _ _ h => h) (by rfl) (by intro w'; go_simp; with_reducible rfl) (by simp only [Act.put, sA, sB, sC, i64_w, i32_w]; rfl) ?_
             refine pu HT_ 1 112 rfl rfl (by kernel_rfl) (fun _ _ _ h => h) (by rfl) (by intro w'; go_simp; with_reducible rfl) (by simp only [Act.put, sA, sB, sC, i64_w, i32_w]; rfl) ?_
             refine pu HT_ 2 113 rfl rfl (by kernel_rfl) (fun _ _ _ h => h) (by rfl) (by intro w'; go_simp; with_reducible rfl) (by simp only [Act.put, sA, sB, sC, i64_w, i32_w]; rfl) ?_
             refine pu HT_ 4 115 rfl rfl (by kernel_rfl) (fun _ _ _ h => h) (by rfl) (by intro w'; go_simp; with_reducible rfl) (by simp only [Act.put, sA, sB, sC, i64_w, i32_w]; rfl) ?_
             refine pu HT_ 6 117 rfl rfl (by kernel_rfl) (fun _ _ _ h => h) (by rfl) (by intro w'; go_simp; with_reducible rfl) (by simp only [Act.put, sA, sB, sC, i64_w, i32_w]; rfl) ?_
             refine pu HT_ 7 118 rfl rfl (by kernel_rfl) (fun _ _ _ h => h) (by rfl) (by intro w'; go_simp; with_reducible rfl) (by simp only [Act.put, sA, sB, sC, i64_w, i32_w]; rfl) ?_
             refine tk HT_ HW_ hHeld 3 114 rfl rfl (by kernel_rfl) (fun _ _ _ h => h) (by rfl) (by rintro w' ⟨s0, s1, s2⟩; go_simp; with_reducible rfl) (by simp only [Act.put, sA, sB, sC, i64_w, i32_w]; rfl) ?_
             refine tk HT_ HW_ hHeld 5 116 rfl rfl (by kernel_rfl) (fun _ _ _ h => h) (by rfl) (by rintro w' ⟨s0, s1, s2⟩; go_simp; with_reducible rfl) (by simp only [Act.put, sA, sB, sC, i64_w, i32_w]; rfl) ?_
             refine tk HT_ HW_ hHeld 8 119 rfl rfl (by kernel_rfl) (fun _ _ _ h => h) (by rfl) (by rintro w' ⟨s0, s1, s2⟩; go_simp; with_reducible rfl) (by simp only [Act.put, sA, sB, sC, i64_w, i32_w]; rfl) ?_
             refine on1 HT_ 9 (some 120) rfl rfl (by kernel_rfl) (by decide) (fun K hK => ?_)
             refine goesV_ Tryz.func129 (by kernel_rfl) rfl #[.int .i64 a] (by rfl) rfl (by rfl) rfl (by (try simp only [List.map_toArray, List.map_cons, List.map_nil]); first | done | rfl) ?_
             refine (HR4.out.run.at_call hn0 hn1 _ _ HV.out).mono ?_
             rintro e w5 ⟨rfl, rfl⟩
             refine ⟨_, rfl, ?_⟩
             refine hK.out _ _ hHeld (fun hHeld => ?_)
             clear hK K
             refine norm_ (by show Act.put _ (some 120) _ = _; simp only [Act.put, sA, sB, sC, i64_w, i32_w]; rfl) ?_
             refine pu HT_ 10 121 rfl rfl (by kernel_rfl) (fun _ _ _ h => h) (by rfl) (by intro w'; go_simp; with_reducible rfl) (by simp only [Act.put, sA, sB, sC, i64_w, i32_w]; rfl) ?_
             obtain ⟨hcl, hfr⟩ := HR4.out.nmAt rfl d p0 p1
             refine on1 HT_ 11 none rfl rfl (by kernel_rfl) (by decide) (fun K hK => ?_)
             refine skip_ (w1 := ?_) (by rfl) rfl ?_ ?_
             rotate_left
             · go_simp
               rfl
             have HR5 := Aside0.mk (HR4.out.nmR HC.out rfl d v1)
             obtain ⟨bk4, bk5, bk6⟩ := HR5.out.bank HC.out
             obtain ⟨z0, z1, z2, z3, z4, z5⟩ := HR5.out.x
             refine hK.out _ _ ⟨bk6, z1, z2⟩ (fun hHeld => ?_)
             clear hK K
             refine done_ (done_of HT_.out (by kernel_rfl)) ?_
             try go_wp2
             go_roundg k1
             case measure => have := HK1.out; omega
             case rel => exact ⟨wrap64 (pc + 1), wrap64 (dn + 1), { s with nm := s.nm.set d.toNat v1 }, rfl, (by first | rfl | (simp; done)), H', ⟨by have := HK1.out; omega⟩, ⟨HR5.out.run⟩⟩
           · have b21 : (op == 21) = false := beq_eq_false_iff_ne.mpr o21
             by_cases o22 : op = 22
             · subst o22
               simp only [stepV] at hst
               rw [if_neg (show ¬ ((22 : Int) = 19) by decide)] at hst
               rw [if_neg (show ¬ ((22 : Int) = 20) by decide)] at hst
               rw [if_neg (show ¬ ((22 : Int) = 21) by decide)] at hst
               rw [if_pos trivial] at hst
               obtain ⟨v1, hv, hst⟩ := Option.bind_eq_some_iff.mp hst
               have HV := Aside0.mk hv
               clear hv
               obtain ⟨l1, hset, hst⟩ := Option.bind_eq_some_iff.mp hst
               obtain ⟨p0, p1, rfl⟩ := setI_some hset
               obtain ⟨rfl, rfl⟩ : pc = pc1 ∧ { s with ns := s.ns.set d.toNat v1 } = s1 := by
                have h1 := Option.some.inj hst
                exact ⟨congrArg Prod.fst h1, congrArg Prod.snd h1⟩
               clear hst hset
               obtain ⟨qb, cb, hvP, -, -, -⟩ := Kd.R_form HR3.out.run.ns (by omega)
               subst hvP
               have q0 := eq_true p0
               have q1 := eq_true p1
               have HR4 := Aside0.mk HR3.out.drew
               obtain ⟨bk4, bk5, bk6⟩ := HR4.out.bank HC.out
               obtain ⟨z0, z1, z2, z3, z4, z5⟩ := HR4.out.x
               go_wp2
               refine start_ (n := 12) (S := fun w' => w'.cell? ⟨Bk, 5, none⟩ = some (.slice (some ⟨qb, 0, none⟩) s.ns.length cb) ∧ w'.cell? ⟨gx, 1, none⟩ = some (.int .i64 d) ∧ w'.cell? ⟨gx, 2, none⟩ = some (.int .i64 a)) (ds := []) (Array.replicate 12 false) (by kernel_rfl) rfl rfl ⟨bk5, z1, z2⟩ (fun hHeld => ?_); refine with_tabW ns_tab ns_bits (fun HT_ HW_ => ?_)
               refine pu HT_ 0 124 rfl rfl (by kernel_rfl) (fun _ _ _ h => h) (by rfl) (by intro w'; go_simp; with_reducible rfl) (by simp only [Act.put, sA, sB, sC, i64_w, i32_w]; rfl) ?_
               refine pu HT_ 1 125 rfl rfl (by kernel_rfl) (fun _ _ _ h => h) (by rfl) (by intro w'; go_simp; with_reducible rfl) (by simp only [Act.put, sA, sB, sC, i64_w, i32_w]; rfl) ?_
               refine pu HT_ 2 126 rfl rfl (by kernel_rfl) (fun _ _ _ h => h) (by rfl) (by intro w'; go_simp; with_reducible rfl) (by simp only [Act.put, sA, sB, sC, i64_w, i32_w]; rfl) ?_
               refine pu HT_ 4 128 rfl rfl (by kernel_rfl) (fun _ _ _ h => h) (by rfl) (by intro w'; go_simp; with_reducible rfl) (by simp only [Act.put, sA, sB, sC, i64_w, i32_w]; rfl) ?_
               refine pu HT_ 6 130 rfl rfl (by kernel_rfl) (fun _ _ _ h => h) (by rfl) (by intro w'; go_simp; with_reducible rfl) (by simp only [Act.put, sA, sB, sC, i64_w, i32_w]; rfl) ?_
               refine pu HT_ 7 131 rfl rfl (by kernel_rfl) (fun _ _ _ h => h) (by rfl) (by intro w'; go_simp; with_reducible rfl) (by simp only [Act.put, sA, sB, sC, i64_w, i32_w]; rfl) ?_
               refine tk HT_ HW_ hHeld 3 127 rfl rfl (by kernel_rfl) (fun _ _ _ h => h) (by rfl) (by rintro w' ⟨s0, s1, s2⟩; go_simp; with_reducible rfl) (by simp only [Act.put, sA, sB, sC, i64_w, i32_w]; rfl) ?_
               refine tk HT_ HW_ hHeld 5 129 rfl rfl (by kernel_rfl) (fun _ _ _ h => h) (by rfl) (by rintro w' ⟨s0, s1, s2⟩; go_simp; with_reducible rfl) (by simp only [Act.put, sA, sB, sC, i64_w, i32_w]; rfl) ?_
               refine tk HT_ HW_ hHeld 8 132 rfl rfl (by kernel_rfl) (fun _ _ _ h => h) (by rfl) (by rintro w' ⟨s0, s1, s2⟩; go_simp; with_reducible rfl) (by simp only [Act.put, sA, sB, sC, i64_w, i32_w]; rfl) ?_
               refine on1 HT_ 9 (some 133) rfl rfl (by kernel_rfl) (by decide) (fun K hK => ?_)
               refine goesV_ Tryz.func129 (by kernel_rfl) rfl #[.int .i64 a] (by rfl) rfl (by rfl) rfl (by (try simp only [List.map_toArray, List.map_cons, List.map_nil]); first | done | rfl) ?_
               refine (HR4.out.run.at_call hn0 hn1 _ _ HV.out).mono ?_
               rintro e w5 ⟨rfl, rfl⟩
               refine ⟨_, rfl, ?_⟩
               refine hK.out _ _ hHeld (fun hHeld => ?_)
               clear hK K
               refine norm_ (by show Act.put _ (some 133) _ = _; simp only [Act.put, sA, sB, sC, i64_w, i32_w]; rfl) ?_
               refine pu HT_ 10 134 rfl rfl (by kernel_rfl) (fun _ _ _ h => h) (by rfl) (by intro w'; go_simp; with_reducible rfl) (by simp only [Act.put, sA, sB, sC, i64_w, i32_w]; rfl) ?_
               obtain ⟨hcl, hfr⟩ := HR4.out.nsAt rfl d p0 p1
               refine on1 HT_ 11 none rfl rfl (by kernel_rfl) (by decide) (fun K hK => ?_)
               refine skip_ (w1 := ?_) (by rfl) rfl ?_ ?_
               rotate_left
               · go_simp
                 rfl
               have HR5 := Aside0.mk (HR4.out.nsR HC.out rfl d v1)
               obtain ⟨bk4, bk5, bk6⟩ := HR5.out.bank HC.out
               obtain ⟨z0, z1, z2, z3, z4, z5⟩ := HR5.out.x
               refine hK.out _ _ ⟨bk5, z1, z2⟩ (fun hHeld => ?_)
               clear hK K
               refine done_ (done_of HT_.out (by kernel_rfl)) ?_
               try go_wp2
               go_roundg k1
               case measure => have := HK1.out; omega
               case rel => exact ⟨wrap64 (pc + 1), wrap64 (dn + 1), { s with ns := s.ns.set d.toNat v1 }, rfl, (by first | rfl | (simp; done)), H', ⟨by have := HK1.out; omega⟩, ⟨HR5.out.run⟩⟩
             · have b22 : (op == 22) = false := beq_eq_false_iff_ne.mpr o22
               simp only [stepV] at hst
               rw [if_neg o19, if_neg o20, if_neg o21, if_neg o22] at hst
               obtain ⟨⟨r1, r2⟩, hl, hst⟩ := Option.bind_eq_some_iff.mp hst
               dsimp only at hst
               have HL := Aside0.mk hl
               clear hl
               cases r2 with
               | true =>
                rw [if_pos rfl] at hst
                obtain ⟨l1, hset, hst⟩ := Option.bind_eq_some_iff.mp hst
                obtain ⟨p0, p1, rfl⟩ := setI_some hset
                obtain ⟨rfl, rfl⟩ : pc = pc1 ∧ { s with regs := s.regs.set d.toNat r1 } = s1 := by
                 have h1 := Option.some.inj hst
                 exact ⟨congrArg Prod.fst h1, congrArg Prod.snd h1⟩
                clear hst hset
                have hrl := HR3.out.run.rl
                have q0 := eq_true p0
                have q1 := eq_true (show d < (nr : Int) by omega)
                have P0 := Aside0.mk p0
                have P1 := Aside0.mk p1
                clear p0 p1 hrl
                go_wp2_with (go_at_call 130; (obtain ⟨hbk, -, hr0, hr1, hr2, hr3⟩ := HC.out.at_ HR3.out.run.chg); refine (load_any Bk A0 A1 A2 A3 c0 c1 c2 c3 vP vS vM inn st mem raised op d a b c v r1 true _ HL.out hbk hr0 hr1 hr2 hr3).mono ?_; clear hbk hr0 hr1 hr2 hr3; rintro e w4 ⟨rfl, hb4⟩; have HR4 := Aside0.mk (HR3.out.below hb4); clear hb4; obtain ⟨z0, z1, z2, z3, z4, z5⟩ := HR4.out.x; have kb := cell_of_one HR4.out.run.box; obtain ⟨hcl, hfr⟩ := HR4.out.regsAt d P0.out P1.out)
                go_roundg k1
                case measure => have := HK1.out; omega
                case rel => exact ⟨wrap64 (pc + 1), wrap64 (dn + 1), { s with regs := s.regs.set d.toNat r1 }, rfl, (by first | rfl | (simp; done)), H', ⟨by have := HK1.out; omega⟩, ⟨HR4.out.run.setRegs HC.out d r1 s.fl⟩⟩
               | false =>
                rw [if_neg (by decide)] at hst
                obtain ⟨va, hva, hst⟩ := Option.bind_eq_some_iff.mp hst
                obtain ⟨vb, hvb, hst⟩ := Option.bind_eq_some_iff.mp hst
                obtain ⟨vc, hvc, hst⟩ := Option.bind_eq_some_iff.mp hst
                obtain ⟨⟨y1, y2⟩, hq, hst⟩ := Option.bind_eq_some_iff.mp hst
                dsimp only at hst
                obtain ⟨l1, hset, hst⟩ := Option.bind_eq_some_iff.mp hst
                obtain ⟨p0, p1, rfl⟩ := setI_some hset
                obtain ⟨rfl, rfl⟩ : pc = pc1 ∧ { s with regs := s.regs.set d.toNat y1, fl := Go.bits .or .i64 s.fl y2 } = s1 := by
                 have h1 := Option.some.inj hst
                 exact ⟨congrArg Prod.fst h1, congrArg Prod.snd h1⟩
                clear hst hset
                have hop : 0 ≤ op ∧ op < 23 := by
                 rcases Decidable.em (0 ≤ op ∧ op < 23) with h1 | h1
                 · exact h1
                 · rw [if_neg h1] at hq
                   exact absurd hq (by simp)
                rw [if_pos hop] at hq
                obtain ⟨h00, h23⟩ := hop
                obtain ⟨opn, rfl⟩ := Int.eq_ofNat_of_zero_le h00
                obtain ⟨F, fn, cap, hcap, hf1, hf2, hf3, hcall⟩ := HO.out opn va vb vc y1 y2 (by omega) hq
                have hrl := HR3.out.run.rl
                have q0 := eq_true p0
                have q1 := eq_true (show d < (nr : Int) by omega)
                have u0 := eq_true h00
                have u1 := eq_true h23
                have P0 := Aside0.mk p0
                have P1 := Aside0.mk p1
                have HVa := Aside0.mk hva
                have HVb := Aside0.mk hvb
                have HVc := Aside0.mk hvc
                have HCAP := Aside0.mk hcap
                have HCALL := Aside0.mk hcall
                have HOP := Aside0.mk (show 11 + opn ≠ 34 by omega)
                clear p0 p1 hrl hq h00 h23 hva hvb hvc hcap hcall
                go_wp2_with (go_at_call 130; (obtain ⟨hbk, -, hr0, hr1, hr2, hr3⟩ := HC.out.at_ HR3.out.run.chg); refine (load_any Bk A0 A1 A2 A3 c0 c1 c2 c3 vP vS vM inn st mem raised (opn : Int) d a b c v r1 false _ HL.out hbk hr0 hr1 hr2 hr3).mono ?_; clear hbk hr0 hr1 hr2 hr3; rintro e w4 ⟨rfl, hb4⟩; have HR4 := Aside0.mk (HR3.out.below hb4); clear hb4; obtain ⟨z0, z1, z2, z3, z4, z5⟩ := HR4.out.x)
                have HR5 := Aside0.mk HR4.out.drew
                have kf := HMC.out _ _ (11 + opn) _ HR5.out.run.mach HOP.out HCAP.out
                clear z0 z1 z2 z3 z4 z5 x0 x1 x2 x3 x4 x5
                obtain ⟨z0, z1, z2, z3, z4, z5⟩ := HR5.out.x
                refine start_ (n := 25) (S := fun w' => w'.cell? ⟨gx, 0, none⟩ = some (.int .i64 (opn : Int)) ∧ w'.cell? ⟨Bm, 11 + opn, none⟩ = some (.func (.func F) #[] cap) ∧ w'.cell? ⟨gx, 2, none⟩ = some (.int .i64 a) ∧ w'.cell? ⟨gx, 3, none⟩ = some (.int .i64 b) ∧ w'.cell? ⟨gx, 4, none⟩ = some (.int .i64 c)) (ds := []) (Array.replicate 25 false) (by kernel_rfl) rfl rfl ⟨z0, kf, z2, z3, z4⟩ (fun hHeld => ?_); refine with_tabW op_tab op_bits (fun HT_ HW_ => ?_)
                refine pu HT_ 0 55 rfl rfl (by kernel_rfl) (fun _ _ _ h => h) (by rfl) (by intro w'; go_simp; with_reducible rfl) (by simp only [Act.put, sA, sB, sC, i64_w, i32_w]; rfl) ?_
                refine pu HT_ 1 56 rfl rfl (by kernel_rfl) (fun _ _ _ h => h) (by rfl) (by intro w'; go_simp; with_reducible rfl) (by simp only [Act.put, sA, sB, sC, i64_w, i32_w]; rfl) ?_
                refine pu HT_ 3 58 rfl rfl (by kernel_rfl) (fun _ _ _ h => h) (by rfl) (by intro w'; go_simp; with_reducible rfl) (by simp only [Act.put, sA, sB, sC, i64_w, i32_w]; rfl) ?_
                refine pu HT_ 4 59 rfl rfl (by kernel_rfl) (fun _ _ _ h => h) (by rfl) (by intro w'; go_simp; with_reducible rfl) (by simp only [Act.put, sA, sB, sC, i64_w, i32_w]; rfl) ?_
                refine pu HT_ 7 62 rfl rfl (by kernel_rfl) (fun _ _ _ h => h) (by rfl) (by intro w'; go_simp; with_reducible rfl) (by simp only [Act.put, sA, sB, sC, i64_w, i32_w]; rfl) ?_
                refine pu HT_ 8 63 rfl rfl (by kernel_rfl) (fun _ _ _ h => h) (by rfl) (by intro w'; go_simp; with_reducible rfl) (by simp only [Act.put, sA, sB, sC, i64_w, i32_w]; rfl) ?_
                refine pu HT_ 11 66 rfl rfl (by kernel_rfl) (fun _ _ _ h => h) (by rfl) (by intro w'; go_simp; with_reducible rfl) (by simp only [Act.put, sA, sB, sC, i64_w, i32_w]; rfl) ?_
                refine pu HT_ 12 67 rfl rfl (by kernel_rfl) (fun _ _ _ h => h) (by rfl) (by intro w'; go_simp; with_reducible rfl) (by simp only [Act.put, sA, sB, sC, i64_w, i32_w]; rfl) ?_
                refine pu HT_ 15 70 rfl rfl (by kernel_rfl) (fun _ _ _ h => h) (by rfl) (by intro w'; go_simp; with_reducible rfl) (by simp only [Act.put, sA, sB, sC, i64_w, i32_w]; rfl) ?_
                refine pu HT_ 16 71 rfl rfl (by kernel_rfl) (fun _ _ _ h => h) (by rfl) (by intro w'; go_simp; with_reducible rfl) (by simp only [Act.put, sA, sB, sC, i64_w, i32_w]; rfl) ?_
                refine tk HT_ HW_ hHeld 2 57 rfl rfl (by kernel_rfl) (fun _ _ _ h => h) (by rfl) (by rintro w' ⟨s0, s1, s2, s3, s4⟩; go_simp; with_reducible rfl) (by simp only [Act.put, sA, sB, sC, i64_w, i32_w]; rfl) ?_
                refine tk HT_ HW_ hHeld 9 64 rfl rfl (by kernel_rfl) (fun _ _ _ h => h) (by rfl) (by rintro w' ⟨s0, s1, s2, s3, s4⟩; go_simp; with_reducible rfl) (by simp only [Act.put, sA, sB, sC, i64_w, i32_w]; rfl) ?_
                refine tk HT_ HW_ hHeld 13 68 rfl rfl (by kernel_rfl) (fun _ _ _ h => h) (by rfl) (by rintro w' ⟨s0, s1, s2, s3, s4⟩; go_simp; with_reducible rfl) (by simp only [Act.put, sA, sB, sC, i64_w, i32_w]; rfl) ?_
                refine tk HT_ HW_ hHeld 17 72 rfl rfl (by kernel_rfl) (fun _ _ _ h => h) (by rfl) (by rintro w' ⟨s0, s1, s2, s3, s4⟩; go_simp; with_reducible rfl) (by simp only [Act.put, sA, sB, sC, i64_w, i32_w]; rfl) ?_
                refine pu HT_ 5 60 rfl rfl (by kernel_rfl) (fun _ _ _ h => h) (by rfl) (by intro w'; go_simp; with_reducible rfl) (by simp only [Act.put, sA, sB, sC, i64_w, i32_w]; rfl) ?_
                refine tk HT_ HW_ hHeld 6 61 rfl rfl (by kernel_rfl) (fun _ _ _ h => h) (by rfl) (by rintro w' ⟨s0, s1, s2, s3, s4⟩; go_simp; with_reducible rfl) (by simp only [Act.put, sA, sB, sC, i64_w, i32_w]; rfl) ?_
                refine on1 HT_ 10 (some 65) rfl rfl (by kernel_rfl) (by decide) (fun K hK => ?_)
                refine goesV_ Tryz.func129 (by kernel_rfl) rfl #[.int .i64 a] (by rfl) rfl (by rfl) rfl (by (try simp only [List.map_toArray, List.map_cons, List.map_nil]); first | done | rfl) ?_
                refine (HR5.out.run.at_call hn0 hn1 _ _ HVa.out).mono ?_
                rintro e w5 ⟨rfl, rfl⟩
                refine ⟨_, rfl, ?_⟩
                refine hK.out _ _ hHeld (fun hHeld => ?_)
                clear hK K
                refine norm_ (by show Act.put _ (some 65) _ = _; simp only [Act.put, sA, sB, sC, i64_w, i32_w]; rfl) ?_
                refine on1 HT_ 14 (some 69) rfl rfl (by kernel_rfl) (by decide) (fun K hK => ?_)
                refine goesV_ Tryz.func129 (by kernel_rfl) rfl #[.int .i64 b] (by rfl) rfl (by rfl) rfl (by (try simp only [List.map_toArray, List.map_cons, List.map_nil]); first | done | rfl) ?_
                refine (HR5.out.run.at_call hn0 hn1 _ _ HVb.out).mono ?_
                rintro e w5 ⟨rfl, rfl⟩
                refine ⟨_, rfl, ?_⟩
                refine hK.out _ _ hHeld (fun hHeld => ?_)
                clear hK K
                refine norm_ (by show Act.put _ (some 69) _ = _; simp only [Act.put, sA, sB, sC, i64_w, i32_w]; rfl) ?_
                refine on1 HT_ 18 (some 73) rfl rfl (by kernel_rfl) (by decide) (fun K hK => ?_)
                refine goesV_ Tryz.func129 (by kernel_rfl) rfl #[.int .i64 c] (by rfl) rfl (by rfl) rfl (by (try simp only [List.map_toArray, List.map_cons, List.map_nil]); first | done | rfl) ?_
                refine (HR5.out.run.at_call hn0 hn1 _ _ HVc.out).mono ?_
                rintro e w5 ⟨rfl, rfl⟩
                refine ⟨_, rfl, ?_⟩
                refine hK.out _ _ hHeld (fun hHeld => ?_)
                clear hK K
                refine norm_ (by show Act.put _ (some 73) _ = _; simp only [Act.put, sA, sB, sC, i64_w, i32_w]; rfl) ?_
                refine on1 HT_ 19 (some 74) rfl rfl (by kernel_rfl) (by decide) (fun K hK => ?_)
                refine goesV_ hf1 hf2 hf3 #[.int .i64 va, .int .i64 vb, .int .i64 vc] (by rfl) rfl (by rfl) rfl (by (try simp only [List.map_toArray, List.map_cons, List.map_nil]); first | done | rfl) ?_
                refine (HCALL.out _ HR5.out.run.chg).mono ?_
                rintro e w6 ⟨rfl, hb6⟩
                refine ⟨_, rfl, ?_⟩
                have HR6 := Aside0.mk (HR5.out.below hb6)
                clear hb6 z0 z1 z2 z3 z4 z5
                have kf := HMC.out _ _ (11 + opn) _ HR6.out.run.mach HOP.out HCAP.out
                obtain ⟨z0, z1, z2, z3, z4, z5⟩ := HR6.out.x
                refine hK.out _ _ ⟨z0, kf, z2, z3, z4⟩ (fun hHeld => ?_)
                clear hK K
                refine norm_ (by show Act.put _ (some 74) _ = _; simp only [Act.put, sA, sB, sC, i64_w, i32_w]; rfl) ?_
                refine pu HT_ 20 54 rfl rfl (by kernel_rfl) (fun _ _ _ h => h) (by rfl) (by intro w'; go_simp; with_reducible rfl) (by simp only [Act.put, sA, sB, sC, i64_w, i32_w]; rfl) ?_
                refine pu HT_ 21 75 rfl rfl (by kernel_rfl) (fun _ _ _ h => h) (by rfl) (by intro w'; go_simp; with_reducible rfl) (by simp only [Act.put, sA, sB, sC, i64_w, i32_w]; rfl) ?_
                refine pu HT_ 22 76 rfl rfl (by kernel_rfl) (fun _ _ _ h => h) (by rfl) (by intro w'; go_simp; with_reducible rfl) (by simp only [Act.put, sA, sB, sC, i64_w, i32_w]; rfl) ?_
                refine pu HT_ 23 14 rfl rfl (by kernel_rfl) (fun _ _ _ h => h) (by rfl) (by intro w'; go_simp; with_reducible rfl) (by simp only [Act.put, sA, sB, sC, i64_w, i32_w]; rfl) ?_
                refine pu HT_ 24 15 rfl rfl (by kernel_rfl) (fun _ _ _ h => h) (by rfl) (by intro w'; go_simp; with_reducible rfl) (by simp only [Act.put, sA, sB, sC, i64_w, i32_w]; rfl) ?_
                refine done_ (done_of HT_.out (by kernel_rfl)) ?_
                have kb := cell_of_one HR6.out.run.box
                obtain ⟨hcl, hfr⟩ := HR6.out.regsAt d P0.out P1.out
                go_wp2
                go_roundg k1
                case measure => have := HK1.out; omega
                case rel => exact ⟨wrap64 (pc + 1), wrap64 (dn + 1), { s with regs := s.regs.set d.toNat y1, fl := Go.bits .or .i64 s.fl y2 }, rfl, (by first | rfl | (simp; done)), H', ⟨by have := HK1.out; omega⟩, ⟨HR6.out.run.setRegs HC.out d y1 (Go.bits .or .i64 s.fl y2)⟩⟩
     · rw [if_neg c6] at H
       exact absurd H (by simp)
   · rw [if_neg c5] at H
     have c5b : decide (pc < (l.length : Int)) = false := decide_eq_false c5
     clear c5
     simp only [Option.some.injEq, Prod.mk.injEq] at H
     obtain ⟨rfl, rfl⟩ := H
     go_wp2
     go_ret
     exact ⟨rfl, HW.out.chg, HW.out.mach, HW.out.put, HW.out.ns, HW.out.nm⟩

section
variable {n Bm : Nat} {cs : Array Value} {v0 v1 v2 v3 v6 v7 v8 v9 : Value} {l0 l1 l2 l3 : List Int} {a4 a5 : Int} {l6 l7 l8 l9 : List S49} {dn : Int} {w w' : World}
theorem Mach.cell (h : Mach n Bm cs v0 v1 v2 v3 v6 v7 v8 v9 l0 l1 l2 l3 a4 a5 l6 l7 l8 l9 dn w) {j : Nat} {v : Value} (hj : j ≠ 34) (hv : cs[j]? = some v) : w.cell? ⟨Bm, j, none⟩ = some v := by
 rw [cell_of_row w Bm j _ _ _ h.blk, Array.getElem?_setIfInBounds_ne (fun e => hj e.symm)]
 exact hv
theorem Mach.done (h : Mach n Bm cs v0 v1 v2 v3 v6 v7 v8 v9 l0 l1 l2 l3 a4 a5 l6 l7 l8 l9 dn w) : w.cell? ⟨Bm, 34, none⟩ = some (.int .i64 dn) := by
 rw [cell_of_row w Bm 34 _ _ _ h.blk, Array.getElem?_setIfInBounds_self_of_lt (by rw [h.sz]; decide)]
theorem Mach.chg {dn' : Int} (h : Mach n Bm cs v0 v1 v2 v3 v6 v7 v8 v9 l0 l1 l2 l3 a4 a5 l6 l7 l8 l9 dn w) (hc : Chg (fun k => k = Bm) w w') (hb : w'.heap[Bm]? = some (.cells (cs.setIfInBounds 34 (.int .i64 dn')) 112 (0, 0))) : Mach n Bm cs v0 v1 v2 v3 v6 v7 v8 v9 l0 l1 l2 l3 a4 a5 l6 l7 l8 l9 dn' w' :=
 ⟨h.lo, hb, h.sz, h.rg, h.o0, h.o1, h.o2, h.o3, h.o4, h.o5, h.o6, h.o7, h.o8, h.o9,
  Kd.R_step h.r0 (fun k hk hl => hc.block k hl hk), Kd.R_step h.r1 (fun k hk hl => hc.block k hl hk), Kd.R_step h.r2 (fun k hk hl => hc.block k hl hk), Kd.R_step h.r3 (fun k hk hl => hc.block k hl hk),
  Kd.R_step h.r6 (fun k hk hl => hc.block k hl hk), Kd.R_step h.r7 (fun k hk hl => hc.block k hl hk), Kd.R_step h.r8 (fun k hk hl => hc.block k hl hk), Kd.R_step h.r9 (fun k hk hl => hc.block k hl hk),
  fun op ho => by
   obtain ⟨b, h1, h2, h3, h4⟩ := h.ops op ho
   exact ⟨b, h1, h2, h3, (hc.block b (lt_of_block h4) h2).trans h4⟩, h.pick⟩
theorem Mach.below (h : Mach n Bm cs v0 v1 v2 v3 v6 v7 v8 v9 l0 l1 l2 l3 a4 a5 l6 l7 l8 l9 dn w) (hb : Below w.heap.size w w') : Mach n Bm cs v0 v1 v2 v3 v6 v7 v8 v9 l0 l1 l2 l3 a4 a5 l6 l7 l8 l9 dn w' := h.chg (Chg.of_below hb _) ((hb.block _ (lt_of_block h.blk)).trans h.blk)
end
/-- A list that is read, beside block Bm. -/
structure LI (Bm : Nat) (w : World) (A : Option Addr) (l : List Int) : Prop where
 c : Kd.C (Kd.int .i64) w A l.length l
 ne : ∀ ad, A = some ad → 0 < l.length → ad.block ≠ Bm
theorem LI.chg {Bm : Nat} {w w' : World} {A : Option Addr} {l : List Int} (h : LI Bm w A l) (hc : Chg (fun k => k = Bm) w w') : LI Bm w' A l := ⟨C_keep h.c h.ne hc (fun _ _ hk => hk), h.ne⟩
theorem LI.below {Bm : Nat} {w w' : World} {A : Option Addr} {l : List Int} (h : LI Bm w A l) (hb : Below w.heap.size w w') : LI Bm w' A l := h.chg (Chg.of_below hb _)
theorem C_lt {α : Type} {d : Kd α} {w : World} {ad : Addr} {m : Nat} {l : List α} (h : d.C w (some ad) m l) (hp : 0 < m) (hz : 0 < d.sz) : ad.block < w.heap.size := by
 obtain ⟨ad', e, hc⟩ := h.2.2 hp
 injection e with e
 subst e
 have hl := h.1
 obtain ⟨c, hs, hk, hcell⟩ := hc 0 _ (List.getElem?_eq_getElem (show 0 < l.length by omega))
 have hx := hcell 0 _ (List.getElem?_eq_getElem (show 0 < c.length by omega))
 have := World.block_lt_of_cell? w _ hx
 rwa [addr_block] at this
/-- A row of one's own is read, beside the blocks that it is not. -/
theorem R_list {α : Type} {d : Kd α} {e base : Nat} {w : World} {ok : Nat → Prop} {v : Value} {l : List α} (h : d.R e w base ok v l) : ∃ A c, v = .slice A l.length c ∧ l.length ≤ c ∧ d.C w A l.length l ∧ ∀ ad, A = some ad → 0 < l.length → ok ad.block := by
 obtain ⟨A, c, hv, hl, hc⟩ := Kd.R_reads h
 refine ⟨A, c, hv, hl, hc, fun ad ha hp => ?_⟩
 obtain ⟨g, cap, hg, -, -, -⟩ := Kd.R_form h hp
 rw [hv] at hg
 injection hg with h1 h2 h3
 rw [ha] at h1
 injection h1 with h1
 have := h.1 g (by rw [hv, ha, h1]; rfl)
 rw [h1]
 exact this
/-- The operators are what O tells, wherever their boxes stand. -/
def OpsFor (cs : Array Value) (O : Int → Int → Int → Int → Option (Int × Int)) : Prop :=
 ∀ (w0 : World) (S : Nat → Prop), (∀ op, op ∈ [17, 16, 15, 14, 13, 7, 12, 11, 10, 9, 8, 6] → ∃ b, ¬ S b ∧ cs[11 + op]? = some (.func (.func (opOuter op)) #[] #[.pointer (some ⟨b, 0, none⟩)]) ∧ w0.heap[b]? = some (.cells #[.func (.func (opInner op)) #[] #[]] (opType op) (0, 0))) → cs[29]? = some (.func (.func 127) #[] #[]) → OpsOk w0 S cs O
set_option maxHeartbeats 1000000 in
set_option maxRecDepth 100000 in
theorem fits_any {n Bm : Nat} {cs : Array Value} {v0 v1 v2 v3 v6 v7 v8 v9 : Value} {l0 l1 l2 l3 : List Int} {a4 a5 : Int} {l6 l7 l8 l9 : List S49} {dn : Int} {w : World} (h : Mach n Bm cs v0 v1 v2 v3 v6 v7 v8 v9 l0 l1 l2 l3 a4 a5 l6 l7 l8 l9 dn w) (Ai As Am : Option Addr) (ni ns nm ci cs' cm : Nat) :
 Calls Tryz.prog 69 #[.pointer (some ⟨Bm, 0, none⟩), .slice Ai ni ci, .slice As ns cs', .slice Am nm cm] w fun e w' => e = .returned (.int .i64 (if ni = l0.length ∧ ns = l2.length ∧ nm = l3.length then 0 else 13)) ∧ w' = w := by
 have k0 := h.cell (by decide) h.o0
 have k2 := h.cell (by decide) h.o2
 have k3 := h.cell (by decide) h.o3
 obtain ⟨B0, d0, rfl⟩ := Kd.R_slice h.r0
 obtain ⟨B2, d2, rfl⟩ := Kd.R_slice h.r2
 obtain ⟨B3, d3, rfl⟩ := Kd.R_slice h.r3
 clear h
 by_cases c1 : ni = l0.length
 · by_cases c2 : ns = l2.length
   · by_cases c3 : nm = l3.length
     · rw [if_pos ⟨c1, c2, c3⟩]
       subst c1 c2 c3
       go_enter Tryz.func69, Tryz.ntmps69
       go_wp2
       go_ret
       exact ⟨rfl, rfl⟩
     · rw [if_neg (fun hh => c3 hh.2.2)]
       subst c1 c2
       go_enter Tryz.func69, Tryz.ntmps69
       go_wp2
       go_ret
       exact ⟨rfl, rfl⟩
   · rw [if_neg (fun hh => c2 hh.2.1)]
     subst c1
     go_enter Tryz.func69, Tryz.ntmps69
     go_wp2
     go_ret
     exact ⟨rfl, rfl⟩
 · rw [if_neg (fun hh => c1 hh.1)]
   go_enter Tryz.func69, Tryz.ntmps69
   go_wp2
   go_ret
   exact ⟨rfl, rfl⟩
set_option maxHeartbeats 2000000 in
set_option maxRecDepth 100000 in
theorem made_any {n Bm : Nat} {cs : Array Value} {v0 v1 v2 v3 v6 v7 v8 v9 : Value} {l0 l1 l2 l3 : List Int} {a4 a5 : Int} {l6 l7 l8 l9 : List S49} {dn : Int} {w : World} (h : Mach n Bm cs v0 v1 v2 v3 v6 v7 v8 v9 l0 l1 l2 l3 a4 a5 l6 l7 l8 l9 dn w) (O : Int → Int → Int → Int → Option (Int × Int)) (hO : OpsFor cs O) (k nr many : Nat) (AL Ai As Am : Option Addr) (cl ci cs' cm : Nat) (l : List S49) (inn st mem : List Int)
 (hL : Kd.C k49 w AL l.length l) (hnL : ∀ ad, AL = some ad → 0 < l.length → ad.block ≠ Bm) (hi : LI Bm w Ai inn) (hs : LI Bm w As st) (hm : LI Bm w Am mem)
 (hmx : (if regsTo (four l6 l7 l8 l9) 4 < 1 then 1 else regsTo (four l6 l7 l8 l9) 4) = (nr : Int)) (hn0 : 0 < nr) (hn1 : nr ≤ 4000) (hmany : many ≤ 100000) (s' : RS) (dn' : Int)
 (hr : runV O inn st mem [] l k 0 dn ⟨List.replicate nr 0, 0, List.replicate many 0, [], []⟩ = some (s', dn')) :
 Calls Tryz.prog 70 #[.pointer (some ⟨Bm, 0, none⟩), .slice AL l.length cl, .int .i64 (many : Int), .slice Ai inn.length ci, .slice As st.length cs', .slice Am mem.length cm] w fun e w' => ∃ v, e = .returned (.tuple #[v, .int .i64 s'.fl, .int .i64 0]) ∧ Kd.R (Kd.int .i64) 2 w' w.heap.size (fun k => k ≠ Bm) v s'.put ∧ Mach n Bm cs v0 v1 v2 v3 v6 v7 v8 v9 l0 l1 l2 l3 a4 a5 l6 l7 l8 l9 dn' w' ∧ Chg (fun k => k = Bm) w w' := by
 have H := Aside0.mk h
 have HO := Aside0.mk hO
 have HL := Aside0.mk (And.intro hL hnL)
 have HI := Aside0.mk hi
 have HS := Aside0.mk hs
 have HM := Aside0.mk hm
 have HR := Aside0.mk hr
 have hlt : Bm < w.heap.size := lt_of_block h.blk
 clear h hO hL hnL hi hs hm hr
 go_enter Tryz.func70, Tryz.ntmps70
 go_wp2_with ((with_reducible refine gate_dst (N := 21) rfl ?_); refine Kd.R_make (Kd.int .i64) (w0 := w) w.heap.size 2 rfl (N := 21) rfl 23 _ _ rfl (many : Int) rfl rfl Tryz.underlying23 (.int .i64 0) 8 row2 rfl (by decide) (by decide) (0 : Int) (ok := fun k => k = w.heap.size) (okp := fun _ => False) rfl (fun _ hk => hk.elim) rfl (by omega) (by omega) (Below.refl _ _) (Nat.le_refl _) ?_; intro v1 w1 ho1 hb1 hg1 hn1'; rw [Int.toNat_natCast] at ho1; obtain ⟨AP, cP, hvP⟩ := Kd.R_slice ho1; rw [List.length_replicate] at hvP; subst hvP; have hlt1 : w.heap.size < w1.heap.size := (by obtain ⟨b, hb, -⟩ := hn1'; have e := ho1.1 b hb; have h2 := Kd.R_lt ho1 b hb; omega); have HO1 := Aside0.mk ho1; have HB1 := Aside0.mk hb1; clear ho1 hb1 hg1 hn1')
 obtain ⟨w2, hw2⟩ : ∃ z, (w1.alloc (Obj.cells #[.slice Ai inn.length ci, .slice As st.length cs', .slice Am mem.length cm, .slice none 0 0, .slice AP many cP, .slice none 0 0, .slice none 0 0] 121)) = z := ⟨_, rfl⟩
 have hb2 : Below w.heap.size w w2 := by rw [← hw2]; exact below_alloc HB1.out _
 have hb12 : Below w1.heap.size w1 w2 := by rw [← hw2]; exact below_alloc (Below.refl _ _) _
 have hbk : w2.heap[w1.heap.size]? = some (.cells #[.slice Ai inn.length ci, .slice As st.length cs', .slice Am mem.length cm, .slice none 0 0, .slice AP many cP, .slice none 0 0, .slice none 0 0] 121 (0, 0)) := by rw [← hw2]; exact blk_new w1 _
 have HP := Aside0.mk (Kd.R_mono (Kd.R_below HO1.out hb12) (ok' := fun k => some k = some w.heap.size) (fun _ hk => by rw [hk]))
 have hs2 : w2.heap.size = w1.heap.size + 1 := by rw [← hw2]; simp
 rw [hw2]
 clear hw2
 have M2 := H.out.below hb2
 have hC : RunC w2 Bm w1.heap.size AL Ai As Am none ci cs' cm 0 (.slice AP many cP) (.slice none 0 0) (.slice none 0 0) (some w.heap.size) none none l inn st mem [] := by
  have key : ∀ {α : Type} {d : Kd α} {A : Option Addr} {m : Nat} {xs : List α}, d.C w A m xs → 0 < d.sz → (∀ ad, A = some ad → 0 < m → ad.block ≠ Bm) → ∀ ad, A = some ad → 0 < m → ¬ S0 Bm (some w.heap.size) none none ad.block := fun hc hz hne ad ha hp hS => by
   subst ha
   have hlt := C_lt hc hp hz
   have h1 := hne ad rfl hp
   rcases hS with h2 | h2 | h2 | h2
   · exact h1 h2
   · injection h2 with h2; omega
   · cases h2
   · cases h2
  exact ⟨hbk, Kd.C_below HL.out.1 hb2, (HI.out.below hb2).c, (HS.out.below hb2).c, (HM.out.below hb2).c, ⟨rfl, by decide, fun hh => absurd hh (by simp)⟩,
   (fun hS => by
    rcases hS with h2 | h2 | h2 | h2
    · omega
    · injection h2 with h2; omega
    · cases h2
    · cases h2),
   key HL.out.1 (by decide) HL.out.2, key HI.out.c (by decide) HI.out.ne, key HS.out.c (by decide) HS.out.ne, key HM.out.c (by decide) HM.out.ne, (fun ad ha => by cases ha),
   (fun hh => by injection hh with hh; omega), (fun hh => by cases hh), (fun hh => by cases hh), (fun k _ hh => by cases hh), (fun k _ hh => by cases hh), (fun k hh => by cases hh), (fun k hh => by injection hh with hh; omega), (fun k hh => by cases hh), (fun k hh => by cases hh), by omega⟩
 have hO2 : OpsOk w2 (S0 Bm (some w.heap.size) none none) cs O := HO.out w2 _ (fun op ho => by
  obtain ⟨b, h1, h2, h3, h4⟩ := H.out.ops op ho
  have hlt := lt_of_block h4
  refine ⟨b, fun hS => ?_, h3, (hb2.block b hlt).trans h4⟩
  rcases hS with h5 | h5 | h5 | h5
  · exact h2 h5
  · injection h5 with h5; omega
  · cases h5
  · cases h5) H.out.pick
 refine (run_any O k w2 Bm w1.heap.size cs AL Ai As Am none cl ci cs' cm 0 _ _ _ (some w.heap.size) none none w.heap.size nr _ dn l inn st mem [] _ [] [] hC M2.blk M2.sz M2.rg hmx hn0 hn1 HP.out (Kd.R_nil _ _ _ _ _) (Kd.R_nil _ _ _ _ _) hO2 s' dn' HR.out).mono ?_
 rintro e w3 ⟨rfl, hc, hmach, hput, -, -⟩
 have hnb : ¬ S0 Bm (some w.heap.size) none none w1.heap.size := hC.nBk
 have kb : w3.cell? ⟨w1.heap.size, 4, none⟩ = some (.slice AP many cP) := (blk_cell ((hc.block _ (blk_lt hbk) hnb).trans hbk) 4).trans rfl
 have HCH := Aside0.mk (show Chg (fun k => k = Bm) w w3 from ((Chg.of_below hb2 (fun k => k = Bm)).then_ hc (fun i hi => by
  rcases hi with h5 | h5 | h5 | h5
  · exact .inl h5
  · injection h5 with h5; exact .inr (by omega)
  · cases h5
  · cases h5)))
 have HMA := Aside0.mk hmach
 have HPU := Aside0.mk (Kd.R_mono hput (ok' := fun k => k ≠ Bm) (fun k hk e => by injection hk with hk; omega))
 clear hbk hb2 hb12 hC hO2 hc hmach hput hnb M2
 go_wp2
 go_ret3
 exact ⟨_, rfl, HPU.out, H.out.chg HCH.out HMA.out, HCH.out⟩

end Go.Proofs.YtgalkkolbobmbaaGreat.V
