/- The Go function Names$1 (meet), walked. -/
import Derived.Test.YtediidkiedifcaaANames1
namespace Go.Proofs.Ytediidkiedifcaa.Q
set_option linter.unusedVariables false
set_option linter.unusedSimpArgs false
open Go.RowKit Go.Proofs.YtediidkiedifcaaW.PrintWords Go.Proofs.YtediidkiedifcaaW.PrintLast Go.Proofs.YtediidkiedifcaaW.PrintMore
theorem mark_count {l : List Bool} {i : Nat} (hx : i < l.length) (hf : l.getD i false = false) : (l.set i true).count false + 1 = l.count false := by
  have hfe : l[i] = false := by rwa [List.getD_eq_getElem?_getD, List.getElem?_eq_getElem hx] at hf
  rw [List.count_set hx, hfe]
  have : 0 < l.count false := List.count_pos_iff.2 (by rw [← hfe]; exact List.getElem_mem hx)
  simp
  omega
theorem parts_lenN (x : S31) : (partsF x).length ≤ x.f7.length + 3 := by
  unfold partsF
  split
  · simp
  · split
    · simp
    · split
      · simp
      · split
        · simp
        · simp
def Met (w : World) (gp gm gb go gf cb : Nat) (A0 : Option Addr) (c0 : Nat) (l0 : List S45) (A1 : Option Addr) (c1 : Nat) (l1 : List S31) (n : Nat) (x : Int) (s : St) (W : World) (en : Ending) (W' : World) : Prop :=
  en = .returned (.tuple #[]) ∧ ∃ v', MS w W' gp gm gb go gf cb A0 c0 l0 A1 c1 l1 v' (meetF n l1 x.toNat s) ∧ TK W W'
set_option maxHeartbeats 8000000 in
set_option maxRecDepth 100000 in
theorem meet_any (w : World) (gp gm gb go gf cb : Nat) (A0 : Option Addr) (c0 : Nat) (l0 : List S45) (A1 : Option Addr) (c1 : Nat) (l1 : List S31) (hE : Kd.C k31 w A1 l1.length l1) (hEc : l1.length ≤ c1) (hn : l1.length ≤ 1000000000000) (hsz : ∀ x ∈ l1, x.f7.length ≤ 1000000000000)
    (hpar : ∀ x : Int, 0 ≤ x → x < (l1.length : Int) → ∀ c ∈ partsF (rd_T31 l1 x), 0 ≤ c ∧ c < x) :
    ∀ (n : Nat) (x : Int), 0 ≤ x → x.toNat < n → x < (l1.length : Int) → ∀ (W : World) (v : Value) (s : St), MS w W gp gm gb go gf cb A0 c0 l0 A1 c1 l1 v s →
      Calls Try.prog 35 #[.int .i64 x, .pointer (some ⟨gm, 0, none⟩), .pointer (some ⟨gp, 0, none⟩), .pointer (some ⟨go, 0, none⟩), .pointer (some ⟨gf, 0, none⟩)] W (Met w gp gm gb go gf cb A0 c0 l0 A1 c1 l1 n x s W) := by
  intro n
  induction n with
  | zero => intro x _ h; omega
  | succ n ih =>
    intro x h0 hxn h1 W v s hS
    have HS := Aside0.mk hS
    have HIH := Aside0.mk ih
    have HE := Aside0.mk hE
    have HN := Aside0.mk hn
    have HSZ := Aside0.mk hsz
    have HPAR := Aside0.mk (hpar x h0 h1)
    have HX := Aside0.mk (show 0 ≤ x ∧ x.toNat < n + 1 ∧ x < (l1.length : Int) from ⟨h0, hxn, h1⟩)
    have km := (blk_cell hS.km 0).trans rfl
    have hlen := hS.len
    obtain ⟨q1, q2⟩ := Kd.R_celln false hS.hm x h0 h1
    have hrd : rdOf false s.1 x = s.1.getD x.toNat false := by
      unfold rdOf
      rfl
    rw [hrd] at q1
    obtain ⟨b, hb⟩ : ∃ b, s.1.getD x.toNat false = b := ⟨_, rfl⟩
    rw [hb] at q1
    have HBF := Aside0.mk hb
    have HMK := Aside0.mk (show b = false → s.2.length + 1 + (s.1.set x.toNat true).count false ≤ l1.length from fun e => by have h5 := hS.inv; have h6 := mark_count (l := s.1) (i := x.toNat) (by omega) (by rw [hb, e]); omega)
    clear hS ih hE hn hsz hpar hxn hlen hrd hb
    replace h0 := eq_true h0
    replace h1 := eq_true h1
    cases b with
    | true =>
      clear HIH
      go_enter Try.func35, Try.ntmps35
      go_wp2
      refine bodyPost_ret (results_list (rs := []) (vs := []) rfl (by simp) .nil) rfl ?_
      refine ⟨rfl, v, ?_, TK.refl _⟩
      rw [meetF, if_pos HBF.out]
      exact HS.out
    | false =>
      go_enter Try.func35, Try.ntmps35
      go_upto_region 2 with (fail)
      obtain ⟨hS1, hT1⟩ := HS.out.mark x HX.out.1 HX.out.2.2 HBF.out
      obtain ⟨W1, hW⟩ : ∃ V, V = W.setCell ⟨gb, x.toNat, none⟩ (.bool true) := ⟨_, rfl⟩
      rw [← hW] at hS1 hT1 ⊢
      clear hW km q1 q2
      have HS1 := Aside0.mk hS1
      have HT1 := Aside0.mk hT1
      have kp1 := (blk_cell hS1.kp 1).trans rfl
      obtain ⟨ad, A7, c7, ea, hx0, hx1, hx2, hx3, hx4, hx5, hx6, hx7, hx8, hl7, hi7⟩ := at_T31 (Kd.C_below HE.out hS1.b) x HX.out.1 HX.out.2.2
      cases ea
      have HL7 := Aside0.mk hl7
      have HI7 := Aside0.mk hi7
      clear hS1 hT1 hl7 hi7
      go_upto_region 3 with (fail)
      have hS2 := HS1.out.below ((Below.refl W1.heap.size W1).alloc (Nat.le_refl _) (Obj.cells #[.int .i64 (rd_T31 l1 x).f0, .int .i64 (rd_T31 l1 x).f1, .int .i64 (rd_T31 l1 x).f2, .int .i64 (rd_T31 l1 x).f3, .string (rd_T31 l1 x).f4, .string (rd_T31 l1 x).f5, .int .i64 (rd_T31 l1 x).f6, .slice A7 (rd_T31 l1 x).f7.length c7, .int .i64 (rd_T31 l1 x).f8] 31))
      have hT2 := HT1.out.trans (TK.below ((Below.refl W1.heap.size W1).alloc (Nat.le_refl _) (Obj.cells #[.int .i64 (rd_T31 l1 x).f0, .int .i64 (rd_T31 l1 x).f1, .int .i64 (rd_T31 l1 x).f2, .int .i64 (rd_T31 l1 x).f3, .string (rd_T31 l1 x).f4, .string (rd_T31 l1 x).f5, .int .i64 (rd_T31 l1 x).f6, .slice A7 (rd_T31 l1 x).f7.length c7, .int .i64 (rd_T31 l1 x).f8] 31)))
      have hk6 := blk_new W1 (Obj.cells #[.int .i64 (rd_T31 l1 x).f0, .int .i64 (rd_T31 l1 x).f1, .int .i64 (rd_T31 l1 x).f2, .int .i64 (rd_T31 l1 x).f3, .string (rd_T31 l1 x).f4, .string (rd_T31 l1 x).f5, .int .i64 (rd_T31 l1 x).f6, .slice A7 (rd_T31 l1 x).f7.length c7, .int .i64 (rd_T31 l1 x).f8] 31)
      obtain ⟨g6, hg6⟩ : ∃ g, g = W1.heap.size := ⟨_, rfl⟩
      obtain ⟨W2, hW⟩ : ∃ V, V = W1.alloc (Obj.cells #[.int .i64 (rd_T31 l1 x).f0, .int .i64 (rd_T31 l1 x).f1, .int .i64 (rd_T31 l1 x).f2, .int .i64 (rd_T31 l1 x).f3, .string (rd_T31 l1 x).f4, .string (rd_T31 l1 x).f5, .int .i64 (rd_T31 l1 x).f6, .slice A7 (rd_T31 l1 x).f7.length c7, .int .i64 (rd_T31 l1 x).f8] 31) := ⟨_, rfl⟩
      rw [← hW] at hS2 hT2 hk6 ⊢
      clear hW HS1 HT1 kp1 hx0 hx1 hx2 hx3 hx4 hx5 hx6 hx7 hx8 HL7 HI7
      have z0 := (blk_cell hk6 0).trans rfl
      have z1 := (blk_cell hk6 1).trans rfl
      have z2 := (blk_cell hk6 2).trans rfl
      have z3 := (blk_cell hk6 3).trans rfl
      have z4 := (blk_cell hk6 4).trans rfl
      have z5 := (blk_cell hk6 5).trans rfl
      have z6 := (blk_cell hk6 6).trans rfl
      have z7 := (blk_cell hk6 7).trans rfl
      have z8 := (blk_cell hk6 8).trans rfl
      have HS2 := Aside0.mk hS2
      have HT2 := Aside0.mk hT2
      have HK6 := Aside0.mk hk6
      clear hk6 hS2 hT2 hg6
      obtain ⟨bq, hbq⟩ : ∃ b, ((rd_T31 l1 x).f0 == 3 && !hasS s.2 (rd_T31 l1 x).f4) = b := ⟨_, rfl⟩
      have HBQ := Aside0.mk hbq
      clear hbq
      go_cut [21, 22, 23, 24, 25, 26, 27, 28, 29, 30] (fun _ _ _ _ _ _ _ _ _ v30 we => v30 = .bool bq ∧ Aside0 (MS w we gp gm gb go gf cb A0 c0 l0 (some ad) c1 l1 v (s.1.set x.toNat true, s.2)) ∧ Aside0 (TK W we) ∧ Aside0 (we.heap[W1.heap.size]? = some (Obj.cells #[.int .i64 (rd_T31 l1 x).f0, .int .i64 (rd_T31 l1 x).f1, .int .i64 (rd_T31 l1 x).f2, .int .i64 (rd_T31 l1 x).f3, .string (rd_T31 l1 x).f4, .string (rd_T31 l1 x).f5, .int .i64 (rd_T31 l1 x).f6, .slice A7 (rd_T31 l1 x).f7.length c7, .int .i64 (rd_T31 l1 x).f8] 31)))
      case first =>
        have hout : s.2.length ≤ l1.length := by have := HS2.out.inv; dsimp only at this; omega
        have hc := contains_s s.2 (rd_T31 l1 x).f4 (by have := HN.out; omega)
        cases k3 : ((rd_T31 l1 x).f0 == 3) with
        | false =>
          have HB := Aside0.mk (show bq = false by have := HBQ.out; rw [k3] at this; exact this.symm)
          clear hout hc
          go_wp2
          go_meet
          case rel => exact ⟨by rw [HB.out], HS2, HT2, HK6⟩
        | true =>
          have hv := HS2.out.hv
          obtain ⟨Av, cv, ev⟩ := Kd.R_slice hv
          subst ev
          have HV := Aside0.mk (Kd.R_reads' hv)
          have ko := (blk_cell HS2.out.ko 0).trans rfl
          obtain ⟨hb, hhb⟩ : ∃ b, hasS s.2 (rd_T31 l1 x).f4 = b := ⟨_, rfl⟩
          have HB := Aside0.mk (show bq = !hb by have := HBQ.out; rw [k3, hhb] at this; exact this.symm)
          rw [hhb] at hc
          have HC := Aside0.mk hc
          clear hv hout hhb hc
          go_wp2_with (go_at_call 36; refine (slices_Contains_string_string.calls (s.2.length + 1) Av cv s.2 (rd_T31 l1 x).f4 hb _ HV.out.2.2 HV.out.2.1 HC.out).mono ?_; rintro e w' ⟨rfl, ⟨nd, rfl⟩⟩)
          go_meet
          case rel => exact ⟨by rw [HB.out], ⟨HS2.out.below (pw_below_drewN (Below.refl _ _) _)⟩, ⟨HT2.out.trans (TK.below (pw_below_drewN (Below.refl _ _) _))⟩, ⟨blk_below HK6.out (pw_below_drewN (Below.refl _ _) _)⟩⟩
      case rest =>
        obtain ⟨hv30, hS3, hT3, hk6⟩ := hcut
        clear HS2 HT2 HK6 z0 z1 z2 z3 z4 z5 z6 z7 z8
        have hv := hS3.out.hv
        obtain ⟨Av, cv, ev⟩ := Kd.R_slice hv
        subst ev
        have ko := (blk_cell hS3.out.ko 0).trans rfl
        have z4 := (blk_cell hk6.out 4).trans rfl
        have HOL := Aside0.mk (show s.2.length ≤ l1.length by have := hS3.out.inv; dsimp only at this; omega)
        have HO := Aside0.mk (show ownS l1 x.toNat s = (s.1.set x.toNat true, if bq = true then s.2 ++ [(rd_T31 l1 x).f4] else s.2) by unfold ownS; rw [show ((x.toNat : Nat) : Int) = x from Int.toNat_of_nonneg HX.out.1, HBQ.out])
        clear hv
        cases bq with
        | false =>
          subst hv30
          go_upto_region 5 with (fail)
          clear ko z4
          obtain ⟨V5, hW⟩ : ∃ V, V = wc := ⟨_, rfl⟩
          have HS5 := Aside0.mk (show MS w V5 gp gm gb go gf cb A0 c0 l0 (some ad) c1 l1 (.slice Av s.2.length cv) (ownS l1 x.toNat s) by rw [HO.out, hW]; exact hS3.out)
          have HT5 := Aside0.mk (show TK W V5 by rw [hW]; exact hT3.out)
          rw [← hW]
          clear hW hS3 hT3 hk6
          obtain ⟨v5, hv5⟩ : ∃ v, v = Value.slice Av s.2.length cv := ⟨_, rfl⟩
          rw [← hv5] at HS5
          clear hv5
          have kp5 := (blk_cell HS5.out.kp 1).trans rfl
          obtain ⟨ad5, A5, c5, ea5, hx0, hx1, hx2, hx3, hx4, hx5, hx6, hx7, hx8, hl5, hi5⟩ := at_T31 (Kd.C_below HE.out HS5.out.b) x HX.out.1 HX.out.2.2
          cases ea5
          have hx : x.toNat < l1.length := by have := HX.out; omega
          have hmem : (rd_T31 l1 x) ∈ l1 := by
            have : rd_T31 l1 x = l1[x.toNat] := by
              unfold rd_T31
              simp [List.getD_eq_getElem?_getD, List.getElem?_eq_getElem hx]
            rw [this]
            exact List.getElem_mem hx
          have KE := Aside0.mk (ast_Parts.calls 2 (rd_T31 l1 x).f0 (rd_T31 l1 x).f1 (rd_T31 l1 x).f2 (rd_T31 l1 x).f3 (rd_T31 l1 x).f4 (rd_T31 l1 x).f5 (rd_T31 l1 x).f6 A5 c5 (rd_T31 l1 x).f7 (rd_T31 l1 x).f8 (partsF (rd_T31 l1 x)) V5 hi5 hl5 (parts_f 0 (rd_T31 l1 x) (by have := HSZ.out _ hmem; omega)))
          obtain ⟨ps, hps⟩ : ∃ ps, partsF (rd_T31 l1 x) = ps := ⟨_, rfl⟩
          have HM := Aside0.mk (show meetF (n + 1) l1 x.toNat s = ps.foldl (fun t c => meetF n l1 c.toNat t) (ownS l1 x.toNat s) by rw [meetF, if_neg (by rw [HBF.out]; decide), show ((x.toNat : Nat) : Int) = x from Int.toNat_of_nonneg HX.out.1, hps])
          have HPA := Aside0.mk (show ∀ c ∈ ps, 0 ≤ c ∧ c < x by have h := HPAR.out; rw [hps] at h; exact h)
          have HPL := Aside0.mk (show ps.length ≤ 1000000000003 by have h1 := parts_lenN (rd_T31 l1 x); have h2 := HSZ.out _ hmem; rw [hps] at h1; omega)
          rw [hps] at KE
          clear hx hmem hl5 hi5 hps HPAR HSZ HBQ HMK HBF
          go_upto_region 6 with (go_at_call 10; refine KE.out.mono ?_; rintro e we ⟨vp, rfl, hrp, hbe⟩; obtain ⟨Ap, cp, rfl⟩ := Kd.R_slice hrp; have HRP := Aside0.mk hrp; have HBE := Aside0.mk hbe; clear hrp hbe)
          clear hx0 hx1 hx2 hx3 hx4 hx5 hx6 hx7 hx8 kp5 KE
          go_loopw [8, 43] (fun _ v43 wr => ∃ (y : Nat) (vv : Value), v43 = .int .i64 (y : Int) ∧ y ≤ ps.length ∧ Aside0 (MS w wr gp gm gb go gf cb A0 c0 l0 (some ad) c1 l1 vv ((ps.take y).foldl (fun t c => meetF n l1 c.toNat t) (ownS l1 x.toNat s))) ∧ Aside0 (TK W wr) ∧ Aside0 (0 < ps.length → Kd.R (Kd.int .i64) 3 wr V5.heap.size (fun _ => True) (.slice Ap ps.length cp) ps)) (fun _ v43 _ => ps.length - (intOf v43).toNat)
          case atStart => exact ⟨0, v5, rfl, by omega, ⟨HS5.out.below HBE.out⟩, ⟨HT5.out.trans (TK.below HBE.out)⟩, ⟨fun _ => HRP.out⟩⟩
          case round =>
            obtain ⟨y, vv, rfl, hy, HSr, HTr, HRr⟩ := hrel
            by_cases hlt : y < ps.length
            · have ky := (show (0 : Int) ≤ (y : Int) ∧ (y : Int) < (ps.length : Int) by omega)
              have hR := HRr.out (by omega)
              obtain ⟨g9, c9, e9, _⟩ := Kd.R_form hR (by omega)
              cases e9
              obtain ⟨q1, q2⟩ := Kd.R_celln 0 hR (y : Int) ky.1 ky.2
              have hrd : rdOf (0 : Int) ps (y : Int) = ps[y] := by
                unfold rdOf
                simp [List.getD_eq_getElem?_getD, List.getElem?_eq_getElem hlt]
              rw [hrd, Int.toNat_natCast] at q1
              rw [Int.toNat_natCast] at q2
              have hpc := HPA.out ps[y] (List.getElem_mem hlt)
              have HT9 := Aside0.mk (show ps.take (y + 1) = ps.take y ++ [ps[y]] by rw [List.take_succ_eq_append_getElem hlt])
              obtain ⟨cc, hcc⟩ : ∃ c, ps[y] = c := ⟨_, rfl⟩
              rw [hcc] at q1 hpc HT9
              have KI := Aside0.mk (HIH.out cc hpc.1 (by have := HX.out; omega) (by have := HX.out; omega) wr vv _ HSr.out)
              have p0 := eq_true ky.1
              have q0 := eq_true ky.2
              have kf := (blk_cell HSr.out.kf 0).trans rfl
              have HY := Aside0.mk (show y < ps.length from hlt)
              clear hlt hR hrd hpc hcc ky
              go_wp2_with (go_at_call 35; refine KI.out.mono ?_; rintro e w' ⟨rfl, v9, hm9, ht9⟩; have HM9 := Aside0.mk hm9; have HT8 := Aside0.mk ht9; clear hm9 ht9)
              go_roundw
              case rel =>
                have h1 := HY.out
                have h2 := HPL.out
                exact ⟨y + 1, v9, by rw [wrap_i64' (by omega) (by omega), ← Int.natCast_succ], HY.out, ⟨by rw [HT9.out, List.foldl_append, List.foldl_cons, List.foldl_nil]; exact HM9.out⟩, ⟨HTr.out.trans HT8.out⟩, ⟨fun hp => TK.R3 HT8.out hp (HRr.out hp)⟩⟩
              case measure =>
                have h1 := HY.out
                have h2 := HPL.out
                have hw := wrap_i64' (n := (y : Int) + 1) (by omega) (by omega)
                show ps.length - (intOf (.int .i64 (wrap64 ((y : Int) + 1)))).toNat < ps.length - (intOf (.int .i64 (y : Int))).toNat
                rw [hw, show intOf (.int .i64 ((y : Int) + 1)) = (y : Int) + 1 from rfl, show intOf (.int .i64 (y : Int)) = (y : Int) from rfl]
                omega
            · have hyl : y = ps.length := by omega
              subst hyl
              go_wp2
              refine bodyPost_end (results_list (rs := []) (vs := []) rfl (by simp) .nil) rfl ?_
              refine ⟨rfl, vv, ?_, HTr.out⟩
              rw [HM.out]
              have h8 := HSr.out
              rw [List.take_length] at h8
              exact h8
        | true =>
          subst hv30
          go_upto_region 5 with ((with_reducible refine gate_builtin (b := .append) (xs := #[.tmp 31, .tmp 34]) rfl ?_); at_builtin; refine Kd.R_append Kd.string (w0 := w) w.heap.size rfl (.tmp 31) (.tmp 34) 33 9 (.string ⟨#[]⟩) 16 rfl Try.underlying33 info9 rfl (by decide) (by omega) (.slice Av s.2.length cv) s.2 (rd_T31 l1 x).f4 [.string (rd_T31 l1 x).f4] (fun _ => True) (fun _ => False) rfl rfl ?aP (fun _ hk => hk.elim) ?aF ?aO ?aB ?aS ?aL ?_; (case aP => exact rfl); (case aF => exact (fun _ _ => trivial)); (case aO => exact hS3.out.hv); (case aB => exact hS3.out.b); (case aS => exact hS3.out.b.size); (case aL => have h1 := HOL.out; have h2 := HN.out; omega); intro v1 w3 ho hb3 hg hat; obtain ⟨Am, cm, rfl⟩ := Kd.R_slice ho; obtain ⟨hm1, hm2, hm3, hm4⟩ := hS3.out.name ho hb3 hg (by have := HX.out; omega) (by have h6 := HMK.out rfl; dsimp only; rw [List.length_append]; simp only [List.length_cons, List.length_nil]; omega); have hlm : (s.2 ++ [(rd_T31 l1 x).f4]).length = s.2.length + 1 := (by simp); rw [hlm] at hm1 hm2; have HM1 := Aside0.mk hm1; have HM2 := Aside0.mk hm2; clear hm1 hm2 ho hb3 hg hat hlm)
          obtain ⟨V5, hW⟩ : ∃ V, V = w3.setCell ⟨go, 0, none⟩ (.slice Am (s.2.length + 1) cm) := ⟨_, rfl⟩
          have HS5 := Aside0.mk (show MS w V5 gp gm gb go gf cb A0 c0 l0 (some ad) c1 l1 (.slice Am (s.2.length + 1) cm) (ownS l1 x.toNat s) by rw [HO.out, hW]; exact HM1.out)
          have HT5 := Aside0.mk (show TK W V5 by rw [hW]; exact hT3.out.trans HM2.out)
          rw [← hW]
          clear hW hS3 hT3 hk6 HM1 HM2 ko z4 hm3 hm4
          obtain ⟨v5, hv5⟩ : ∃ v, v = Value.slice Am (s.2.length + 1) cm := ⟨_, rfl⟩
          rw [← hv5] at HS5
          have kp5 := (blk_cell HS5.out.kp 1).trans rfl
          obtain ⟨ad5, A5, c5, ea5, hx0, hx1, hx2, hx3, hx4, hx5, hx6, hx7, hx8, hl5, hi5⟩ := at_T31 (Kd.C_below HE.out HS5.out.b) x HX.out.1 HX.out.2.2
          cases ea5
          have hx : x.toNat < l1.length := by have := HX.out; omega
          have hmem : (rd_T31 l1 x) ∈ l1 := by
            have : rd_T31 l1 x = l1[x.toNat] := by
              unfold rd_T31
              simp [List.getD_eq_getElem?_getD, List.getElem?_eq_getElem hx]
            rw [this]
            exact List.getElem_mem hx
          have KE := Aside0.mk (ast_Parts.calls 2 (rd_T31 l1 x).f0 (rd_T31 l1 x).f1 (rd_T31 l1 x).f2 (rd_T31 l1 x).f3 (rd_T31 l1 x).f4 (rd_T31 l1 x).f5 (rd_T31 l1 x).f6 A5 c5 (rd_T31 l1 x).f7 (rd_T31 l1 x).f8 (partsF (rd_T31 l1 x)) V5 hi5 hl5 (parts_f 0 (rd_T31 l1 x) (by have := HSZ.out _ hmem; omega)))
          obtain ⟨ps, hps⟩ : ∃ ps, partsF (rd_T31 l1 x) = ps := ⟨_, rfl⟩
          have HM := Aside0.mk (show meetF (n + 1) l1 x.toNat s = ps.foldl (fun t c => meetF n l1 c.toNat t) (ownS l1 x.toNat s) by rw [meetF, if_neg (by rw [HBF.out]; decide), show ((x.toNat : Nat) : Int) = x from Int.toNat_of_nonneg HX.out.1, hps])
          have HPA := Aside0.mk (show ∀ c ∈ ps, 0 ≤ c ∧ c < x by have h := HPAR.out; rw [hps] at h; exact h)
          have HPL := Aside0.mk (show ps.length ≤ 1000000000003 by have h1 := parts_lenN (rd_T31 l1 x); have h2 := HSZ.out _ hmem; rw [hps] at h1; omega)
          rw [hps] at KE
          clear hx hmem hl5 hi5 hps HPAR HSZ HBQ HMK HBF
          go_upto_region 6 with (go_at_call 10; refine KE.out.mono ?_; rintro e we ⟨vp, rfl, hrp, hbe⟩; obtain ⟨Ap, cp, rfl⟩ := Kd.R_slice hrp; have HRP := Aside0.mk hrp; have HBE := Aside0.mk hbe; clear hrp hbe)
          clear hx0 hx1 hx2 hx3 hx4 hx5 hx6 hx7 hx8 kp5 KE
          go_loopw [8, 43] (fun _ v43 wr => ∃ (y : Nat) (vv : Value), v43 = .int .i64 (y : Int) ∧ y ≤ ps.length ∧ Aside0 (MS w wr gp gm gb go gf cb A0 c0 l0 (some ad) c1 l1 vv ((ps.take y).foldl (fun t c => meetF n l1 c.toNat t) (ownS l1 x.toNat s))) ∧ Aside0 (TK W wr) ∧ Aside0 (0 < ps.length → Kd.R (Kd.int .i64) 3 wr V5.heap.size (fun _ => True) (.slice Ap ps.length cp) ps)) (fun _ v43 _ => ps.length - (intOf v43).toNat)
          case atStart => exact ⟨0, v5, rfl, by omega, ⟨HS5.out.below HBE.out⟩, ⟨HT5.out.trans (TK.below HBE.out)⟩, ⟨fun _ => HRP.out⟩⟩
          case round =>
            obtain ⟨y, vv, rfl, hy, HSr, HTr, HRr⟩ := hrel
            by_cases hlt : y < ps.length
            · have ky := (show (0 : Int) ≤ (y : Int) ∧ (y : Int) < (ps.length : Int) by omega)
              have hR := HRr.out (by omega)
              obtain ⟨g9, c9, e9, _⟩ := Kd.R_form hR (by omega)
              cases e9
              obtain ⟨q1, q2⟩ := Kd.R_celln 0 hR (y : Int) ky.1 ky.2
              have hrd : rdOf (0 : Int) ps (y : Int) = ps[y] := by
                unfold rdOf
                simp [List.getD_eq_getElem?_getD, List.getElem?_eq_getElem hlt]
              rw [hrd, Int.toNat_natCast] at q1
              rw [Int.toNat_natCast] at q2
              have hpc := HPA.out ps[y] (List.getElem_mem hlt)
              have HT9 := Aside0.mk (show ps.take (y + 1) = ps.take y ++ [ps[y]] by rw [List.take_succ_eq_append_getElem hlt])
              obtain ⟨cc, hcc⟩ : ∃ c, ps[y] = c := ⟨_, rfl⟩
              rw [hcc] at q1 hpc HT9
              have KI := Aside0.mk (HIH.out cc hpc.1 (by have := HX.out; omega) (by have := HX.out; omega) wr vv _ HSr.out)
              have p0 := eq_true ky.1
              have q0 := eq_true ky.2
              have kf := (blk_cell HSr.out.kf 0).trans rfl
              have HY := Aside0.mk (show y < ps.length from hlt)
              clear hlt hR hrd hpc hcc ky
              go_wp2_with (go_at_call 35; refine KI.out.mono ?_; rintro e w' ⟨rfl, v9, hm9, ht9⟩; have HM9 := Aside0.mk hm9; have HT8 := Aside0.mk ht9; clear hm9 ht9)
              go_roundw
              case rel =>
                have h1 := HY.out
                have h2 := HPL.out
                exact ⟨y + 1, v9, by rw [wrap_i64' (by omega) (by omega), ← Int.natCast_succ], HY.out, ⟨by rw [HT9.out, List.foldl_append, List.foldl_cons, List.foldl_nil]; exact HM9.out⟩, ⟨HTr.out.trans HT8.out⟩, ⟨fun hp => TK.R3 HT8.out hp (HRr.out hp)⟩⟩
              case measure =>
                have h1 := HY.out
                have h2 := HPL.out
                have hw := wrap_i64' (n := (y : Int) + 1) (by omega) (by omega)
                show ps.length - (intOf (.int .i64 (wrap64 ((y : Int) + 1)))).toNat < ps.length - (intOf (.int .i64 (y : Int))).toNat
                rw [hw, show intOf (.int .i64 ((y : Int) + 1)) = (y : Int) + 1 from rfl, show intOf (.int .i64 (y : Int)) = (y : Int) from rfl]
                omega
            · have hyl : y = ps.length := by omega
              subst hyl
              go_wp2
              refine bodyPost_end (results_list (rs := []) (vs := []) rfl (by simp) .nil) rfl ?_
              refine ⟨rfl, vv, ?_, HTr.out⟩
              rw [HM.out]
              have h8 := HSr.out
              rw [List.take_length] at h8
              exact h8
end Go.Proofs.Ytediidkiedifcaa.Q
