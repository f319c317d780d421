/- heun.Euler and heun.Step: the walks. -/
import Derived.Test.YtgalkkolbobmbaaGreatVPiece
import Derived.Test.YtgalkkolbobmbaaGreatVEach
import Derived.Test.YtgalkkolbobmbaaGreatVClone
import Derived.Test.YtgalkkolbobmbaaGreatVMDiv2

namespace Go.Proofs.YtgalkkolbobmbaaGreat.V
open Go.RowKit Go.Proofs.YtgalkkolbobmbaaGreatW.PrintWords Go.Proofs.YtgalkkolbobmbaaGreatW.PrintLast Go.Proofs.YtgalkkolbobmbaaGreatW.PrintMore
set_option linter.unusedVariables false
set_option linter.unusedSimpArgs false
theorem Mach.side {n Bm : Nat} {cs : Array Value} {v0 v1 v2 v3 v6 v7 v8 v9 : Value} {l0 l1 l2 l3 : List Int} {a4 a5 : Int} {l6 l7 l8 l9 : List S49} {dn : Int} {w w' : World} {S : Nat} {fl : Int} (h : Mach n Bm cs v0 v1 v2 v3 v6 v7 v8 v9 l0 l1 l2 l3 a4 a5 l6 l7 l8 l9 dn w) (hS : FlagAt S fl w) (hc : Chg (fun k => k = S) w w') : Mach n Bm cs v0 v1 v2 v3 v6 v7 v8 v9 l0 l1 l2 l3 a4 a5 l6 l7 l8 l9 dn w' := by
 have st : ∀ {α : Type} {d : Kd α} {e : Nat} {v : Value} {xs : List α}, d.R e w n (fun k => k ≠ Bm) v xs → (∀ q, q ∈ e :: d.E → q ≠ 124) → d.R e w' n (fun k => k ≠ Bm) v xs := fun hR ht =>
  Kd.R_mono (Kd.R_step (Kd.R_types hR hS ht) (fun k hk hl => hc.block k hl hk.2)) (fun _ hk => hk.1)
 exact ⟨h.lo, (hc.block _ (lt_of_block h.blk) (ne_type hS h.blk (by decide))).trans h.blk, h.sz, h.rg, h.o0, h.o1, h.o2, h.o3, h.o4, h.o5, h.o6, h.o7, h.o8, h.o9,
  st h.r0 (by decide), st h.r1 (by decide), st h.r2 (by decide), st h.r3 (by decide), st h.r6 (by decide), st h.r7 (by decide), st h.r8 (by decide), st h.r9 (by decide),
  fun op ho => by
   obtain ⟨b, h1, h2, h3, h4⟩ := h.ops op ho
   refine ⟨b, h1, h2, h3, (hc.block b (lt_of_block h4) (ne_type hS h4 ?_)).trans h4⟩
   unfold opType
   split
   · decide
   · split <;> decide, h.pick⟩
/-- A list of elder blocks than n. -/
structure Old (n : Nat) (w : World) (A : Option Addr) (l : List Int) : Prop where
 c : Kd.C (Kd.int .i64) w A l.length l
 lt : ∀ ad, A = some ad → 0 < l.length → ad.block < n
theorem Old.LI {n b : Nat} {w : World} {A : Option Addr} {l : List Int} (h : Old n w A l) (hb : n ≤ b) : LI b w A l := ⟨h.c, fun ad ha hp => by have := h.lt ad ha hp; omega⟩
theorem Old.below {n : Nat} {w w' : World} {A : Option Addr} {l : List Int} (h : Old n w A l) (hb : Below n w w') : Old n w' A l :=
 ⟨C_keep (S := fun k => n ≤ k) h.c (fun ad ha hp => by have := h.lt ad ha hp; omega) ⟨hb.os, hb.tape, hb.output, hb.size, fun k _ hn => hb.block k (by omega)⟩ (fun _ _ hk => hk), h.lt⟩
/-- A list of later blocks than b. -/
structure Nw (b : Nat) (w : World) (A : Option Addr) (l : List Int) : Prop where
 c : Kd.C (Kd.int .i64) w A l.length l
 ge : ∀ ad, A = some ad → 0 < l.length → b ≤ ad.block
theorem Nw.chg {b : Nat} {w w' : World} {A : Option Addr} {l : List Int} {T : Nat → Prop} (h : Nw b w A l) (hc : Chg T w w') (hT : ∀ k, T k → k < b) : Nw b w' A l :=
 ⟨C_keep h.c (fun ad ha hp ht => by have := h.ge ad ha hp; have := hT _ ht; omega) hc (fun _ _ hk => hk), h.ge⟩
theorem Nw.LI {b c : Nat} {w : World} {A : Option Addr} {l : List Int} (h : Nw b w A l) (hc : c < b) : LI c w A l := ⟨h.c, fun ad ha hp => by have := h.ge ad ha hp; omega⟩
theorem Nw.of_R {e base : Nat} {w : World} {ok : Nat → Prop} {v : Value} {l : List Int} (h : (Kd.int .i64).R e w base ok v l) : ∃ A c, v = .slice A l.length c ∧ Nw base w A l := by
 obtain ⟨A, c, hv, -, hC, hn⟩ := R_list (Kd.R_mono (Kd.R_bound h) (ok' := fun k => base ≤ k) (fun _ hk => hk.2.1))
 exact ⟨A, c, hv, hC, hn⟩
set_option maxHeartbeats 4000000 in
set_option maxRecDepth 100000 in
theorem step_any {n Bm : Nat} {cs : Array Value} {v0 v1 v2 v3 v6 v7 v8 v9 : Value} {l0 l1 l2 l3 : List Int} {a4 a5 : Int} {l6 l7 l8 l9 : List S49} {dn : Int} {w : World} (h : Mach n Bm cs v0 v1 v2 v3 v6 v7 v8 v9 l0 l1 l2 l3 a4 a5 l6 l7 l8 l9 dn w) (O : Int → Int → Int → Int → Option (Int × Int)) (hO : OpsFor cs O) (k nr : Nat) (Ai As Am : Option Addr) (ci cs' cm : Nat) (inn st mem : List Int) (hh : Int)
 (hi : Old n w Ai inn) (hs : Old n w As st) (hm : Old n w Am mem) (hf : inn.length = l0.length ∧ st.length = l2.length ∧ mem.length = l3.length) (hmx : (if regsTo (four l6 l7 l8 l9) 4 < 1 then 1 else regsTo (four l6 l7 l8 l9) 4) = (nr : Int)) (hn0 : 0 < nr) (hn1 : nr ≤ 4000) (hL : st.length ≤ 100000)
 (s1 : RS) (dn1 : Int) (hr1 : runV O inn st mem [] l6 k 0 dn ⟨List.replicate nr 0, 0, List.replicate (l2.length) 0, [], []⟩ = some (s1, dn1)) (hp1 : s1.put.length = st.length)
 (V1 F1 : Nat → Int) (hF1 : F1 0 = Go.bits .or .i64 0 s1.fl) (hV1 : ∀ n, n < st.length → ∃ KM m f1 f2, fixq_Mul.f KM hh (rd s1.put (n : Int)) = some (m, f1) ∧ fixq_Add.f (rd st (n : Int)) m = some (V1 n, f2) ∧ F1 (n + 1) = Go.bits .or .i64 (Go.bits .or .i64 (F1 n) f1) f2)
 (s2 : RS) (dn2 : Int) (hr2 : runV O inn (tabV V1 st.length) mem [] l6 k 0 dn1 ⟨List.replicate nr 0, 0, List.replicate (l2.length) 0, [], []⟩ = some (s2, dn2)) (hp2 : s2.put.length = st.length)
 (Vm Fm : Nat → Int) (hFm : Fm 0 = Go.bits .or .i64 (F1 st.length) s2.fl) (hVm : ∀ n, n < st.length → ∃ a f, fixq_Add.f (rd s1.put (n : Int)) (rd s2.put (n : Int)) = some (a, f) ∧ -9223372036854775808 ≤ a ∧ a ≤ 9223372036854775807 ∧ Vm n = Int.tdiv a 2 ∧ Fm (n + 1) = Go.bits .or .i64 (Fm n) f)
 (V2 F2 : Nat → Int) (hF2 : F2 0 = Fm st.length) (hV2 : ∀ n, n < st.length → ∃ KM m f1 f2, fixq_Mul.f KM hh (rd (tabV Vm st.length) (n : Int)) = some (m, f1) ∧ fixq_Add.f (rd st (n : Int)) m = some (V2 n, f2) ∧ F2 (n + 1) = Go.bits .or .i64 (Go.bits .or .i64 (F2 n) f1) f2) :
 Calls Tryz.prog 34 #[.pointer (some ⟨Bm, 0, none⟩), .slice Ai inn.length ci, .slice As st.length cs', .slice Am mem.length cm, .int .i64 hh] w fun e w' => ∃ v, e = .returned (.tuple #[v, .int .i64 (F2 st.length), .int .i64 0]) ∧ Kd.R (Kd.int .i64) 2 w' w.heap.size (fun _ => True) v (tabV V2 st.length) ∧ Mach n Bm cs v0 v1 v2 v3 v6 v7 v8 v9 l0 l1 l2 l3 a4 a5 l6 l7 l8 l9 dn2 w' ∧ Chg (fun k => k = Bm) w w' := by
 have HO := Aside0.mk hO
 have HI := Aside0.mk hi
 have HS := Aside0.mk hs
 have HM := Aside0.mk hm
 have HF := Aside0.mk hf
 have HR1 := Aside0.mk hr1
 have HP1 := Aside0.mk hp1
 have HV1 := Aside0.mk hV1
 have HF1 := Aside0.mk hF1
 have HMX := Aside0.mk hmx
 have hlt : Bm < w.heap.size := lt_of_block h.blk
 have hlo := h.lo
 have H := Aside0.mk h
 clear h hO hi hs hm hf hr1 hp1 hV1 hF1 hmx
 have HR2 := Aside0.mk hr2
 have HP2 := Aside0.mk hp2
 have HFm := Aside0.mk hFm
 have HVm := Aside0.mk hVm
 have HF2 := Aside0.mk hF2
 have HV2 := Aside0.mk hV2
 clear hr2 hp2 hFm hVm hF2 hV2
 go_enter Tryz.func34, Tryz.ntmps34
 go_wp2_with (fail)
 obtain ⟨w1, hw1⟩ : ∃ z, (w.alloc (Obj.cells #[.int .i64 0] 124)) = z := ⟨_, rfl⟩
 have hb1 : Below w.heap.size w w1 := by rw [← hw1]; exact below_alloc (Below.refl _ _) _
 have G1 := Aside0.mk (show FlagAt w.heap.size 0 w1 by rw [← hw1]; exact blk_new w _)
 have hz1 : w1.heap.size = w.heap.size + 1 := by rw [← hw1]; simp
 rw [hw1]
 clear hw1
 have hbn1 : Below n w w1 := hb1.mono (by omega)
 refine (deriv_any (H.out.below hb1) O HO.out k nr Ai As Am ci cs' cm inn st mem ((HI.out.below hbn1).LI hlo) ((HS.out.below hbn1).LI hlo) ((HM.out.below hbn1).LI hlo) HF.out HMX.out hn0 hn1 (by have := HF.out; omega) s1 dn1 HR1.out).mono ?_
 rintro e w2 ⟨vA, rfl, hRA, hMA, hCA⟩
 obtain ⟨A1, c1, rfl, hN1⟩ := Nw.of_R hRA
 have M2 := Aside0.mk hMA
 have N2 := Aside0.mk hN1
 have G2 := Aside0.mk (show FlagAt w.heap.size 0 w2 from (hCA.block _ (lt_of_block G1.out) (by omega)).trans G1.out)
 have B2 := Aside0.mk (show Below n w w2 from hCA.to_below (by omega) (fun k hk => by omega) hbn1)
 have C2 := Aside0.mk (show Chg (fun k => k = Bm) w w2 from (Chg.of_below hb1 _).then_ hCA (fun _ hk => .inl hk))
 have hz2 : w1.heap.size ≤ w2.heap.size := hCA.size
 clear hRA hMA hCA hN1 hb1 hbn1
 go_wp2_with (fail)
 obtain ⟨b1, hb1⟩ : ∃ b, w2.heap.size = b := ⟨_, rfl⟩
 obtain ⟨w3, hw3⟩ : ∃ z, (w2.alloc (Obj.cells #[.slice A1 s1.put.length c1] 23)) = z := ⟨_, rfl⟩
 have hbb : Below w2.heap.size w2 w3 := by rw [← hw3]; exact below_alloc (Below.refl _ _) _
 have X1 := Aside0.mk (show w3.heap[b1]? = some (.cells #[.slice A1 s1.put.length c1] 23 (0, 0)) by rw [← hw3, ← hb1]; exact blk_new w2 _)
 have M3 := Aside0.mk (M2.out.below hbb)
 have G3 := Aside0.mk (show FlagAt w.heap.size 0 w3 from (hbb.block _ (lt_of_block G2.out)).trans G2.out)
 have N3 := Aside0.mk (N2.out.chg (Chg.of_below hbb (fun _ => False)) (fun _ hk => hk.elim))
 have B3 := Aside0.mk (B2.out.trans (hbb.mono (by omega)))
 have C3 := Aside0.mk (C2.out.below hbb)
 have hz3 : w2.heap.size ≤ w3.heap.size := hbb.size
 rw [hw3, hb1]
 clear hw3 hbb
 refine (of_any w.heap.size 0 0 s1.fl _ G3.out).mono ?_
 rintro e w4 ⟨rfl, hf, hc⟩
 have M4 := Aside0.mk (M3.out.side G3.out hc)
 have X1 := Aside0.mk (show w4.heap[b1]? = _ from (hc.block _ (lt_of_block X1.out) (ne_type G3.out X1.out (by decide))).trans X1.out)
 have G4 := Aside0.mk (show FlagAt w.heap.size (F1 0) w4 by rw [HF1.out]; exact hf)
 have N4 := Aside0.mk (N3.out.chg hc (fun k hk => by omega))
 have B4 := Aside0.mk (show Below n w w4 from hc.to_below (by omega) (fun k hk => by omega) B3.out)
 have C4 := Aside0.mk (show Chg (fun k => k = Bm) w w4 from C3.out.then_ hc (fun k hk => .inr (by omega)))
 have hz4 : w3.heap.size ≤ w4.heap.size := hc.size
 have cb1 := cell_of_one X1.out
 clear hf hc
 go_wp2_with (fail)
 refine (along_any w.heap.size (F1 0) As A1 cs' c1 st s1.put hh V1 F1 w4 G4.out ((HS.out.below B4.out).LI (by omega)) (N4.out.LI (by omega)) (by have := HP1.out; omega) hL rfl HV1.out).mono ?_
 rintro e w5 ⟨vx, rfl, hRx, hf, hc⟩
 obtain ⟨Ax, cx, rfl, hNx⟩ := Nw.of_R hRx
 have M5 := Aside0.mk (M4.out.side G4.out hc)
 have X1 := Aside0.mk (show w5.heap[b1]? = _ from (hc.block _ (lt_of_block X1.out) (ne_type G4.out X1.out (by decide))).trans X1.out)
 have G5 := Aside0.mk hf
 have N5 := Aside0.mk (N4.out.chg hc (fun k hk => by omega))
 have Nx := Aside0.mk hNx
 have B5 := Aside0.mk (show Below n w w5 from hc.to_below (by omega) (fun k hk => by omega) B4.out)
 have C5 := Aside0.mk (show Chg (fun k => k = Bm) w w5 from C4.out.then_ hc (fun k hk => .inr (by omega)))
 have hz5 : w4.heap.size ≤ w5.heap.size := hc.size
 clear hRx hNx hf hc cb1
 go_wp2_with (fail)
 refine (deriv_any M5.out O HO.out k nr Ai Ax Am ci cx cm inn (tabV V1 st.length) mem ((HI.out.below B5.out).LI hlo) (Nx.out.LI (by omega)) ((HM.out.below B5.out).LI hlo) (by have := HF.out; have := tabV_length V1 st.length; omega) HMX.out hn0 hn1 (by have := HF.out; omega) s2 dn2 HR2.out).mono ?_
 rintro e w6 ⟨vB, rfl, hRB, hMB, hc⟩
 obtain ⟨A2, c2, rfl, hN2⟩ := Nw.of_R hRB
 have M6 := Aside0.mk hMB
 have X1 := Aside0.mk (show w6.heap[b1]? = _ from (hc.block _ (lt_of_block X1.out) (by omega)).trans X1.out)
 have G6 := Aside0.mk (show FlagAt w.heap.size (F1 st.length) w6 from (hc.block _ (lt_of_block G5.out) (by omega)).trans G5.out)
 have N6 := Aside0.mk (N5.out.chg hc (fun k hk => by omega))
 have P6 := Aside0.mk hN2
 have B6 := Aside0.mk (show Below n w w6 from hc.to_below (by omega) (fun k hk => by omega) B5.out)
 have C6 := Aside0.mk (show Chg (fun k => k = Bm) w w6 from C5.out.then_ hc (fun _ hk => .inl hk))
 have hz6 : w5.heap.size ≤ w6.heap.size := hc.size
 clear hRB hMB hN2 hc
 go_wp2_with (fail)
 obtain ⟨b2, hb2⟩ : ∃ b, w6.heap.size = b := ⟨_, rfl⟩
 obtain ⟨w7, hw7⟩ : ∃ z, (w6.alloc (Obj.cells #[.slice A2 s2.put.length c2] 23)) = z := ⟨_, rfl⟩
 have hbb : Below w6.heap.size w6 w7 := by rw [← hw7]; exact below_alloc (Below.refl _ _) _
 have X2 := Aside0.mk (show w7.heap[b2]? = some (.cells #[.slice A2 s2.put.length c2] 23 (0, 0)) by rw [← hw7, ← hb2]; exact blk_new w6 _)
 have M7 := Aside0.mk (M6.out.below hbb)
 have X1 := Aside0.mk (show w7.heap[b1]? = _ from (hbb.block _ (lt_of_block X1.out)).trans X1.out)
 have G7 := Aside0.mk (show FlagAt w.heap.size (F1 st.length) w7 from (hbb.block _ (lt_of_block G6.out)).trans G6.out)
 have N7 := Aside0.mk (N6.out.chg (Chg.of_below hbb (fun _ => False)) (fun _ hk => hk.elim))
 have P7 := Aside0.mk (P6.out.chg (Chg.of_below hbb (fun _ => False)) (fun _ hk => hk.elim))
 have B7 := Aside0.mk (B6.out.trans (hbb.mono (by omega)))
 have C7 := Aside0.mk (C6.out.below hbb)
 have hz7 : w6.heap.size ≤ w7.heap.size := hbb.size
 rw [hw7, hb2]
 clear hw7 hbb
 refine (of_any w.heap.size (F1 st.length) 0 s2.fl _ G7.out).mono ?_
 rintro e w8 ⟨rfl, hf, hc⟩
 have M8 := Aside0.mk (M7.out.side G7.out hc)
 have X1 := Aside0.mk (show w8.heap[b1]? = _ from (hc.block _ (lt_of_block X1.out) (ne_type G7.out X1.out (by decide))).trans X1.out)
 have X2 := Aside0.mk (show w8.heap[b2]? = _ from (hc.block _ (lt_of_block X2.out) (ne_type G7.out X2.out (by decide))).trans X2.out)
 have G8 := Aside0.mk (show FlagAt w.heap.size (Fm 0) w8 by rw [HFm.out]; exact hf)
 have N8 := Aside0.mk (N7.out.chg hc (fun k hk => by omega))
 have P8 := Aside0.mk (P7.out.chg hc (fun k hk => by omega))
 have B8 := Aside0.mk (show Below n w w8 from hc.to_below (by omega) (fun k hk => by omega) B7.out)
 have C8 := Aside0.mk (show Chg (fun k => k = Bm) w w8 from C7.out.then_ hc (fun k hk => .inr (by omega)))
 have hz8 : w7.heap.size ≤ w8.heap.size := hc.size
 clear hf hc
 go_wp2_with (fail)
 have HMW : MnW w.heap.size b1 b2 A1 A2 c1 c2 s1.put s2.put (Fm 0) w8 := ⟨G8.out, X1.out, X2.out, N8.out.LI (by omega), P8.out.LI (by omega)⟩
 refine (each76 _ _ _ st.length w8 w.heap.size Vm Fm hL G8.out (fun i W hn hc hf => ?_)).mono ?_
 · obtain ⟨a, f, e1, e2, e3, e4, e5⟩ := HVm.out i hn
   rw [e4]
   refine (mean1 w.heap.size b1 b2 A1 A2 c1 c2 s1.put s2.put (Fm i) i a f W (HMW.chg hc hf) (by have := HP1.out; omega) (by have := HP2.out; omega) e1 e2 e3).mono ?_
   rintro e W' ⟨rfl, hw, hc'⟩
   exact ⟨rfl, by rw [e5]; exact hw.fs, hc'⟩
 rintro e w9 ⟨vm, rfl, hRm, hf, hc⟩
 obtain ⟨A3, c3, rfl, hN3⟩ := Nw.of_R hRm
 have M9 := Aside0.mk (M8.out.side G8.out hc)
 have G9 := Aside0.mk (show FlagAt w.heap.size (F2 0) w9 by rw [HF2.out]; exact hf)
 have Q9 := Aside0.mk hN3
 have B9 := Aside0.mk (show Below n w w9 from hc.to_below (by omega) (fun k hk => by omega) B8.out)
 have C9 := Aside0.mk (show Chg (fun k => k = Bm) w w9 from C8.out.then_ hc (fun k hk => .inr (by omega)))
 have hz9 : w8.heap.size ≤ w9.heap.size := hc.size
 clear hRm hN3 hf hc HMW
 go_wp2_with (fail)
 refine (along_any w.heap.size (F2 0) As A3 cs' c3 st (tabV Vm st.length) hh V2 F2 w9 G9.out ((HS.out.below B9.out).LI (by omega)) (Q9.out.LI (by omega)) (by have := tabV_length Vm st.length; omega) hL rfl HV2.out).mono ?_
 rintro e w10 ⟨v, rfl, hR4, hf4, hc4⟩
 have M10 := Aside0.mk (M9.out.side G9.out hc4)
 have R10 := Aside0.mk (Kd.R_lower hR4 (show w.heap.size ≤ w9.heap.size by omega))
 have cS := cell_of_one hf4
 have C10 := Aside0.mk (show Chg (fun k => k = Bm) w w10 from C9.out.then_ hc4 (fun k hk => .inr (by omega)))
 clear hR4 hf4 hc4
 go_wp2
 go_quiet (fail)
 go_wp2
 go_ret3
 exact ⟨v, rfl, Kd.R_drewN R10.out _, M10.out.below (pw_below_drewN (Below.refl _ _) _), C10.out.drewN _⟩
end Go.Proofs.YtgalkkolbobmbaaGreat.V

/- A right object's machine: what its pieces make, as_ plain functions, and the calls that make it. -/
namespace Go.Proofs.YtgalkkolbobmbaaGreat.V
open Go.RowKit Go.Proofs.YtgalkkolbobmbaaGreatW.PrintWords Go.Proofs.YtgalkkolbobmbaaGreatW.PrintLast Go.Proofs.YtgalkkolbobmbaaGreatW.PrintMore
set_option linter.unusedVariables false
set_option linter.unusedSimpArgs false
/-- An object that is right, of numbers in the range of int64. -/
structure Good (o : S26) : Prop where
 right : rightO o.f0 o.f1 o.f2 o.f3 o.f4 o.f5 o.f6 o.f7 o.f8 o.f9 = true
 vals : ∀ j, j < 4 → ∀ x ∈ four o.f6 o.f7 o.f8 o.f9 j, In64 x.f5
theorem good_of {o : S26} (h : G26 o) (hr : rightO o.f0 o.f1 o.f2 o.f3 o.f4 o.f5 o.f6 o.f7 o.f8 o.f9 = true) : Good o := by
 obtain ⟨-, -, -, -, -, -, h6, h7, h8, h9⟩ := h
 refine ⟨hr, fun j hj x hx => ?_⟩
 have hG : G49 x := by
  rcases (by omega : j = 0 ∨ j = 1 ∨ j = 2 ∨ j = 3) with rfl | rfl | rfl | rfl
  · exact h6.2.2 x hx
  · exact h7.2.2 x hx
  · exact h8.2.2 x hx
  · exact h9.2.2 x hx
 exact in64_of hG.2.2.2.2.2
def nrO (o : S26) : Nat := (if regsTo (four o.f6 o.f7 o.f8 o.f9) 4 < 1 then 1 else regsTo (four o.f6 o.f7 o.f8 o.f9) 4).toNat
def rs0 (o : S26) (put ns nm : List Int) : RS := ⟨List.replicate (nrO o) 0, 0, put, ns, nm⟩
/-- What a piece of an object leaves, and how many instructions are done. -/
def pieceR (o : S26) (j : Nat) (inn st mem : List Int) (raised : List Bool) (put ns nm : List Int) : RS := ((runV opV inn st mem raised (four o.f6 o.f7 o.f8 o.f9 j) 4001 0 0 (rs0 o put ns nm)).map Prod.fst).getD ⟨[], 0, [], [], []⟩
def pieceN (o : S26) (j : Nat) (inn st mem : List Int) (raised : List Bool) (put ns nm : List Int) : Int := ((runV opV inn st mem raised (four o.f6 o.f7 o.f8 o.f9 j) 4001 0 0 (rs0 o put ns nm)).map Prod.snd).getD 0
theorem piece_run {o : S26} (G : Good o) (j : Nat) (hj : j < 4) {inn st mem : List Int} {raised : List Bool} (hf : inn.length = o.f0.length ∧ st.length = o.f2.length ∧ mem.length = o.f3.length) (hr : j = 2 → (raised.length : Int) = o.f4)
 (ai : AllIn inn) (ais : AllIn st) (am : AllIn mem) {put ns nm : List Int} (ap : AllIn put) (an : AllIn ns) (anm : AllIn nm)
 (hput : j ≠ 2 → (put.length : Int) = if j = 0 then (o.f2.length : Int) else if j = 1 then o.f4 else o.f1.length) (hns : j = 2 → ns.length = o.f2.length) (hnm : j = 2 → nm.length = o.f3.length) :
 RSOk (nrO o) put.length ns.length nm.length (pieceR o j inn st mem raised put ns nm) ∧ 0 ≤ pieceN o j inn st mem raised put ns nm ∧ pieceN o j inn st mem raised put ns nm ≤ (four o.f6 o.f7 o.f8 o.f9 j).length ∧
  (j ≠ 2 → pieceN o j inn st mem raised put ns nm = (four o.f6 o.f7 o.f8 o.f9 j).length) ∧
  ∀ dn : Int, 0 ≤ dn → dn ≤ 100000000000 → runV opV inn st mem raised (four o.f6 o.f7 o.f8 o.f9 j) 4001 0 dn (rs0 o put ns nm) = some (pieceR o j inn st mem raised put ns nm, dn + pieceN o j inn st mem raised put ns nm) := by
 obtain ⟨nr, e, h0, h1, hreg⟩ := regs_ready G.right
 have hb := right_bounds G.right
 have hL : (four o.f6 o.f7 o.f8 o.f9 j).length ≤ 4000 := by
  rcases (by omega : j = 0 ∨ j = 1 ∨ j = 2 ∨ j = 3) with rfl | rfl | rfl | rfl <;> simp only [four] <;> omega
 have hnr : nrO o = nr := by unfold nrO; omega
 obtain ⟨s', c, hs, hc1, hc2, hrun⟩ := run_some (O := opV) (fun op a b c h6 h18 ha hb hc => opV_ok h6 h18 ha hb hc) (p := (j : Int)) (by omega) hb.2.2.2.2.1 hL (fun m hm => right_at G.right j hj m hm)
  (fun m hm => by rw [rdT_mem hm]; exact G.vals j hj _ (List.getElem_mem hm)) hf.1 hf.2.1 hf.2.2 (raised := raised) (fun hp => hr (by omega)) ai ais am (nr := nr) (np := put.length) (ns := ns.length) (nm := nm.length) (fun m hm => hreg j hj m hm)
  (fun hp => by
   have := hput (by omega)
   rw [this]
   obtain rfl | rfl | rfl : j = 0 ∨ j = 1 ∨ j = 3 := by omega
   · simp
   · simp
   · simp) (fun hp => hns (by omega)) (fun hp => hnm (by omega)) (four o.f6 o.f7 o.f8 o.f9 j).length 0 (by omega) (by omega) (rs0 o put ns nm)
  ⟨by simp [rs0, hnr], AllIn.zeros _, rfl, ap, rfl, an, rfl, anm⟩
 have h00 := hrun 0 (by omega) (by omega) 4001 (by omega)
 have e1 : pieceR o j inn st mem raised put ns nm = s' := by
  unfold pieceR
  rw [show ((0 : Nat) : Int) = 0 from rfl] at h00
  rw [h00]
  rfl
 have e2 : pieceN o j inn st mem raised put ns nm = c := by
  unfold pieceN
  rw [show ((0 : Nat) : Int) = 0 from rfl] at h00
  rw [h00]
  simp
 rw [e1, e2, hnr]
 exact ⟨hs, by omega, by omega, fun hn => by have := hc2 (by omega); omega, fun dn hd0 hd1 => hrun dn hd0 (by omega) 4001 (by omega)⟩
/-- An object's machine. -/
def MachO (n Bm : Nat) (o : S26) (dn : Int) (w : World) : Prop := MachE n Bm o.f0 o.f1 o.f2 o.f3 o.f4 o.f5 o.f6 o.f7 o.f8 o.f9 dn w
theorem MachO.below {n Bm : Nat} {o : S26} {dn : Int} {w w' : World} (h : MachO n Bm o dn w) (hb : Below w.heap.size w w') : MachO n Bm o dn w' := by
 obtain ⟨cs, v0, v1, v2, v3, v6, v7, v8, v9, hM⟩ := h
 exact ⟨cs, v0, v1, v2, v3, v6, v7, v8, v9, hM.below hb⟩
theorem MachO.blk {n Bm : Nat} {o : S26} {dn : Int} {w : World} (h : MachO n Bm o dn w) : n ≤ Bm ∧ Bm < w.heap.size := by
 obtain ⟨cs, v0, v1, v2, v3, v6, v7, v8, v9, hM⟩ := h
 exact ⟨hM.lo, lt_of_block hM.blk⟩
def Fits (o : S26) (inn st mem : List Int) : Prop := inn.length = o.f0.length ∧ st.length = o.f2.length ∧ mem.length = o.f3.length
instance (o : S26) (inn st mem : List Int) : Decidable (Fits o inn st mem) := inferInstanceAs (Decidable (_ ∧ _ ∧ _))
def derivR (o : S26) (inn st mem : List Int) : RS := pieceR o 0 inn st mem [] (List.replicate o.f2.length 0) [] []
theorem derivR_run {o : S26} (G : Good o) {inn st mem : List Int} (hf : Fits o inn st mem) (ai : AllIn inn) (ais : AllIn st) (am : AllIn mem) :
 (derivR o inn st mem).put.length = o.f2.length ∧ AllIn (derivR o inn st mem).put ∧ ∀ dn : Int, 0 ≤ dn → dn ≤ 100000000000 → runV opV inn st mem [] o.f6 4001 0 dn (rs0 o (List.replicate o.f2.length 0) [] []) = some (derivR o inn st mem, dn + o.f6.length) := by
 obtain ⟨h1, -, -, h3, h4⟩ := piece_run G 0 (by omega) (raised := []) hf (by omega) ai ais am (AllIn.zeros o.f2.length) (ns := []) (nm := []) (fun _ hx => by cases hx) (fun _ hx => by cases hx) (by simp) (by simp) (by simp)
 refine ⟨h1.pl.trans (by simp), h1.pi, fun dn h0 hd => ?_⟩
 have := h4 dn h0 hd
 rw [h3 (by omega)] at this
 exact this
theorem nr_ready {o : S26} (G : Good o) : (if regsTo (four o.f6 o.f7 o.f8 o.f9) 4 < 1 then 1 else regsTo (four o.f6 o.f7 o.f8 o.f9) 4) = (nrO o : Int) ∧ 0 < nrO o ∧ nrO o ≤ 4000 := by
 obtain ⟨nr, e, h0, h1, -⟩ := regs_ready G.right
 unfold nrO
 omega
end Go.Proofs.YtgalkkolbobmbaaGreat.V

-- written by myprint.py (wip/tools) out of the translation
namespace Go.Proofs.YtgalkkolbobmbaaGreat.V
open Go.RowKit Go.Proofs.YtgalkkolbobmbaaGreatW.PrintWords Go.Proofs.YtgalkkolbobmbaaGreatW.PrintLast Go.Proofs.YtgalkkolbobmbaaGreatW.PrintMore
attribute [local go_sem] max2_int min2_int max_two min_two max_three min_three max_four min_four   -- for this text's walks alone
set_option linter.unusedVariables false
set_option linter.unusedSimpArgs false

-- NOT PRINTED: function 23 (vm_New)

-- NOT PRINTED: function 24 (vm_Machine_Done)

/-! ### astrolaberef14_Numbers: function 29 -/
def astrolaberef14_Numbers.l0 : Nat → List Int → List Int → Int → Option (Bool)
 | 0, _, _, _ => none
 | k + 1, x0, x1, x5 => if x5 < (x0.length : Int) then (if 0 ≤ x5 then (if x5 < (x1.length : Int) then (if (rd x0 x5) = (rd x1 x5) then (astrolaberef14_Numbers.l0 k x0 x1 (wrap64 (x5 + 1))) else (some false)) else (none)) else (none)) else (some true)
def astrolaberef14_Numbers.f (k : Nat) (l0 : List Int) (l1 : List Int) : Option (Bool) := if (l0.length : Int) = (l1.length : Int) then (astrolaberef14_Numbers.l0 k l0 l1 0) else (some false)
theorem astrolaberef14_Numbers.mono_l : ∀ k, (∀ y0 y1 y2, LeO (astrolaberef14_Numbers.l0 k y0 y1 y2) (astrolaberef14_Numbers.l0 (k + 1) y0 y1 y2))
 | 0 => fun _ _ _ r h => by simp [astrolaberef14_Numbers.l0] at h
 | k + 1 => by
  have ih0 := astrolaberef14_Numbers.mono_l k
  · intro y0 y1 y2
    unfold astrolaberef14_Numbers.l0
    repeat' first
    | (with_reducible exact ih0 _ _ _)
    | (with_reducible exact LeO.refl _)
    | (with_reducible exact LeO.none _)
    | (with_reducible refine LeO.ite ?_ ?_)
    | (with_reducible refine LeO.bind ?_ (fun _ => ?_))
    | exact ih0 _ _ _
    | exact LeO.none _
    | refine LeO.ite ?_ ?_
    | refine LeO.bind ?_ (fun _ => ?_)
theorem astrolaberef14_Numbers.mono : ∀ a0 a1 k, LeO (astrolaberef14_Numbers.f k a0 a1) (astrolaberef14_Numbers.f (k + 1) a0 a1) := by
 intro a0 a1 k
 have ih0 := astrolaberef14_Numbers.mono_l k
 unfold astrolaberef14_Numbers.f
 repeat' first
  | (with_reducible exact ih0 _ _ _)
  | (with_reducible exact LeO.refl _)
  | (with_reducible exact LeO.none _)
  | (with_reducible refine LeO.ite ?_ ?_)
  | (with_reducible refine LeO.bind ?_ (fun _ => ?_))
  | exact ih0 _ _ _
  | exact LeO.none _
  | refine LeO.ite ?_ ?_
  | refine LeO.bind ?_ (fun _ => ?_)
set_option maxHeartbeats 8000000 in
set_option maxRecDepth 100000 in
theorem astrolaberef14_Numbers.calls (k : Nat) (A0 : Option Addr) (c0 : Nat) (l0 : List Int) (A1 : Option Addr) (c1 : Nat) (l1 : List Int) (r : Bool) (w : World) (hr0 : Kd.C (Kd.int .i64) w A0 l0.length l0) (hc0 : l0.length ≤ c0) (hr1 : Kd.C (Kd.int .i64) w A1 l1.length l1) (hc1 : l1.length ≤ c1) (h : astrolaberef14_Numbers.f k l0 l1 = some r) :
 Calls Tryz.prog 29 #[.slice A0 l0.length c0, .slice A1 l1.length c1] w fun e w' => e = .returned (.bool r) ∧ Drawn0 w w' := by
 have HR0 := Aside0.mk hr0
 have HC0 := Aside0.mk hc0
 clear hr0 hc0
 have HR1 := Aside0.mk hr1
 have HC1 := Aside0.mk hc1
 clear hr1 hc1
 have H : (if (l0.length : Int) = (l1.length : Int) then (astrolaberef14_Numbers.l0 k l0 l1 0) else (some false)) = some r := h
 clear h
 by_cases c3 : (l0.length : Int) = (l1.length : Int)
 · rw [if_pos c3] at H
   have c3b0 : ((l0.length : Int) == (l1.length : Int)) = true := beq_iff_eq.mpr c3
   have c3b1 : ((l0.length : Int) != (l1.length : Int)) = false := bne_eq_false_iff_eq.mpr c3
   have c3b2 : (l0.length == l1.length) = true := by first | simpa using c3 | (simp at c3 ⊢; omega)
   clear c3
   have H' := Aside0.mk H
   clear H
   go_enter Tryz.func29, Tryz.ntmps29
   go_wp2
   repeat (go_quiet (fail); try go_wp2)
   go_loopg [5] k (fun kq v5 w' => ∃ (x5_1 : Int), v5 = .int .i64 x5_1 ∧ Aside0 (astrolaberef14_Numbers.l0 kq l0 l1 x5_1 = some r) ∧ Aside0 (kq ≤ k) ∧ Drawn0 w w')
   case atStart => exact ⟨(0), (by first | rfl | (simp; done) | (simp [*]; done)), H', ⟨Nat.le_refl _⟩, by repeat (first | exact Drawn0.refl _ | apply Drawn0.step)⟩
   case round =>
    clear H'
    try clear c1
    try clear c2
    try clear p2
    try clear c3
    try clear c3b0
    try clear c3b1
    try clear c3b2
    obtain ⟨x5_1, rfl, HA, HK1, ⟨m1, rfl⟩⟩ := hrel
    cases gk with
    | zero => exact absurd HA.out (by simp [astrolaberef14_Numbers.l0])
    | succ k1 =>
     have H := HA.out
     clear HA
     simp only [astrolaberef14_Numbers.l0] at H
     by_cases c4 : x5_1 < (l0.length : Int)
     · rw [if_pos c4] at H
       have c4b0 : decide (x5_1 < (l0.length : Int)) = true := decide_eq_true c4
       clear c4
       by_cases c5 : 0 ≤ x5_1
       · rw [if_pos c5] at H
         have c5b0 : decide (0 ≤ x5_1) = true := decide_eq_true c5
         clear c5
         by_cases c6 : x5_1 < (l1.length : Int)
         · rw [if_pos c6] at H
           have c6b0 : decide (x5_1 < (l1.length : Int)) = true := decide_eq_true c6
           clear c6
           by_cases c7 : (rd l0 x5_1) = (rd l1 x5_1)
           · rw [if_pos c7] at H
             have c7b0 : ((rd l0 x5_1) == (rd l1 x5_1)) = true := beq_iff_eq.mpr c7
             have c7b1 : ((rd l0 x5_1) != (rd l1 x5_1)) = false := bne_eq_false_iff_eq.mpr c7
             clear c7
             have H' := Aside0.mk H
             clear H
             have p160 : 0 ≤ (x5_1 : Int) := of_decide_eq_true (by first | (with_reducible assumption) | assumption)
             have q160 : x5_1 < (l0.length : Int) := of_decide_eq_true (by first | (with_reducible assumption) | assumption)
             obtain ⟨ad160, e160, hx160_0⟩ := Kd.at_int HR0.out x5_1 p160 q160
             cases e160
             replace p160 := eq_true p160
             replace q160 := eq_true q160
             have p161 : 0 ≤ (x5_1 : Int) := of_decide_eq_true (by first | (with_reducible assumption) | assumption)
             have q161 : x5_1 < (l1.length : Int) := of_decide_eq_true (by first | (with_reducible assumption) | assumption)
             obtain ⟨ad161, e161, hx161_0⟩ := Kd.at_int HR1.out x5_1 p161 q161
             cases e161
             replace p161 := eq_true p161
             replace q161 := eq_true q161
             go_wp2
             repeat (go_quiet (fail); try go_wp2)
             go_roundg k1
             case measure => have := HK1.out; omega
             case rel => exact ⟨(wrap64 (x5_1 + 1)), (by first | rfl | (simp; done) | (simp [*]; done)), H', ⟨by have := HK1.out; omega⟩, by repeat (first | exact Drawn0.refl _ | apply Drawn0.step)⟩
           · rw [if_neg c7] at H
             have c7b0 : ((rd l0 x5_1) == (rd l1 x5_1)) = false := beq_eq_false_iff_ne.mpr c7
             have c7b1 : ((rd l0 x5_1) != (rd l1 x5_1)) = true := bne_iff_ne.mpr c7
             obtain rfl := Option.some.inj H
             have p160 : 0 ≤ (x5_1 : Int) := of_decide_eq_true (by first | (with_reducible assumption) | assumption)
             have q160 : x5_1 < (l0.length : Int) := of_decide_eq_true (by first | (with_reducible assumption) | assumption)
             obtain ⟨ad160, e160, hx160_0⟩ := Kd.at_int HR0.out x5_1 p160 q160
             cases e160
             replace p160 := eq_true p160
             replace q160 := eq_true q160
             have p161 : 0 ≤ (x5_1 : Int) := of_decide_eq_true (by first | (with_reducible assumption) | assumption)
             have q161 : x5_1 < (l1.length : Int) := of_decide_eq_true (by first | (with_reducible assumption) | assumption)
             obtain ⟨ad161, e161, hx161_0⟩ := Kd.at_int HR1.out x5_1 p161 q161
             cases e161
             replace p161 := eq_true p161
             replace q161 := eq_true q161
             go_wp2
             repeat (go_quiet (fail); try go_wp2)
             go_ret
             exact ⟨by first | rfl | (simp; done) | (simp [*]; done), by repeat (first | exact Drawn0.refl _ | apply Drawn0.step)⟩
         · rw [if_neg c6] at H
           exact absurd H (by simp)
       · rw [if_neg c5] at H
         exact absurd H (by simp)
     · rw [if_neg c4] at H
       have c4b0 : decide (x5_1 < (l0.length : Int)) = false := decide_eq_false c4
       clear c4
       obtain rfl := Option.some.inj H
       go_wp2
       repeat (go_quiet (fail); try go_wp2)
       go_ret
       exact ⟨by first | rfl | (simp; done) | (simp [*]; done), by repeat (first | exact Drawn0.refl _ | apply Drawn0.step)⟩
 · rw [if_neg c3] at H
   have c3b0 : ((l0.length : Int) == (l1.length : Int)) = false := beq_eq_false_iff_ne.mpr c3
   have c3b1 : ((l0.length : Int) != (l1.length : Int)) = true := bne_iff_ne.mpr c3
   have c3b2 : (l0.length == l1.length) = false := by first | simpa using c3 | (simp at c3 ⊢; omega)
   obtain rfl := Option.some.inj H
   go_enter Tryz.func29, Tryz.ntmps29
   go_wp2
   repeat (go_quiet (fail); try go_wp2)
   go_ret
   exact ⟨by first | rfl | (simp; done) | (simp [*]; done), by repeat (first | exact Drawn0.refl _ | apply Drawn0.step)⟩

end Go.Proofs.YtgalkkolbobmbaaGreat.V

/- HeunEven, the plain part: what the object's pieces make; means of the same slopes are the slopes. -/
namespace Go.Proofs.YtgalkkolbobmbaaGreat.V
open Go.RowKit Go.Proofs.YtgalkkolbobmbaaGreatW.PrintWords Go.Proofs.YtgalkkolbobmbaaGreatW.PrintLast Go.Proofs.YtgalkkolbobmbaaGreatW.PrintMore
set_option linter.unusedVariables false
set_option linter.unusedSimpArgs false

def mulV (a b : Int) : Int × Int := sat (sg ((decide (a < 0)) != (decide (b < 0))) (a.natAbs * b.natAbs / 4294967296))
def alongV (st sl : List Int) (h : Int) (n : Nat) : Int := (sat (rd st (n : Int) + (mulV h (rd sl (n : Int))).1)).1
def alongF (st sl : List Int) (h f0 : Int) : Nat → Int
 | 0 => f0
 | n + 1 => Go.bits .or .i64 (Go.bits .or .i64 (alongF st sl h f0 n) (mulV h (rd sl (n : Int))).2) (sat (rd st (n : Int) + (mulV h (rd sl (n : Int))).1)).2
theorem rd_tab (V : Nat → Int) (i : Nat) : ∀ n, i < n → rd (tabV V n) (i : Int) = V i
 | 0, h => absurd h (by omega)
 | n + 1, h => by
  have hl := tabV_length V n
  by_cases e : i = n
  · subst e
    unfold rd tabV
    simp [List.getD, hl]
  · have ih := rd_tab V i n (by omega)
    unfold rd at ih ⊢
    unfold tabV
    rw [← ih]
    simp [List.getD, List.getElem?_append_left (show i < (tabV V n).length by omega)]
theorem tab_congr {V W : Nat → Int} : ∀ n, (∀ i, i < n → V i = W i) → tabV V n = tabV W n
 | 0, _ => rfl
 | n + 1, h => by unfold tabV; rw [tab_congr n (fun i hi => h i (by omega)), h n (by omega)]
/-- along's numbers are fixq's. -/
theorem along_ok (st sl : List Int) (h f0 : Int) (hs : ∀ n, n < st.length → In64 (rd st (n : Int))) (hk : ∀ n, n < st.length → In64 (rd sl (n : Int))) (hh : In64 h) (n : Nat) (hn : n < st.length) :
 ∃ KM m f1 f2, fixq_Mul.f KM h (rd sl (n : Int)) = some (m, f1) ∧ fixq_Add.f (rd st (n : Int)) m = some (alongV st sl h n, f2) ∧ alongF st sl h f0 (n + 1) = Go.bits .or .i64 (Go.bits .or .i64 (alongF st sl h f0 n) f1) f2 := by
 obtain ⟨KM, hK⟩ := Ev.rounds (mul_eq h (rd sl (n : Int)) hh (hk n hn))
 exact ⟨KM, (mulV h (rd sl (n : Int))).1, (mulV h (rd sl (n : Int))).2, (sat (rd st (n : Int) + (mulV h (rd sl (n : Int))).1)).2, hK, add_eq _ _ (hs n hn) (sat_bd _), rfl⟩
end Go.Proofs.YtgalkkolbobmbaaGreat.V

/- heun.Step of a right object's machine; of none; of banks that don't fit. -/
namespace Go.Proofs.YtgalkkolbobmbaaGreat.V
open Go.RowKit Go.Proofs.YtgalkkolbobmbaaGreatW.PrintWords Go.Proofs.YtgalkkolbobmbaaGreatW.PrintLast Go.Proofs.YtgalkkolbobmbaaGreatW.PrintMore
set_option linter.unusedVariables false
set_option linter.unusedSimpArgs false
def alongL (st sl : List Int) (h : Int) : List Int := tabV (alongV st sl h) st.length
def mean2V (k1 k2 : List Int) (n : Nat) : Int := Int.tdiv (sat (rd k1 (n : Int) + rd k2 (n : Int))).1 2
def mean2F (k1 k2 : List Int) (f0 : Int) : Nat → Int
 | 0 => f0
 | n + 1 => Go.bits .or .i64 (mean2F k1 k2 f0 n) (sat (rd k1 (n : Int) + rd k2 (n : Int))).2
def hstepV (o : S26) (inn st mem : List Int) (h : Int) : List Int :=
 alongL st (tabV (mean2V (derivR o inn st mem).put (derivR o inn (alongL st (derivR o inn st mem).put h) mem).put) st.length) h
theorem AllIn.tab {V : Nat → Int} : ∀ n, (∀ i, i < n → In64 (V i)) → AllIn (tabV V n)
 | 0, _ => fun x hx => by cases hx
 | n + 1, h => fun x hx => by
  unfold tabV at hx
  rcases List.mem_append.1 hx with hx | hx
  · exact AllIn.tab n (fun i hi => h i (by omega)) x hx
  · rw [List.mem_singleton.1 hx]; exact h n (by omega)
theorem along_in (st sl : List Int) (h : Int) : AllIn (alongL st sl h) := AllIn.tab _ (fun i _ => sat_bd _)
theorem along_len (st sl : List Int) (h : Int) : (alongL st sl h).length = st.length := tabV_length _ _
theorem half_in {x : Int} (h : In64 x) : In64 (Int.tdiv x 2) := by
 obtain ⟨h1, h2⟩ := h
 by_cases h0 : 0 ≤ x
 · rw [Int.tdiv_eq_ediv_of_nonneg h0]; exact ⟨by omega, by omega⟩
 · have e : Int.tdiv x 2 = -((-x) / 2) := by
    rw [show x = -(-x) by omega, Int.neg_tdiv, Int.tdiv_eq_ediv_of_nonneg (by omega)]
    simp
   rw [e]; exact ⟨by omega, by omega⟩
theorem tab_rd (l : List Int) : ∀ n, n ≤ l.length → tabV (fun i => rd l (i : Int)) n = l.take n
 | 0, _ => by simp [tabV]
 | n + 1, h => by
  unfold tabV
  rw [tab_rd l n (by omega), List.take_succ_eq_append_getElem (by omega)]
  congr 1
  simp [rd, List.getD, List.getElem?_eq_getElem (show n < l.length by omega)]
/-- Of h 0 nothing changes. -/
theorem hstep_zero (o : S26) (inn st mem : List Int) (ais : AllIn st) : hstepV o inn st mem 0 = st := by
 unfold hstepV alongL
 rw [tab_congr (W := fun i => rd st (i : Int)) _ (fun i hi => ?_), tab_rd st _ (Nat.le_refl _), List.take_length]
 have mz : ∀ k, (mulV 0 k).1 = 0 := fun k => by
  unfold mulV
  simp only [Int.natAbs_zero, Nat.zero_mul, Nat.zero_div]
  cases (decide ((0 : Int) < 0) != decide (k < 0)) <;> rfl
 unfold alongV
 rw [mz, Int.add_zero, sat_in _ (ais.at _)]
set_option maxHeartbeats 1000000 in
theorem hstep_right {n Bm : Nat} {o : S26} {dn : Int} {w : World} (h : MachO n Bm o dn w) (G : Good o) (Ai As Am : Option Addr) (ci cs' cm : Nat) (inn st mem : List Int) (hh : Int) (hi : Old n w Ai inn) (hs : Old n w As st) (hm : Old n w Am mem)
 (hf : Fits o inn st mem) (ai : AllIn inn) (ais : AllIn st) (am : AllIn mem) (ih : In64 hh) (hd0 : 0 ≤ dn) (hd1 : dn ≤ 10000000000) :
 Calls Tryz.prog 34 #[.pointer (some ⟨Bm, 0, none⟩), .slice Ai inn.length ci, .slice As st.length cs', .slice Am mem.length cm, .int .i64 hh] w fun e w' => ∃ v f, e = .returned (.tuple #[v, .int .i64 f, .int .i64 0]) ∧
  Kd.R (Kd.int .i64) 2 w' w.heap.size (fun _ => True) v (hstepV o inn st mem hh) ∧ MachO n Bm o (dn + o.f6.length + o.f6.length) w' ∧ Chg (fun k => k = Bm) w w' := by
 obtain ⟨cs, v0, v1, v2, v3, v6, v7, v8, v9, hM⟩ := h
 obtain ⟨e1, e2, e3⟩ := nr_ready G
 have hb := right_bounds G.right
 have hL := hf.2.1
 obtain ⟨p1, p2, hr⟩ := derivR_run G hf ai ais am
 obtain ⟨q1, q2, hq⟩ := derivR_run G (inn := inn) (st := alongL st (derivR o inn st mem).put hh) (mem := mem) ⟨hf.1, by rw [along_len]; exact hf.2.1, hf.2.2⟩ ai (along_in _ _ _) am
 have hmean : ∀ i, i < st.length → In64 (rd (tabV (mean2V (derivR o inn st mem).put (derivR o inn (alongL st (derivR o inn st mem).put hh) mem).put) st.length) (i : Int)) := fun i hi => by
  rw [rd_tab _ _ _ hi]; exact half_in (sat_bd _)
 refine (step_any hM opV (opsForV cs) 4001 (nrO o) Ai As Am ci cs' cm inn st mem hh hi hs hm hf e1 e2 e3 (by omega) _ _ (hr dn hd0 (by omega)) (by omega)
  (alongV st (derivR o inn st mem).put hh) (alongF st (derivR o inn st mem).put hh (Go.bits .or .i64 0 (derivR o inn st mem).fl)) rfl (fun i hi => along_ok _ _ _ _ (fun n _ => ais.at _) (fun n _ => p2.at _) ih i hi)
  _ _ (hq (dn + o.f6.length) (by omega) (by omega)) (by omega)
  (mean2V (derivR o inn st mem).put (derivR o inn (alongL st (derivR o inn st mem).put hh) mem).put) (mean2F (derivR o inn st mem).put (derivR o inn (alongL st (derivR o inn st mem).put hh) mem).put (Go.bits .or .i64 (alongF st (derivR o inn st mem).put hh (Go.bits .or .i64 0 (derivR o inn st mem).fl) st.length) (derivR o inn (alongL st (derivR o inn st mem).put hh) mem).fl)) rfl
  (fun i hi => ⟨_, _, add_eq _ _ (p2.at _) (q2.at _), (sat_bd _).1, (sat_bd _).2, rfl, rfl⟩)
  (alongV st (tabV (mean2V (derivR o inn st mem).put (derivR o inn (alongL st (derivR o inn st mem).put hh) mem).put) st.length) hh)
  (alongF st (tabV (mean2V (derivR o inn st mem).put (derivR o inn (alongL st (derivR o inn st mem).put hh) mem).put) st.length) hh _) rfl
  (fun i hi => along_ok _ _ _ _ (fun n _ => ais.at _) hmean ih i hi)).mono ?_
 rintro e w' ⟨v, he, hR, hM', hc⟩
 exact ⟨v, _, he, hR, ⟨cs, v0, v1, v2, v3, v6, v7, v8, v9, hM'⟩, hc⟩
theorem fits_nil (Ai As Am : Option Addr) (ni ns nm ci cs' cm : Nat) (w : World) :
 Calls Tryz.prog 69 #[.pointer none, .slice Ai ni ci, .slice As ns cs', .slice Am nm cm] w fun e w' => e = .returned (.int .i64 12) ∧ w' = w := by
 go_enter Tryz.func69, Tryz.ntmps69
 go_wp2
 go_ret
 exact ⟨rfl, rfl⟩
theorem deriv_nil (Ai As Am : Option Addr) (ni ns nm ci cs' cm : Nat) (w : World) :
 Calls Tryz.prog 27 #[.pointer none, .slice Ai ni ci, .slice As ns cs', .slice Am nm cm] w fun e w' => e = .returned (.tuple #[.slice none 0 0, .int .i64 0, .int .i64 12]) ∧ w' = w := by
 go_enter Tryz.func27, Tryz.ntmps27
 go_wp2_with (refine (fits_nil _ _ _ _ _ _ _ _ _ _).mono ?_; rintro e w1 ⟨rfl, rfl⟩)
 go_ret3
 exact ⟨rfl, rfl⟩
theorem hstep_err (p : Option Addr) (c : Int) (hc : c ≠ 0) (Ai As Am : Option Addr) (ni ns nm ci cs' cm : Nat) (hh : Int) (w : World)
 (hd : ∀ W, Below w.heap.size w W → Calls Tryz.prog 27 #[.pointer p, .slice Ai ni ci, .slice As ns cs', .slice Am nm cm] W fun e w' => e = .returned (.tuple #[.slice none 0 0, .int .i64 0, .int .i64 c]) ∧ w' = W) :
 Calls Tryz.prog 34 #[.pointer p, .slice Ai ni ci, .slice As ns cs', .slice Am nm cm, .int .i64 hh] w fun e w' => e = .returned (.tuple #[.slice none 0 0, .int .i64 0, .int .i64 c]) ∧ Below w.heap.size w w' := by
 have HD := Aside0.mk hd
 have hcb : (c != 0) = true := by simp [hc]
 have hcb2 : decide (c = 0) = false := by simp [hc]
 clear hd
 go_enter Tryz.func34, Tryz.ntmps34
 go_wp2_with fail
 refine (HD.out _ (below_alloc (Below.refl _ _) _)).mono ?_
 rintro e w1 ⟨rfl, rfl⟩
 go_wp2_with fail
 go_ret3
 exact ⟨rfl, by repeat (first | exact Below.refl _ _ | apply below_alloc | apply pw_below_drewN | apply below_drew1)⟩
theorem hstep_nil (Ai As Am : Option Addr) (ni ns nm ci cs' cm : Nat) (hh : Int) (w : World) :
 Calls Tryz.prog 34 #[.pointer none, .slice Ai ni ci, .slice As ns cs', .slice Am nm cm, .int .i64 hh] w fun e w' => e = .returned (.tuple #[.slice none 0 0, .int .i64 0, .int .i64 12]) ∧ Below w.heap.size w w' :=
 hstep_err none 12 (by decide) _ _ _ _ _ _ _ _ _ _ _ (fun W _ => deriv_nil _ _ _ _ _ _ _ _ _ W)
theorem hstep_no {n Bm : Nat} {o : S26} {dn : Int} {w : World} (h : MachO n Bm o dn w) (Ai As Am : Option Addr) (ci cs' cm : Nat) (inn st mem : List Int) (hh : Int) (hf : ¬ Fits o inn st mem) :
 Calls Tryz.prog 34 #[.pointer (some ⟨Bm, 0, none⟩), .slice Ai inn.length ci, .slice As st.length cs', .slice Am mem.length cm, .int .i64 hh] w fun e w' => e = .returned (.tuple #[.slice none 0 0, .int .i64 0, .int .i64 13]) ∧ Below w.heap.size w w' :=
 hstep_err _ 13 (by decide) _ _ _ _ _ _ _ _ _ _ _ (fun W hW => by
  obtain ⟨cs, v0, v1, v2, v3, v6, v7, v8, v9, hM⟩ := h.below hW
  exact deriv_no hM _ _ _ _ _ _ _ _ _ hf)
end Go.Proofs.YtgalkkolbobmbaaGreat.V
