/- heun.Euler and heun.Step: the walks. -/
import Derived.Test.YtgalkkolbobmbaaGreatVAlong
import Derived.Test.YtgalkkolbobmbaaGreatVPiece
namespace Go.Proofs.YtgalkkolbobmbaaGreat.V
open Go.RowKit Go.Proofs.YtgalkkolbobmbaaGreatW.PrintWords Go.Proofs.YtgalkkolbobmbaaGreatW.PrintLast Go.Proofs.YtgalkkolbobmbaaGreatW.PrintMore
set_option linter.unusedVariables false
set_option linter.unusedSimpArgs false
theorem Mach.side {n Bm : Nat} {cs : Array Value} {v0 v1 v2 v3 v6 v7 v8 v9 : Value} {l0 l1 l2 l3 : List Int} {a4 a5 : Int} {l6 l7 l8 l9 : List S49} {dn : Int} {w w' : World} {S : Nat} {fl : Int} (h : Mach n Bm cs v0 v1 v2 v3 v6 v7 v8 v9 l0 l1 l2 l3 a4 a5 l6 l7 l8 l9 dn w) (hS : FlagAt S fl w) (hc : Chg (fun k => k = S) w w') : Mach n Bm cs v0 v1 v2 v3 v6 v7 v8 v9 l0 l1 l2 l3 a4 a5 l6 l7 l8 l9 dn w' := by
  have st : ∀ {α : Type} {d : Kd α} {e : Nat} {v : Value} {xs : List α}, d.R e w n (fun k => k ≠ Bm) v xs → (∀ q, q ∈ e :: d.E → q ≠ 124) → d.R e w' n (fun k => k ≠ Bm) v xs := fun hR ht =>
    Kd.R_mono (Kd.R_step (Kd.R_types hR hS ht) (fun k hk hl => hc.block k hl hk.2)) (fun _ hk => hk.1)
  exact ⟨h.lo, (hc.block _ (lt_of_block h.blk) (ne_type hS h.blk (by decide))).trans h.blk, h.sz, h.rg, h.o0, h.o1, h.o2, h.o3, h.o4, h.o5, h.o6, h.o7, h.o8, h.o9,
    st h.r0 (by decide), st h.r1 (by decide), st h.r2 (by decide), st h.r3 (by decide), st h.r6 (by decide), st h.r7 (by decide), st h.r8 (by decide), st h.r9 (by decide),
    fun op ho => by
      obtain ⟨b, h1, h2, h3, h4⟩ := h.ops op ho
      refine ⟨b, h1, h2, h3, (hc.block b (lt_of_block h4) (ne_type hS h4 ?_)).trans h4⟩
      unfold opType
      split
      · decide
      · split <;> decide, h.pick⟩
/-- A list of elder blocks than n. -/
structure Old (n : Nat) (w : World) (A : Option Addr) (l : List Int) : Prop where
  c : Kd.C (Kd.int .i64) w A l.length l
  lt : ∀ ad, A = some ad → 0 < l.length → ad.block < n
theorem Old.LI {n b : Nat} {w : World} {A : Option Addr} {l : List Int} (h : Old n w A l) (hb : n ≤ b) : LI b w A l := ⟨h.c, fun ad ha hp => by have := h.lt ad ha hp; omega⟩
theorem Old.below {n : Nat} {w w' : World} {A : Option Addr} {l : List Int} (h : Old n w A l) (hb : Below n w w') : Old n w' A l :=
  ⟨C_keep (S := fun k => n ≤ k) h.c (fun ad ha hp => by have := h.lt ad ha hp; omega) ⟨hb.os, hb.tape, hb.output, hb.size, fun k _ hn => hb.block k (by omega)⟩ (fun _ _ hk => hk), h.lt⟩
/-- A list of later blocks than b. -/
structure Nw (b : Nat) (w : World) (A : Option Addr) (l : List Int) : Prop where
  c : Kd.C (Kd.int .i64) w A l.length l
  ge : ∀ ad, A = some ad → 0 < l.length → b ≤ ad.block
theorem Nw.chg {b : Nat} {w w' : World} {A : Option Addr} {l : List Int} {T : Nat → Prop} (h : Nw b w A l) (hc : Chg T w w') (hT : ∀ k, T k → k < b) : Nw b w' A l :=
  ⟨C_keep h.c (fun ad ha hp ht => by have := h.ge ad ha hp; have := hT _ ht; omega) hc (fun _ _ hk => hk), h.ge⟩
theorem Nw.LI {b c : Nat} {w : World} {A : Option Addr} {l : List Int} (h : Nw b w A l) (hc : c < b) : LI c w A l := ⟨h.c, fun ad ha hp => by have := h.ge ad ha hp; omega⟩
theorem Nw.of_R {e base : Nat} {w : World} {ok : Nat → Prop} {v : Value} {l : List Int} (h : (Kd.int .i64).R e w base ok v l) : ∃ A c, v = .slice A l.length c ∧ Nw base w A l := by
  obtain ⟨A, c, hv, -, hC, hn⟩ := R_list (Kd.R_mono (Kd.R_bound h) (ok' := fun k => base ≤ k) (fun _ hk => hk.2.1))
  exact ⟨A, c, hv, hC, hn⟩
set_option maxHeartbeats 4000000 in
set_option maxRecDepth 100000 in
theorem euler_any {n Bm : Nat} {cs : Array Value} {v0 v1 v2 v3 v6 v7 v8 v9 : Value} {l0 l1 l2 l3 : List Int} {a4 a5 : Int} {l6 l7 l8 l9 : List S49} {dn : Int} {w : World} (h : Mach n Bm cs v0 v1 v2 v3 v6 v7 v8 v9 l0 l1 l2 l3 a4 a5 l6 l7 l8 l9 dn w) (O : Int → Int → Int → Int → Option (Int × Int)) (hO : OpsFor cs O) (k nr : Nat) (Ai As Am : Option Addr) (ci cs' cm : Nat) (inn st mem : List Int) (hh : Int)
    (hi : Old n w Ai inn) (hs : Old n w As st) (hm : Old n w Am mem) (hf : inn.length = l0.length ∧ st.length = l2.length ∧ mem.length = l3.length) (hmx : (if regsTo (four l6 l7 l8 l9) 4 < 1 then 1 else regsTo (four l6 l7 l8 l9) 4) = (nr : Int)) (hn0 : 0 < nr) (hn1 : nr ≤ 4000) (hL : st.length ≤ 100000)
    (s1 : RS) (dn1 : Int) (hr1 : runV O inn st mem [] l6 k 0 dn ⟨List.replicate nr 0, 0, List.replicate (l2.length) 0, [], []⟩ = some (s1, dn1)) (hp1 : s1.put.length = st.length)
    (V1 F1 : Nat → Int) (hF1 : F1 0 = Go.bits .or .i64 0 s1.fl) (hV1 : ∀ n, n < st.length → ∃ KM m f1 f2, fixq_Mul.f KM hh (rd s1.put (n : Int)) = some (m, f1) ∧ fixq_Add.f (rd st (n : Int)) m = some (V1 n, f2) ∧ F1 (n + 1) = Go.bits .or .i64 (Go.bits .or .i64 (F1 n) f1) f2) :
    Calls Tryz.prog 35 #[.pointer (some ⟨Bm, 0, none⟩), .slice Ai inn.length ci, .slice As st.length cs', .slice Am mem.length cm, .int .i64 hh] w fun e w' => ∃ v, e = .returned (.tuple #[v, .int .i64 (F1 st.length), .int .i64 0]) ∧ Kd.R (Kd.int .i64) 2 w' w.heap.size (fun _ => True) v (tabV V1 st.length) ∧ Mach n Bm cs v0 v1 v2 v3 v6 v7 v8 v9 l0 l1 l2 l3 a4 a5 l6 l7 l8 l9 dn1 w' ∧ Chg (fun k => k = Bm) w w' := by
  have HO := Aside0.mk hO
  have HI := Aside0.mk hi
  have HS := Aside0.mk hs
  have HM := Aside0.mk hm
  have HF := Aside0.mk hf
  have HR1 := Aside0.mk hr1
  have HP1 := Aside0.mk hp1
  have HV1 := Aside0.mk hV1
  have HF1 := Aside0.mk hF1
  have HMX := Aside0.mk hmx
  have hlt : Bm < w.heap.size := lt_of_block h.blk
  have hlo := h.lo
  have H := Aside0.mk h
  clear h hO hi hs hm hf hr1 hp1 hV1 hF1 hmx
  go_enter Tryz.func35, Tryz.ntmps35
  go_wp2_with (fail)
  obtain ⟨w1, hw1⟩ : ∃ z, (w.alloc (Obj.cells #[.int .i64 0] 124)) = z := ⟨_, rfl⟩
  have hb1 : Below w.heap.size w w1 := by rw [← hw1]; exact below_alloc (Below.refl _ _) _
  have G1 := Aside0.mk (show FlagAt w.heap.size 0 w1 by rw [← hw1]; exact blk_new w _)
  have hz1 : w1.heap.size = w.heap.size + 1 := by rw [← hw1]; simp
  rw [hw1]
  clear hw1
  have hbn1 : Below n w w1 := hb1.mono (by omega)
  refine (deriv_any (H.out.below hb1) O HO.out k nr Ai As Am ci cs' cm inn st mem ((HI.out.below hbn1).LI hlo) ((HS.out.below hbn1).LI hlo) ((HM.out.below hbn1).LI hlo) HF.out HMX.out hn0 hn1 (by have := HF.out; omega) s1 dn1 HR1.out).mono ?_
  rintro e w2 ⟨vA, rfl, hRA, hMA, hCA⟩
  obtain ⟨A1, c1, rfl, hN1⟩ := Nw.of_R hRA
  have M2 := Aside0.mk hMA
  have N2 := Aside0.mk hN1
  have G2 := Aside0.mk (show FlagAt w.heap.size 0 w2 from (hCA.block _ (lt_of_block G1.out) (by omega)).trans G1.out)
  have B2 := Aside0.mk (show Below n w w2 from hCA.to_below (by omega) (fun k hk => by omega) hbn1)
  have C2 := Aside0.mk (show Chg (fun k => k = Bm) w w2 from (Chg.of_below hb1 _).then_ hCA (fun _ hk => .inl hk))
  have hz2 : w1.heap.size ≤ w2.heap.size := hCA.size
  clear hRA hMA hCA hN1 hb1 hbn1
  go_wp2_with (fail)
  refine (of_any w.heap.size 0 0 s1.fl _ G2.out).mono ?_
  rintro e w3 ⟨rfl, hf3, hc3⟩
  have M3 := Aside0.mk (M2.out.side G2.out hc3)
  have G3 := Aside0.mk hf3
  have N3 := Aside0.mk (N2.out.chg hc3 (fun k hk => by omega))
  have B3 := Aside0.mk (show Below n w w3 from hc3.to_below (by omega) (fun k hk => by omega) B2.out)
  have C3 := Aside0.mk (show Chg (fun k => k = Bm) w w3 from C2.out.then_ hc3 (fun k hk => .inr (by omega)))
  have hz3 : w2.heap.size ≤ w3.heap.size := hc3.size
  clear hf3 hc3
  go_wp2_with (fail)
  have G3 := Aside0.mk (show FlagAt w.heap.size (F1 0) w3 by rw [HF1.out]; exact G3.out)
  refine (along_any w.heap.size (F1 0) As A1 cs' c1 st s1.put hh V1 F1 w3 G3.out ((HS.out.below B3.out).LI (by omega)) (N3.out.LI (by omega)) (by have := HP1.out; omega) hL rfl HV1.out).mono ?_
  rintro e w4 ⟨v, rfl, hR4, hf4, hc4⟩
  have M4 := Aside0.mk (M3.out.side G3.out hc4)
  have R4 := Aside0.mk (Kd.R_lower hR4 (show w.heap.size ≤ w3.heap.size by omega))
  have cS := cell_of_one hf4
  have C4 := Aside0.mk (show Chg (fun k => k = Bm) w w4 from C3.out.then_ hc4 (fun k hk => .inr (by omega)))
  clear hR4 hf4 hc4
  go_wp2
  go_quiet (fail)
  go_wp2
  go_ret3
  exact ⟨v, rfl, Kd.R_drewN R4.out _, M4.out.below (pw_below_drewN (Below.refl _ _) _), C4.out.drewN _⟩
set_option maxHeartbeats 4000000 in
set_option maxRecDepth 100000 in
theorem step_any {n Bm : Nat} {cs : Array Value} {v0 v1 v2 v3 v6 v7 v8 v9 : Value} {l0 l1 l2 l3 : List Int} {a4 a5 : Int} {l6 l7 l8 l9 : List S49} {dn : Int} {w : World} (h : Mach n Bm cs v0 v1 v2 v3 v6 v7 v8 v9 l0 l1 l2 l3 a4 a5 l6 l7 l8 l9 dn w) (O : Int → Int → Int → Int → Option (Int × Int)) (hO : OpsFor cs O) (k nr : Nat) (Ai As Am : Option Addr) (ci cs' cm : Nat) (inn st mem : List Int) (hh : Int)
    (hi : Old n w Ai inn) (hs : Old n w As st) (hm : Old n w Am mem) (hf : inn.length = l0.length ∧ st.length = l2.length ∧ mem.length = l3.length) (hmx : (if regsTo (four l6 l7 l8 l9) 4 < 1 then 1 else regsTo (four l6 l7 l8 l9) 4) = (nr : Int)) (hn0 : 0 < nr) (hn1 : nr ≤ 4000) (hL : st.length ≤ 100000)
    (s1 : RS) (dn1 : Int) (hr1 : runV O inn st mem [] l6 k 0 dn ⟨List.replicate nr 0, 0, List.replicate (l2.length) 0, [], []⟩ = some (s1, dn1)) (hp1 : s1.put.length = st.length)
    (V1 F1 : Nat → Int) (hF1 : F1 0 = Go.bits .or .i64 0 s1.fl) (hV1 : ∀ n, n < st.length → ∃ KM m f1 f2, fixq_Mul.f KM hh (rd s1.put (n : Int)) = some (m, f1) ∧ fixq_Add.f (rd st (n : Int)) m = some (V1 n, f2) ∧ F1 (n + 1) = Go.bits .or .i64 (Go.bits .or .i64 (F1 n) f1) f2)
    (s2 : RS) (dn2 : Int) (hr2 : runV O inn (tabV V1 st.length) mem [] l6 k 0 dn1 ⟨List.replicate nr 0, 0, List.replicate (l2.length) 0, [], []⟩ = some (s2, dn2)) (hp2 : s2.put.length = st.length)
    (Vm Fm : Nat → Int) (hFm : Fm 0 = Go.bits .or .i64 (F1 st.length) s2.fl) (hVm : ∀ n, n < st.length → ∃ a f, fixq_Add.f (rd s1.put (n : Int)) (rd s2.put (n : Int)) = some (a, f) ∧ -9223372036854775808 ≤ a ∧ a ≤ 9223372036854775807 ∧ Vm n = Int.tdiv a 2 ∧ Fm (n + 1) = Go.bits .or .i64 (Fm n) f)
    (V2 F2 : Nat → Int) (hF2 : F2 0 = Fm st.length) (hV2 : ∀ n, n < st.length → ∃ KM m f1 f2, fixq_Mul.f KM hh (rd (tabV Vm st.length) (n : Int)) = some (m, f1) ∧ fixq_Add.f (rd st (n : Int)) m = some (V2 n, f2) ∧ F2 (n + 1) = Go.bits .or .i64 (Go.bits .or .i64 (F2 n) f1) f2) :
    Calls Tryz.prog 34 #[.pointer (some ⟨Bm, 0, none⟩), .slice Ai inn.length ci, .slice As st.length cs', .slice Am mem.length cm, .int .i64 hh] w fun e w' => ∃ v, e = .returned (.tuple #[v, .int .i64 (F2 st.length), .int .i64 0]) ∧ Kd.R (Kd.int .i64) 2 w' w.heap.size (fun _ => True) v (tabV V2 st.length) ∧ Mach n Bm cs v0 v1 v2 v3 v6 v7 v8 v9 l0 l1 l2 l3 a4 a5 l6 l7 l8 l9 dn2 w' ∧ Chg (fun k => k = Bm) w w' := by
  have HO := Aside0.mk hO
  have HI := Aside0.mk hi
  have HS := Aside0.mk hs
  have HM := Aside0.mk hm
  have HF := Aside0.mk hf
  have HR1 := Aside0.mk hr1
  have HP1 := Aside0.mk hp1
  have HV1 := Aside0.mk hV1
  have HF1 := Aside0.mk hF1
  have HMX := Aside0.mk hmx
  have hlt : Bm < w.heap.size := lt_of_block h.blk
  have hlo := h.lo
  have H := Aside0.mk h
  clear h hO hi hs hm hf hr1 hp1 hV1 hF1 hmx
  have HR2 := Aside0.mk hr2
  have HP2 := Aside0.mk hp2
  have HFm := Aside0.mk hFm
  have HVm := Aside0.mk hVm
  have HF2 := Aside0.mk hF2
  have HV2 := Aside0.mk hV2
  clear hr2 hp2 hFm hVm hF2 hV2
  go_enter Tryz.func34, Tryz.ntmps34
  go_wp2_with (fail)
  obtain ⟨w1, hw1⟩ : ∃ z, (w.alloc (Obj.cells #[.int .i64 0] 124)) = z := ⟨_, rfl⟩
  have hb1 : Below w.heap.size w w1 := by rw [← hw1]; exact below_alloc (Below.refl _ _) _
  have G1 := Aside0.mk (show FlagAt w.heap.size 0 w1 by rw [← hw1]; exact blk_new w _)
  have hz1 : w1.heap.size = w.heap.size + 1 := by rw [← hw1]; simp
  rw [hw1]
  clear hw1
  have hbn1 : Below n w w1 := hb1.mono (by omega)
  refine (deriv_any (H.out.below hb1) O HO.out k nr Ai As Am ci cs' cm inn st mem ((HI.out.below hbn1).LI hlo) ((HS.out.below hbn1).LI hlo) ((HM.out.below hbn1).LI hlo) HF.out HMX.out hn0 hn1 (by have := HF.out; omega) s1 dn1 HR1.out).mono ?_
  rintro e w2 ⟨vA, rfl, hRA, hMA, hCA⟩
  obtain ⟨A1, c1, rfl, hN1⟩ := Nw.of_R hRA
  have M2 := Aside0.mk hMA
  have N2 := Aside0.mk hN1
  have G2 := Aside0.mk (show FlagAt w.heap.size 0 w2 from (hCA.block _ (lt_of_block G1.out) (by omega)).trans G1.out)
  have B2 := Aside0.mk (show Below n w w2 from hCA.to_below (by omega) (fun k hk => by omega) hbn1)
  have C2 := Aside0.mk (show Chg (fun k => k = Bm) w w2 from (Chg.of_below hb1 _).then_ hCA (fun _ hk => .inl hk))
  have hz2 : w1.heap.size ≤ w2.heap.size := hCA.size
  clear hRA hMA hCA hN1 hb1 hbn1
  go_wp2_with (fail)
  obtain ⟨b1, hb1⟩ : ∃ b, w2.heap.size = b := ⟨_, rfl⟩
  obtain ⟨w3, hw3⟩ : ∃ z, (w2.alloc (Obj.cells #[.slice A1 s1.put.length c1] 23)) = z := ⟨_, rfl⟩
  have hbb : Below w2.heap.size w2 w3 := by rw [← hw3]; exact below_alloc (Below.refl _ _) _
  have X1 := Aside0.mk (show w3.heap[b1]? = some (.cells #[.slice A1 s1.put.length c1] 23 (0, 0)) by rw [← hw3, ← hb1]; exact blk_new w2 _)
  have M3 := Aside0.mk (M2.out.below hbb)
  have G3 := Aside0.mk (show FlagAt w.heap.size 0 w3 from (hbb.block _ (lt_of_block G2.out)).trans G2.out)
  have N3 := Aside0.mk (N2.out.chg (Chg.of_below hbb (fun _ => False)) (fun _ hk => hk.elim))
  have B3 := Aside0.mk (B2.out.trans (hbb.mono (by omega)))
  have C3 := Aside0.mk (C2.out.below hbb)
  have hz3 : w2.heap.size ≤ w3.heap.size := hbb.size
  rw [hw3, hb1]
  clear hw3 hbb
  refine (of_any w.heap.size 0 0 s1.fl _ G3.out).mono ?_
  rintro e w4 ⟨rfl, hf, hc⟩
  have M4 := Aside0.mk (M3.out.side G3.out hc)
  have X1 := Aside0.mk (show w4.heap[b1]? = _ from (hc.block _ (lt_of_block X1.out) (ne_type G3.out X1.out (by decide))).trans X1.out)
  have G4 := Aside0.mk (show FlagAt w.heap.size (F1 0) w4 by rw [HF1.out]; exact hf)
  have N4 := Aside0.mk (N3.out.chg hc (fun k hk => by omega))
  have B4 := Aside0.mk (show Below n w w4 from hc.to_below (by omega) (fun k hk => by omega) B3.out)
  have C4 := Aside0.mk (show Chg (fun k => k = Bm) w w4 from C3.out.then_ hc (fun k hk => .inr (by omega)))
  have hz4 : w3.heap.size ≤ w4.heap.size := hc.size
  have cb1 := cell_of_one X1.out
  clear hf hc
  go_wp2_with (fail)
  refine (along_any w.heap.size (F1 0) As A1 cs' c1 st s1.put hh V1 F1 w4 G4.out ((HS.out.below B4.out).LI (by omega)) (N4.out.LI (by omega)) (by have := HP1.out; omega) hL rfl HV1.out).mono ?_
  rintro e w5 ⟨vx, rfl, hRx, hf, hc⟩
  obtain ⟨Ax, cx, rfl, hNx⟩ := Nw.of_R hRx
  have M5 := Aside0.mk (M4.out.side G4.out hc)
  have X1 := Aside0.mk (show w5.heap[b1]? = _ from (hc.block _ (lt_of_block X1.out) (ne_type G4.out X1.out (by decide))).trans X1.out)
  have G5 := Aside0.mk hf
  have N5 := Aside0.mk (N4.out.chg hc (fun k hk => by omega))
  have Nx := Aside0.mk hNx
  have B5 := Aside0.mk (show Below n w w5 from hc.to_below (by omega) (fun k hk => by omega) B4.out)
  have C5 := Aside0.mk (show Chg (fun k => k = Bm) w w5 from C4.out.then_ hc (fun k hk => .inr (by omega)))
  have hz5 : w4.heap.size ≤ w5.heap.size := hc.size
  clear hRx hNx hf hc cb1
  go_wp2_with (fail)
  refine (deriv_any M5.out O HO.out k nr Ai Ax Am ci cx cm inn (tabV V1 st.length) mem ((HI.out.below B5.out).LI hlo) (Nx.out.LI (by omega)) ((HM.out.below B5.out).LI hlo) (by have := HF.out; have := tabV_length V1 st.length; omega) HMX.out hn0 hn1 (by have := HF.out; omega) s2 dn2 HR2.out).mono ?_
  rintro e w6 ⟨vB, rfl, hRB, hMB, hc⟩
  obtain ⟨A2, c2, rfl, hN2⟩ := Nw.of_R hRB
  have M6 := Aside0.mk hMB
  have X1 := Aside0.mk (show w6.heap[b1]? = _ from (hc.block _ (lt_of_block X1.out) (by omega)).trans X1.out)
  have G6 := Aside0.mk (show FlagAt w.heap.size (F1 st.length) w6 from (hc.block _ (lt_of_block G5.out) (by omega)).trans G5.out)
  have N6 := Aside0.mk (N5.out.chg hc (fun k hk => by omega))
  have P6 := Aside0.mk hN2
  have B6 := Aside0.mk (show Below n w w6 from hc.to_below (by omega) (fun k hk => by omega) B5.out)
  have C6 := Aside0.mk (show Chg (fun k => k = Bm) w w6 from C5.out.then_ hc (fun _ hk => .inl hk))
  have hz6 : w5.heap.size ≤ w6.heap.size := hc.size
  clear hRB hMB hN2 hc
  go_wp2_with (fail)
  obtain ⟨b2, hb2⟩ : ∃ b, w6.heap.size = b := ⟨_, rfl⟩
  obtain ⟨w7, hw7⟩ : ∃ z, (w6.alloc (Obj.cells #[.slice A2 s2.put.length c2] 23)) = z := ⟨_, rfl⟩
  have hbb : Below w6.heap.size w6 w7 := by rw [← hw7]; exact below_alloc (Below.refl _ _) _
  have X2 := Aside0.mk (show w7.heap[b2]? = some (.cells #[.slice A2 s2.put.length c2] 23 (0, 0)) by rw [← hw7, ← hb2]; exact blk_new w6 _)
  have M7 := Aside0.mk (M6.out.below hbb)
  have X1 := Aside0.mk (show w7.heap[b1]? = _ from (hbb.block _ (lt_of_block X1.out)).trans X1.out)
  have G7 := Aside0.mk (show FlagAt w.heap.size (F1 st.length) w7 from (hbb.block _ (lt_of_block G6.out)).trans G6.out)
  have N7 := Aside0.mk (N6.out.chg (Chg.of_below hbb (fun _ => False)) (fun _ hk => hk.elim))
  have P7 := Aside0.mk (P6.out.chg (Chg.of_below hbb (fun _ => False)) (fun _ hk => hk.elim))
  have B7 := Aside0.mk (B6.out.trans (hbb.mono (by omega)))
  have C7 := Aside0.mk (C6.out.below hbb)
  have hz7 : w6.heap.size ≤ w7.heap.size := hbb.size
  rw [hw7, hb2]
  clear hw7 hbb
  refine (of_any w.heap.size (F1 st.length) 0 s2.fl _ G7.out).mono ?_
  rintro e w8 ⟨rfl, hf, hc⟩
  have M8 := Aside0.mk (M7.out.side G7.out hc)
  have X1 := Aside0.mk (show w8.heap[b1]? = _ from (hc.block _ (lt_of_block X1.out) (ne_type G7.out X1.out (by decide))).trans X1.out)
  have X2 := Aside0.mk (show w8.heap[b2]? = _ from (hc.block _ (lt_of_block X2.out) (ne_type G7.out X2.out (by decide))).trans X2.out)
  have G8 := Aside0.mk (show FlagAt w.heap.size (Fm 0) w8 by rw [HFm.out]; exact hf)
  have N8 := Aside0.mk (N7.out.chg hc (fun k hk => by omega))
  have P8 := Aside0.mk (P7.out.chg hc (fun k hk => by omega))
  have B8 := Aside0.mk (show Below n w w8 from hc.to_below (by omega) (fun k hk => by omega) B7.out)
  have C8 := Aside0.mk (show Chg (fun k => k = Bm) w w8 from C7.out.then_ hc (fun k hk => .inr (by omega)))
  have hz8 : w7.heap.size ≤ w8.heap.size := hc.size
  clear hf hc
  go_wp2_with (fail)
  have HMW : MnW w.heap.size b1 b2 A1 A2 c1 c2 s1.put s2.put (Fm 0) w8 := ⟨G8.out, X1.out, X2.out, N8.out.LI (by omega), P8.out.LI (by omega)⟩
  refine (each76 _ _ _ st.length w8 w.heap.size Vm Fm hL G8.out (fun i W hn hc hf => ?_)).mono ?_
  · obtain ⟨a, f, e1, e2, e3, e4, e5⟩ := HVm.out i hn
    rw [e4]
    refine (mean1 w.heap.size b1 b2 A1 A2 c1 c2 s1.put s2.put (Fm i) i a f W (HMW.chg hc hf) (by have := HP1.out; omega) (by have := HP2.out; omega) e1 e2 e3).mono ?_
    rintro e W' ⟨rfl, hw, hc'⟩
    exact ⟨rfl, by rw [e5]; exact hw.fs, hc'⟩
  rintro e w9 ⟨vm, rfl, hRm, hf, hc⟩
  obtain ⟨A3, c3, rfl, hN3⟩ := Nw.of_R hRm
  have M9 := Aside0.mk (M8.out.side G8.out hc)
  have G9 := Aside0.mk (show FlagAt w.heap.size (F2 0) w9 by rw [HF2.out]; exact hf)
  have Q9 := Aside0.mk hN3
  have B9 := Aside0.mk (show Below n w w9 from hc.to_below (by omega) (fun k hk => by omega) B8.out)
  have C9 := Aside0.mk (show Chg (fun k => k = Bm) w w9 from C8.out.then_ hc (fun k hk => .inr (by omega)))
  have hz9 : w8.heap.size ≤ w9.heap.size := hc.size
  clear hRm hN3 hf hc HMW
  go_wp2_with (fail)
  refine (along_any w.heap.size (F2 0) As A3 cs' c3 st (tabV Vm st.length) hh V2 F2 w9 G9.out ((HS.out.below B9.out).LI (by omega)) (Q9.out.LI (by omega)) (by have := tabV_length Vm st.length; omega) hL rfl HV2.out).mono ?_
  rintro e w10 ⟨v, rfl, hR4, hf4, hc4⟩
  have M10 := Aside0.mk (M9.out.side G9.out hc4)
  have R10 := Aside0.mk (Kd.R_lower hR4 (show w.heap.size ≤ w9.heap.size by omega))
  have cS := cell_of_one hf4
  have C10 := Aside0.mk (show Chg (fun k => k = Bm) w w10 from C9.out.then_ hc4 (fun k hk => .inr (by omega)))
  clear hR4 hf4 hc4
  go_wp2
  go_quiet (fail)
  go_wp2
  go_ret3
  exact ⟨v, rfl, Kd.R_drewN R10.out _, M10.out.below (pw_below_drewN (Below.refl _ _) _), C10.out.drewN _⟩
end Go.Proofs.YtgalkkolbobmbaaGreat.V
