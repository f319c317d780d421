/- The Go function ast.Deep. -/
import Derived.Test.YtediidkiedifcaaANames
import Derived.Test.YtediidkiedifcaaAInv2
namespace Go.Proofs.Ytediidkiedifcaa.Q
set_option linter.unusedVariables false
set_option linter.unusedSimpArgs false
open Go.RowKit Go.Proofs.YtediidkiedifcaaW.PrintWords Go.Proofs.YtediidkiedifcaaW.PrintLast Go.Proofs.YtediidkiedifcaaW.PrintMore Go.Proofs.Ytediidkiedifcaa.Inv
/-- The greatest depth among parts. -/
def deepMax (ds : List Int) (ps : List Int) : Int := ps.foldl (fun m c => mx m (ds.getD c.toNat 0)) 0
/-- How deep the first n expressions are. -/
def deepL (xs : List S31) : Nat → List Int
  | 0 => []
  | n + 1 => deepL xs n ++ [deepMax (deepL xs n) (partsF (rd_T31 xs (n : Int))) + 1]
theorem deepL_length (xs : List S31) : ∀ n, (deepL xs n).length = n
  | 0 => rfl
  | n + 1 => by rw [deepL, List.length_append, deepL_length xs n]; rfl
theorem deepMax_le {ds : List Int} {b : Int} (h : ∀ d ∈ ds, 0 ≤ d ∧ d ≤ b) (hb : 0 ≤ b) : ∀ (ps : List Int) (m : Int), 0 ≤ m → m ≤ b → 0 ≤ ps.foldl (fun m c => mx m (ds.getD c.toNat 0)) m ∧ ps.foldl (fun m c => mx m (ds.getD c.toNat 0)) m ≤ b
  | [], m, h0, h1 => ⟨h0, h1⟩
  | c :: cs, m, h0, h1 => by
    rw [List.foldl_cons]
    have hd : 0 ≤ ds.getD c.toNat 0 ∧ ds.getD c.toNat 0 ≤ b := by
      rw [List.getD_eq_getElem?_getD]
      cases e : ds[c.toNat]? with
      | none => exact ⟨by simp, by simpa using hb⟩
      | some d => exact h d (List.mem_of_getElem? e)
    exact deepMax_le h hb cs _ (by unfold mx; split <;> omega) (by unfold mx; split <;> omega)
theorem deepL_bound (xs : List S31) : ∀ n, ∀ d ∈ deepL xs n, 0 ≤ d ∧ d ≤ (n : Int)
  | 0, d, h => by simp [deepL] at h
  | n + 1, d, h => by
    rw [deepL, List.mem_append, List.mem_singleton] at h
    have hb := deepMax_le (deepL_bound xs n) (by omega) (partsF (rd_T31 xs (n : Int))) 0 (by omega) (by omega)
    rcases h with h | rfl
    · have := deepL_bound xs n d h; omega
    · unfold deepMax; omega
noncomputable def ast_Deep.f (l0 : List S45) (l1 : List S31) (a1 : Int) : Option Int :=
  (ast_right.f l0 l1 a1).bind fun b => some (if b = true then (deepL l1 (a1.toNat + 1)).getD a1.toNat 0 else 0)
/-- What stands in the row when i expressions are done, and m is the next one's so far. -/
def deepRow (xs : List S31) (n i : Nat) (m : Int) : List Int := deepL xs i ++ m :: List.replicate (n - i - 1) 0
theorem deepRow_length {xs : List S31} {n i : Nat} {m : Int} (h : i < n) : (deepRow xs n i m).length = n := by
  unfold deepRow
  rw [List.length_append, deepL_length, List.length_cons, List.length_replicate]
  omega
theorem deepRow_at {xs : List S31} {n i : Nat} {m : Int} : (deepRow xs n i m).getD i 0 = m := by
  unfold deepRow
  rw [List.getD_eq_getElem?_getD, List.getElem?_append_right (by rw [deepL_length]; exact Nat.le_refl _), deepL_length, Nat.sub_self]
  rfl
theorem deepRow_lt {xs : List S31} {n i k : Nat} {m : Int} (h : k < i) : (deepRow xs n i m).getD k 0 = (deepL xs i).getD k 0 := by
  unfold deepRow
  rw [List.getD_eq_getElem?_getD, List.getElem?_append_left (by rw [deepL_length]; exact h), ← List.getD_eq_getElem?_getD]
theorem deepRow_set {xs : List S31} {n i : Nat} {m m' : Int} : (deepRow xs n i m).set i m' = deepRow xs n i m' := by
  unfold deepRow
  rw [List.set_append_right _ _ (by rw [deepL_length]; exact Nat.le_refl _), deepL_length, Nat.sub_self]
  rfl
theorem deepRow_next {xs : List S31} {n i : Nat} (h : i + 1 < n) : deepRow xs n i (deepMax (deepL xs i) (partsF (rd_T31 xs (i : Int))) + 1) = deepRow xs n (i + 1) 0 := by
  unfold deepRow
  rw [deepL, List.append_assoc]
  congr 1
  rw [show n - i - 1 = (n - (i + 1) - 1) + 1 by omega, List.replicate_succ]
  rfl
theorem deepRow_last {xs : List S31} {i : Nat} : deepRow xs (i + 1) i (deepMax (deepL xs i) (partsF (rd_T31 xs (i : Int))) + 1) = deepL xs (i + 1) := by
  unfold deepRow
  rw [deepL, show i + 1 - i - 1 = 0 by omega]
  rfl
theorem meas_next {n y : Nat} {z : Int} (hz : z = (y : Int) + 1) (hy : y < n) : n - (intOf (.int .i64 z)).toNat < n - (intOf (.int .i64 (y : Int))).toNat := by
  subst hz
  show n - ((y : Int) + 1).toNat < n - ((y : Int)).toNat
  omega
def deepSt (xs : List S31) (n i : Nat) : List Int := deepL xs i ++ List.replicate (n - i) 0
theorem deepSt_row {xs : List S31} {n i : Nat} (h : i < n) : deepSt xs n i = deepRow xs n i 0 := by
  unfold deepSt deepRow
  rw [show n - i = (n - i - 1) + 1 by omega, List.replicate_succ]
  rfl
theorem deepSt_full {xs : List S31} {n : Nat} : deepSt xs n n = deepL xs n := by
  unfold deepSt
  rw [Nat.sub_self]
  simp
theorem deepSt_next {xs : List S31} {n i : Nat} (h : i < n) : deepRow xs n i (deepMax (deepL xs i) (partsF (rd_T31 xs (i : Int))) + 1) = deepSt xs n (i + 1) := by
  unfold deepRow deepSt
  rw [deepL, List.append_assoc, show n - i - 1 = n - (i + 1) by omega]
  rfl
def deepPart (xs : List S31) (i : Nat) (ps : List Int) (y : Nat) : Int := deepMax (deepL xs i) (ps.take y)
theorem deepPart_next {xs : List S31} {i : Nat} {ps : List Int} {y : Nat} (h : y < ps.length) : deepPart xs i ps (y + 1) = mx (deepPart xs i ps y) ((deepL xs i).getD ps[y].toNat 0) := by
  unfold deepPart deepMax
  rw [List.take_succ_eq_append_getElem h, List.foldl_append]
  rfl
theorem deepPart_le {xs : List S31} {i : Nat} {ps : List Int} {y : Nat} : 0 ≤ deepPart xs i ps y ∧ deepPart xs i ps y ≤ (i : Int) := by
  unfold deepPart deepMax
  exact deepMax_le (deepL_bound xs i) (by omega) _ 0 (by omega) (by omega)
set_option maxHeartbeats 8000000 in
set_option maxRecDepth 100000 in
theorem ast_Deep.calls (A0_0 : Option Addr) (c0_0 : Nat) (l0_0 : List S45) (A0_1 : Option Addr) (c0_1 : Nat) (l0_1 : List S31) (a1 : Int) (r : Int) (w : World) (hr0_0 : Kd.C k45 w A0_0 l0_0.length l0_0) (hc0_0 : l0_0.length ≤ c0_0) (hr0_1 : Kd.C k31 w A0_1 l0_1.length l0_1) (hc0_1 : l0_1.length ≤ c0_1) (h : ast_Deep.f l0_0 l0_1 a1 = some r) :
    Calls Try.prog 16 #[.agg #[.slice A0_0 l0_0.length c0_0, .slice A0_1 l0_1.length c0_1], .int .i64 a1] w fun e w' => e = .returned (.int .i64 r) ∧ Below w.heap.size w w' := by
  unfold ast_Deep.f at h
  obtain ⟨b, hb, h⟩ := Option.bind_eq_some_iff.1 h
  obtain rfl := Option.some.inj h
  clear h
  have hB1 : Below w.heap.size w (w.alloc (Obj.cells #[.slice A0_0 l0_0.length c0_0, .slice A0_1 l0_1.length c0_1] 25)) := (Below.refl _ _).alloc (Nat.le_refl _) _
  have hk : (w.alloc (Obj.cells #[.slice A0_0 l0_0.length c0_0, .slice A0_1 l0_1.length c0_1] 25)).heap[w.heap.size]? = some (.cells #[.slice A0_0 l0_0.length c0_0, .slice A0_1 l0_1.length c0_1] 25 (0, 0)) := blk_new w _
  have HD := Aside0.mk hr0_0
  have HDc := Aside0.mk hc0_0
  have HE := Aside0.mk hr0_1
  have HEc := Aside0.mk hc0_1
  have HRT := Aside0.mk hb
  clear hr0_0 hc0_0 hr0_1 hc0_1 hb
  go_enter Try.func16, Try.ntmps16
  go_upto_region 1 with (fail)
  obtain ⟨W, hW⟩ : ∃ W, W = (w.alloc (Obj.cells #[.slice A0_0 l0_0.length c0_0, .slice A0_1 l0_1.length c0_1] 25)) := ⟨_, rfl⟩
  rw [← hW] at hB1 hk ⊢
  clear hW
  have y0 := (blk_cell hk 0).trans rfl
  have y1 := (blk_cell hk 1).trans rfl
  have HB := Aside0.mk hB1
  have HK := Aside0.mk hk
  have KR := Aside0.mk (ast_right.calls A0_0 c0_0 l0_0 A0_1 c0_1 l0_1 a1 b W (Kd.C_below HD.out hB1) HDc.out (Kd.C_below HE.out hB1) HEc.out HRT.out)
  clear hB1 hk
  cases b with
  | false =>
    go_wp2_with (go_at_call 33; refine KR.out.mono ?_; rintro e w' ⟨rfl, hbb⟩; have HB2 := Aside0.mk hbb; clear hbb)
    go_ret
    exact ⟨rfl, HB.out.trans (HB2.out.mono HB.out.size)⟩
  | true =>
    go_upto_region 3 with (go_at_call 33; refine KR.out.mono ?_; rintro e w' ⟨rfl, hbb⟩; have HB2 := Aside0.mk (HB.out.trans (hbb.mono HB.out.size)); have HK2 := Aside0.mk (blk_below HK.out hbb); clear hbb)
    have HRr := Aside0.mk (right_true HRT.out)
    obtain ⟨p0, q0, _, _, _⟩ := HRr.out
    obtain ⟨e, rfl⟩ : ∃ e : Nat, a1 = (e : Int) := ⟨a1.toNat, by omega⟩
    have HEL := Aside0.mk (show e < l0_1.length by omega)
    have HLE := Aside0.mk HRr.out.2.2.2.1
    have hw1 : wrap64 ((e : Int) + 1) = (e : Int) + 1 := wrap_i64' (by omega) (by have := HLE.out; omega)
    clear y0 y1 KR
    go_upto_region 4 with ((with_reducible refine gate_dst (N := 15) rfl ?_); refine Kd.R_make (Kd.int .i64) (w0 := w) w.heap.size 3 rfl (N := 15) rfl 28 _ _ rfl ((e : Int) + 1) rfl rfl Try.underlying28 (.int .i64 0) 8 info3 rfl (by decide) (by omega) 0 (ok := fun _ => True) (okp := fun _ => True) rfl (fun _ hk => hk) trivial (by omega) (by have := HLE.out; have := HEL.out; omega) HB2.out HB2.out.size ?_; intro v1 w1 ho hb hg hnew; rw [show ((e : Int) + 1).toNat = e + 1 by omega] at ho; obtain ⟨gb, cb, ev, f1, f2, cells, hc⟩ := Kd.R_form ho (by rw [List.length_replicate]; omega); rw [List.length_replicate] at ev; subst ev; have HO := Aside0.mk ho; have HB3 := Aside0.mk hb; have HK3 := Aside0.mk (blk_grown HK2.out hg (by simp)); have F1 := Aside0.mk f1; have F2 := Aside0.mk f2; clear ho hb hg hnew f1 f2 hc)
    go_wp2
    go_loopw [6, 8, 18] (fun _ _ v18 wr => ∃ i : Nat, v18 = .int .i64 (i : Int) ∧ i ≤ e + 1 ∧ Aside0 (Kd.R (Kd.int .i64) 3 wr w.heap.size (fun _ => True) (.slice (some ⟨gb, 0, none⟩) (e + 1) cb) (deepSt l0_1 (e + 1) i)) ∧ Aside0 (Below w.heap.size w wr) ∧ Aside0 (wr.heap[w.heap.size]? = some (.cells #[.slice A0_0 l0_0.length c0_0, .slice A0_1 l0_1.length c0_1] 25 (0, 0)))) (fun _ _ v18 _ => e + 1 - (intOf v18).toNat)
    case atStart => exact ⟨0, rfl, by omega, ⟨by have := HO.out; unfold deepSt; simpa [deepL] using this⟩, HB3, HK3⟩
    case round =>
      clear HO HB3 HK3 HB HK HB2 HK2
      obtain ⟨i, rfl, hi, HR, HBr, HKr⟩ := hrel
      by_cases hlt : i < e + 1
      · have pi : (0 : Int) ≤ (i : Int) := by omega
        have qi : (i : Int) < (l0_1.length : Int) := by have := HEL.out; omega
        have z1 : wr.cell? ⟨w.heap.size, 1, none⟩ = some (.slice A0_1 l0_1.length c0_1) := (blk_cell HKr.out 1).trans rfl
        obtain ⟨ad, A7, c7, ea, hx0, hx1, hx2, hx3, hx4, hx5, hx6, hx7, hx8, hl7, hi7⟩ := at_T31 (Kd.C_below HE.out HBr.out) (i : Int) pi qi
        cases ea
        have hx : i < l0_1.length := by omega
        have hmem : (rd_T31 l0_1 (i : Int)) ∈ l0_1 := by
          have : rd_T31 l0_1 (i : Int) = l0_1[i] := by
            unfold rd_T31
            simp [List.getD_eq_getElem?_getD, List.getElem?_eq_getElem hx]
          rw [this]
          exact List.getElem_mem hx
        rw [Int.toNat_natCast] at hx0 hx1 hx2 hx3 hx4 hx5 hx6 hx7 hx8
        have hsz := HRr.out.2.2.2.2 _ hmem
        have KE := Aside0.mk (ast_Parts.calls 2 (rd_T31 l0_1 (i : Int)).f0 (rd_T31 l0_1 (i : Int)).f1 (rd_T31 l0_1 (i : Int)).f2 (rd_T31 l0_1 (i : Int)).f3 (rd_T31 l0_1 (i : Int)).f4 (rd_T31 l0_1 (i : Int)).f5 (rd_T31 l0_1 (i : Int)).f6 A7 c7 (rd_T31 l0_1 (i : Int)).f7 (rd_T31 l0_1 (i : Int)).f8 (partsF (rd_T31 l0_1 (i : Int))) wr hi7 hl7 (parts_f 0 (rd_T31 l0_1 (i : Int)) (by omega)))
        have HPL := Aside0.mk (show (partsF (rd_T31 l0_1 (i : Int))).length ≤ 1000000000003 by have h1 := parts_lenN (rd_T31 l0_1 (i : Int)); omega)
        have HPAR := Aside0.mk (may_par HRr.out.2.2.1 (i : Int) pi qi)
        have HNX := Aside0.mk (deepSt_next (xs := l0_1) (n := e + 1) hlt)
        obtain ⟨ps, hps⟩ : ∃ ps, partsF (rd_T31 l0_1 (i : Int)) = ps := ⟨_, rfl⟩
        rw [hps] at KE HPL HPAR HNX
        have HR0 := Aside0.mk (show Kd.R (Kd.int .i64) 3 wr w.heap.size (fun _ => True) (.slice (some ⟨gb, 0, none⟩) (e + 1) cb) (deepRow l0_1 (e + 1) i 0) by rw [← deepSt_row hlt]; exact HR.out)
        have HI := Aside0.mk hlt
        clear hx hmem hl7 hi7 hps hlt hsz HR
        replace pi := eq_true pi
        have qi2 := eq_true (show (i : Int) < (e : Int) + 1 by have := HI.out; omega)
        replace qi := eq_true qi
        obtain ⟨hs0, hhs⟩ : ∃ n, n = wr.heap.size := ⟨_, rfl⟩
        have HGB := Aside0.mk (show gb < hs0 from by rw [hhs]; obtain ⟨_, _, e_, _, h_, _⟩ := Kd.R_form HR0.out (by rw [deepRow_length HI.out]; omega); injection e_ with e1 _ _; injection e1 with e1; injection e1 with e1 _; rw [e1]; exact h_)
        have HWS := Aside0.mk (show w.heap.size < gb ∨ True from .inr trivial)
        have HHS := Aside0.mk hhs
        clear hhs
        go_wp2_with (go_at_call 10; refine KE.out.mono ?_; rintro e9 we ⟨vp, rfl, hrp, hbe⟩; obtain ⟨Ap, cp, rfl⟩ := Kd.R_slice hrp; have HRP := Aside0.mk hrp; have HBE := Aside0.mk hbe; clear hrp hbe)
        have HR1 := Aside0.mk (Kd.R_below HR0.out HBE.out)
        have HB1 := Aside0.mk (HBr.out.trans (HBE.out.mono HBr.out.size))
        have HK1 := Aside0.mk (blk_below HKr.out HBE.out)
        clear hx0 hx1 hx2 hx3 hx4 hx5 hx6 hx7 hx8 KE z1 HR0
        go_loopw [8, 28] (fun _ v28 wr2 => ∃ y : Nat, v28 = .int .i64 (y : Int) ∧ y ≤ ps.length ∧ Aside0 (Kd.R (Kd.int .i64) 3 wr2 w.heap.size (fun _ => True) (.slice (some ⟨gb, 0, none⟩) (e + 1) cb) (deepRow l0_1 (e + 1) i (deepPart l0_1 i ps y))) ∧ Aside0 (Below w.heap.size w wr2) ∧ Aside0 (wr2.heap[w.heap.size]? = some (.cells #[.slice A0_0 l0_0.length c0_0, .slice (some ad) l0_1.length c0_1] 25 (0, 0))) ∧ Aside0 (0 < ps.length → Kd.R (Kd.int .i64) 3 wr2 hs0 (fun _ => True) (.slice Ap ps.length cp) ps)) (fun _ v28 _ => ps.length - (intOf v28).toNat)
        case atStart => exact ⟨0, rfl, by omega, HR1, HB1, HK1, ⟨fun _ => by rw [HHS.out]; exact HRP.out⟩⟩
        case round =>
          clear HR1 HB1 HK1 HRP HBr HKr HBE
          obtain ⟨y, rfl, hy, HRy, HBy, HKy, HPy⟩ := hrel
          by_cases hlt : y < ps.length
          · have ky := (show (0 : Int) ≤ (y : Int) ∧ (y : Int) < (ps.length : Int) by omega)
            have hRP := HPy.out (by omega)
            obtain ⟨g9, c9, e9, hge9, _⟩ := Kd.R_form hRP (by omega)
            cases e9
            have HNG := Aside0.mk (show w.heap.size ≠ gb from fun e_ => Kd.R_ne HRy.out HKy.out (by decide) (by rw [e_]; rfl))
            have HNE := Aside0.mk (show gb ≠ g9 by have := HGB.out; omega)
            obtain ⟨q1, q2⟩ := Kd.R_celln 0 hRP (y : Int) ky.1 ky.2
            have hrd : rdOf (0 : Int) ps (y : Int) = ps[y] := by
              unfold rdOf
              simp [List.getD_eq_getElem?_getD, List.getElem?_eq_getElem hlt]
            rw [hrd, Int.toNat_natCast] at q1
            rw [Int.toNat_natCast] at q2
            have hpc := HPAR.out ps[y] (List.getElem_mem hlt)
            have HNY := Aside0.mk (deepPart_next (xs := l0_1) (i := i) hlt)
            obtain ⟨c, hc, hcn⟩ : ∃ c : Nat, ps[y] = (c : Int) ∧ c < i := ⟨ps[y].toNat, by omega, by omega⟩
            rw [hc, Int.toNat_natCast] at HNY
            rw [hc] at q1
            have hi := HI.out
            obtain ⟨r1, r2⟩ := Kd.R_celln 0 HRy.out (i : Int) (by omega) (by omega)
            obtain ⟨s1, s2⟩ := Kd.R_celln 0 HRy.out (c : Int) (by omega) (by omega)
            have er : rdOf (0 : Int) (deepRow l0_1 (e + 1) i (deepPart l0_1 i ps y)) (i : Int) = deepPart l0_1 i ps y := by unfold rdOf; rw [Int.toNat_natCast, deepRow_at]
            have es : rdOf (0 : Int) (deepRow l0_1 (e + 1) i (deepPart l0_1 i ps y)) (c : Int) = (deepL l0_1 i).getD c 0 := by unfold rdOf; rw [Int.toNat_natCast, deepRow_lt hcn]
            rw [er, Int.toNat_natCast] at r1
            rw [es, Int.toNat_natCast] at s1
            rw [Int.toNat_natCast] at r2 s2
            have HPUT := Aside0.mk (Kd.R_putn HRy.out (i : Int) (deepPart l0_1 i ps (y + 1)))
            have HNEW := HPUT.out
            rw [Int.toNat_natCast, deepRow_set] at HNEW
            obtain ⟨m, hm⟩ : ∃ m, deepPart l0_1 i ps y = m := ⟨_, rfl⟩
            obtain ⟨d, hd⟩ : ∃ d, (deepL l0_1 i).getD c 0 = d := ⟨_, rfl⟩
            rw [hm] at r1 HNY
            rw [hd] at s1 HNY
            have HN9 := Aside0.mk HNEW
            have HY := Aside0.mk (show y < ps.length from hlt)
            have p0 := eq_true ky.1
            have q0 := eq_true ky.2
            have p1 := eq_true (show (0 : Int) ≤ (c : Int) by omega)
            have q1' := eq_true (show (c : Int) < (e : Int) + 1 by omega)
            clear HRy HPUT HNEW hpc er es hrd hm hd hc hlt hRP
            go_upto_region 10 with (fail)
            --REGION10
            refine wp_region_inv (by kernel_rfl) (by kernel_rfl) (fun vs => { tmps := List.toArray ((Value.agg #[Value.slice A0_0 l0_0.length c0_0, Value.slice (some ad) l0_1.length c0_1]) :: (Value.int IntKind.i64 ↑e) :: (Value.pointer (some { block := w.heap.size, off := 0 })) :: (undef) :: (Value.int IntKind.i64 0) :: (Value.slice (some { block := gb, off := 0 }) (e + 1) cb) :: (Value.int IntKind.i64 ↑i) :: (undef) :: (Value.int IntKind.i64 ↑c) :: (Value.agg #[Value.slice A0_0 l0_0.length c0_0, Value.slice (some ad) l0_1.length c0_1]) :: (Value.int IntKind.i64 ↑e) :: (Value.bool true) :: (Value.bool false) :: (Value.int IntKind.i64 ↑e) :: (Value.int IntKind.i64 (↑e + 1)) :: (Value.slice (some { block := gb, off := 0 }) (e + 1) cb) :: (Value.slice (some { block := gb, off := 0 }) (e + 1) cb) :: (Value.int IntKind.i64 (↑e + 1)) :: (Value.int IntKind.i64 ↑i) :: (Value.bool true) :: (Value.int IntKind.i64 ↑i) :: (Value.pointer (some { block := w.heap.size, off := 1 })) :: (Value.slice (some ad) l0_1.length c0_1) :: (Value.int IntKind.i64 ↑i) :: (Value.pointer (some (ad.add (i * 9)))) :: (Value.agg #[Value.int IntKind.i64 (rd_T31 l0_1 ↑i).f0, Value.int IntKind.i64 (rd_T31 l0_1 ↑i).f1, Value.int IntKind.i64 (rd_T31 l0_1 ↑i).f2, Value.int IntKind.i64 (rd_T31 l0_1 ↑i).f3, Value.string (rd_T31 l0_1 ↑i).f4, Value.string (rd_T31 l0_1 ↑i).f5, Value.int IntKind.i64 (rd_T31 l0_1 ↑i).f6, Value.slice A7 (rd_T31 l0_1 ↑i).f7.length c7, Value.int IntKind.i64 (rd_T31 l0_1 ↑i).f8]) :: (Value.slice (some { block := g9, off := 0 }) ps.length cp) :: (Value.int IntKind.i64 ↑ps.length) :: (Value.int IntKind.i64 ↑y) :: (Value.bool true) :: (Value.pointer (some { block := g9, off := y })) :: (Value.int IntKind.i64 ↑c) :: (vs 0) :: (vs 1) :: (vs 2) :: (vs 3) :: (vs 4) :: (vs 5) :: (vs 6) :: (vs 7) :: (vs 8) :: (vs 9) :: (vs 10) :: (vs 11) :: (u44) :: (u45) :: (u46) :: (u47) :: (u48) :: (u49) :: (u50) :: (u51) :: (undef) :: (undef) :: (undef) :: (undef) :: []), defers := [] }) (fun l vs W => IW (wr).drew ((wr.drew).setCell ⟨gb, i, none⟩ (.int .i64 (if m < d then d else m))) 12 (fun (jj : Nat) (u : Value) => match jj with | 0 => (u = .slice (some ⟨gb, 0, none⟩) (e + 1) cb : Prop) | 1 => (u = .int .i64 (i : Int) : Prop) | 2 => (u = .slice (some ⟨gb, 0, none⟩) (e + 1) cb : Prop) | 3 => (u = .int .i64 (i : Int) : Prop) | 4 => (u = .pointer (some ⟨gb, i, none⟩) : Prop) | 5 => (u = .int .i64 m : Prop) | 6 => (u = .slice (some ⟨gb, 0, none⟩) (e + 1) cb : Prop) | 7 => (u = .int .i64 (c : Int) : Prop) | 8 => (u = .pointer (some ⟨gb, c, none⟩) : Prop) | 9 => (u = .int .i64 d : Prop) | 10 => (u = .int .i64 (if m < d then d else m) : Prop) | 11 => (u = .pointer (some ⟨gb, i, none⟩) : Prop) | 12 => (True : Prop) | _ => True) l vs W) ?stepD ?finD (fun io => match io with | 0 => u32 | 1 => u33 | 2 => u34 | 3 => u35 | 4 => u36 | 5 => u37 | 6 => u38 | 7 => u39 | 8 => u40 | 9 => u41 | 10 => u42 | 11 => u43 | _ => undef) rfl ?startD
            case startD => exact ⟨fun _ => rfl, nofun, nofun⟩
            case stepD =>
              intro io oo ho lo vs W h hl hd hcl
              have hi : io < 13 := (Array.getElem?_eq_some_iff.1 ho).1
              rcases (by omega : io = 0 ∨ io = 1 ∨ io = 2 ∨ io = 3 ∨ io = 4 ∨ io = 5 ∨ io = 6 ∨ io = 7 ∨ io = 8 ∨ io = 9 ∨ io = 10 ∨ io = 11 ∨ io = 12) with rfl | rfl | rfl | rfl | rfl | rfl | rfl | rfl | rfl | rfl | rfl | rfl | rfl
              · refine wpOp_step ho (fun K' hK => ?_)
                obtain rfl := (Option.some.inj ho).symm
                have HK' := Aside0.mk hK
                clear hK ho
                obtain rfl := h.still hl hcl (by kernel_rfl)
                rw [if_pos (by rfl)]
                go_simp
                exact HK'.out _ _ ⟨_, by first | rfl | simp [upd, *], h.plain 0 (by decide) _ rfl⟩
              · refine wpOp_step ho (fun K' hK => ?_)
                obtain rfl := (Option.some.inj ho).symm
                have HK' := Aside0.mk hK
                clear hK ho
                obtain rfl := h.still hl hcl (by kernel_rfl)
                rw [if_pos (by rfl)]
                go_simp
                exact HK'.out _ _ ⟨_, by first | rfl | simp [upd, *], h.plain 1 (by decide) _ rfl⟩
              · refine wpOp_step ho (fun K' hK => ?_)
                obtain rfl := (Option.some.inj ho).symm
                have HK' := Aside0.mk hK
                clear hK ho
                obtain rfl := h.still hl hcl (by kernel_rfl)
                rw [if_pos (by rfl)]
                go_simp
                exact HK'.out _ _ ⟨_, by first | rfl | simp [upd, *], h.plain 2 (by decide) _ rfl⟩
              · refine wpOp_step ho (fun K' hK => ?_)
                obtain rfl := (Option.some.inj ho).symm
                have HK' := Aside0.mk hK
                clear hK ho
                obtain rfl := h.still hl hcl (by kernel_rfl)
                rw [if_pos (by rfl)]
                go_simp
                exact HK'.out _ _ ⟨_, by first | rfl | simp [upd, *], h.plain 3 (by decide) _ rfl⟩
              · refine wpOp_step ho (fun K' hK => ?_)
                obtain rfl := (Option.some.inj ho).symm
                have HK' := Aside0.mk hK
                clear hK ho
                obtain rfl := h.still hl hcl (by kernel_rfl)
                have t_2 := hd 2 (by kernel_rfl)
                have v2 : vs 2 = .slice (some ⟨gb, 0, none⟩) (e + 1) cb := h.a 2 t_2
                have t_3 := hd 3 (by kernel_rfl)
                have v3 : vs 3 = .int .i64 (i : Int) := h.a 3 t_3
                rw [if_pos (by rfl)]
                go_simp
                exact HK'.out _ _ ⟨_, by first | rfl | simp [upd, *], h.plain 4 (by decide) _ rfl⟩
              · refine wpOp_step ho (fun K' hK => ?_)
                obtain rfl := (Option.some.inj ho).symm
                have HK' := Aside0.mk hK
                clear hK ho
                obtain rfl := h.still hl hcl (by kernel_rfl)
                have t_4 := hd 4 (by kernel_rfl)
                have v4 : vs 4 = .pointer (some ⟨gb, i, none⟩) := h.a 4 t_4
                rw [if_pos (by rfl)]
                have r1' : (wr.drew).cell? ⟨gb, i, none⟩ = some (.int .i64 m) := r1
                go_simp
                exact HK'.out _ _ ⟨_, by first | rfl | simp [upd, *], h.plain 5 (by decide) _ rfl⟩
              · refine wpOp_step ho (fun K' hK => ?_)
                obtain rfl := (Option.some.inj ho).symm
                have HK' := Aside0.mk hK
                clear hK ho
                obtain rfl := h.still hl hcl (by kernel_rfl)
                rw [if_pos (by rfl)]
                go_simp
                exact HK'.out _ _ ⟨_, by first | rfl | simp [upd, *], h.plain 6 (by decide) _ rfl⟩
              · refine wpOp_step ho (fun K' hK => ?_)
                obtain rfl := (Option.some.inj ho).symm
                have HK' := Aside0.mk hK
                clear hK ho
                obtain rfl := h.still hl hcl (by kernel_rfl)
                rw [if_pos (by rfl)]
                go_simp
                exact HK'.out _ _ ⟨_, by first | rfl | simp [upd, *], h.plain 7 (by decide) _ rfl⟩
              · refine wpOp_step ho (fun K' hK => ?_)
                obtain rfl := (Option.some.inj ho).symm
                have HK' := Aside0.mk hK
                clear hK ho
                obtain rfl := h.still hl hcl (by kernel_rfl)
                have t_6 := hd 6 (by kernel_rfl)
                have v6 : vs 6 = .slice (some ⟨gb, 0, none⟩) (e + 1) cb := h.a 6 t_6
                have t_7 := hd 7 (by kernel_rfl)
                have v7 : vs 7 = .int .i64 (c : Int) := h.a 7 t_7
                rw [if_pos (by rfl)]
                go_simp
                exact HK'.out _ _ ⟨_, by first | rfl | simp [upd, *], h.plain 8 (by decide) _ rfl⟩
              · refine wpOp_step ho (fun K' hK => ?_)
                obtain rfl := (Option.some.inj ho).symm
                have HK' := Aside0.mk hK
                clear hK ho
                obtain rfl := h.still hl hcl (by kernel_rfl)
                have t_8 := hd 8 (by kernel_rfl)
                have v8 : vs 8 = .pointer (some ⟨gb, c, none⟩) := h.a 8 t_8
                rw [if_pos (by rfl)]
                have s1' : (wr.drew).cell? ⟨gb, c, none⟩ = some (.int .i64 d) := s1
                go_simp
                exact HK'.out _ _ ⟨_, by first | rfl | simp [upd, *], h.plain 9 (by decide) _ rfl⟩
              · refine wpOp_step ho (fun K' hK => ?_)
                obtain rfl := (Option.some.inj ho).symm
                have HK' := Aside0.mk hK
                clear hK ho
                obtain rfl := h.still hl hcl (by kernel_rfl)
                have t_5 := hd 5 (by kernel_rfl)
                have v5 : vs 5 = .int .i64 m := h.a 5 t_5
                have t_9 := hd 9 (by kernel_rfl)
                have v9 : vs 9 = .int .i64 d := h.a 9 t_9
                rw [if_pos (by rfl)]
                go_simp
                exact HK'.out _ _ ⟨_, by first | rfl | simp [upd, *], h.plain 10 (by decide) _ rfl⟩
              · refine wpOp_step ho (fun K' hK => ?_)
                obtain rfl := (Option.some.inj ho).symm
                have HK' := Aside0.mk hK
                clear hK ho
                obtain rfl := h.still hl hcl (by kernel_rfl)
                have t_0 := hd 0 (by kernel_rfl)
                have v0 : vs 0 = .slice (some ⟨gb, 0, none⟩) (e + 1) cb := h.a 0 t_0
                have t_1 := hd 1 (by kernel_rfl)
                have v1 : vs 1 = .int .i64 (i : Int) := h.a 1 t_1
                rw [if_pos (by rfl)]
                go_simp
                exact HK'.out _ _ ⟨_, by first | rfl | simp [upd, *], h.plain 11 (by decide) _ rfl⟩
              · refine wpOp_step ho (fun K' hK => ?_)
                obtain rfl := (Option.some.inj ho).symm
                have HK' := Aside0.mk hK
                clear hK ho
                obtain rfl := h.stillS hl
                have t_11 := hd 11 (by kernel_rfl)
                have v11 : vs 11 = .pointer (some ⟨gb, i, none⟩) := h.a 11 t_11
                have t_10 := hd 10 (by kernel_rfl)
                have v10 : vs 10 = .int .i64 (if m < d then d else m) := h.a 10 t_10
                rw [if_pos (by rfl)]
                have r2' : (wr.drew).frozen? ⟨gb, i, none⟩ = false := r2
                have r1' : (wr.drew).cell? ⟨gb, i, none⟩ = some (.int .i64 m) := r1
                go_simp
                exact HK'.out _ _ ⟨undef, by first | rfl | simp [upd, *], h.store undef trivial rfl⟩
            case finD =>
              intro lo vs W hall h
              obtain rfl := h.e (hall 12 (by decide))
              have v12 : True := trivial
              clear h hall r1 r2 s1 s2 q1 q2
              obtain ⟨V9, hV⟩ : ∃ V9, V9 = (wr.drew).setCell ⟨gb, i, none⟩ (.int .i64 (if m < d then d else m)) := ⟨_, rfl⟩
              have hdp : deepPart l0_1 i ps (y + 1) = if m < d then d else m := HNY.out
              have hR9 : Kd.R (Kd.int .i64) 3 V9 w.heap.size (fun _ => True) (.slice (some ⟨gb, 0, none⟩) (e + 1) cb) (deepRow l0_1 (e + 1) i (deepPart l0_1 i ps (y + 1))) := by rw [hV, ← hdp]; exact HN9.out
              have hK9 : V9.heap[w.heap.size]? = some (.cells #[.slice A0_0 l0_0.length c0_0, .slice (some ad) l0_1.length c0_1] 25 (0, 0)) := by rw [hV]; exact blk_far (blk_drew HKy.out) HNG.out _
              have hB9 : Below w.heap.size w V9 := by rw [hV]; exact (below_drew1 HBy.out).setCell (p := ⟨gb, i, none⟩) F1.out _
              have hP9 : 0 < ps.length → Kd.R (Kd.int .i64) 3 V9 hs0 (fun _ => True) (.slice (some ⟨g9, 0, none⟩) ps.length cp) ps := fun hp => by rw [hV]; exact Kd.R_mono (Kd.R_far (p := ⟨gb, i, none⟩) (Kd.R_tight rfl (Kd.R_drew (HPy.out hp))) (fun k hk e => HNE.out (by have h1 : k = gb := e; have h2 : k = g9 := (by simpa [Value.ownBlock] using hk); omega)) _) (fun _ _ => trivial)
              rw [← hV]
              clear hV
              have HR8 := Aside0.mk hR9
              have HK8 := Aside0.mk hK9
              have HB8 := Aside0.mk hB9
              have HP8 := Aside0.mk hP9
              clear hR9 hK9 hB9 hP9
              go_wp2
              have h1 := HY.out
              have h2 := HPL.out
              refine ⟨⟨y + 1, by rw [wrap_i64' (by omega) (by omega), ← Int.natCast_succ], HY.out, HR8, HB8, HK8, HP8⟩, ?_⟩
              have hw := wrap_i64' (n := (y : Int) + 1) (by omega) (by omega)
              exact meas_next hw h1
            --END10
          · have hyl : y = ps.length := by omega
            subst hyl
            have hi := HI.out
            obtain ⟨r1, r2⟩ := Kd.R_celln 0 HRy.out (i : Int) (by omega) (by omega)
            have er : rdOf (0 : Int) (deepRow l0_1 (e + 1) i (deepPart l0_1 i ps ps.length)) (i : Int) = deepPart l0_1 i ps ps.length := by unfold rdOf; rw [Int.toNat_natCast, deepRow_at]
            rw [er, Int.toNat_natCast] at r1
            rw [Int.toNat_natCast] at r2
            have hdm : deepPart l0_1 i ps ps.length = deepMax (deepL l0_1 i) ps := by unfold deepPart; rw [List.take_length]
            have hle := deepPart_le (xs := l0_1) (i := i) (ps := ps) (y := ps.length)
            have HNEW := Kd.R_putn HRy.out (i : Int) (deepMax (deepL l0_1 i) ps + 1)
            rw [Int.toNat_natCast, deepRow_set, HNX.out] at HNEW
            have HNG := Aside0.mk (show w.heap.size ≠ gb from fun e_ => Kd.R_ne HRy.out HKy.out (by decide) (by rw [e_]; rfl))
            rw [hdm] at r1 hle
            have hw9 : wrap64 (deepMax (deepL l0_1 i) ps + 1) = deepMax (deepL l0_1 i) ps + 1 := wrap_i64' (by omega) (by have := HEL.out; have := HLE.out; omega)
            obtain ⟨m, hm⟩ : ∃ m, deepMax (deepL l0_1 i) ps = m := ⟨_, rfl⟩
            rw [hm] at r1 HNEW hw9
            have HN9 := Aside0.mk HNEW
            have HW9 := Aside0.mk hw9
            clear HRy HNEW er hm hdm hle hw9 hlt hy
            go_wp2
            have h1 := HI.out
            refine ⟨⟨i + 1, by rw [← Int.natCast_succ], h1, ?_, ?_, ?_⟩, ?_⟩
            · rw [HW9.out]; exact ⟨HN9.out⟩
            · exact ⟨HBy.out.setCell (p := ⟨gb, i, none⟩) F1.out _⟩
            · exact ⟨blk_far HKy.out HNG.out _⟩
            · exact meas_next rfl h1
      · have hie : i = e + 1 := by omega
        subst hie
        have hR := HR.out
        rw [deepSt_full] at hR
        obtain ⟨q1, q2⟩ := Kd.R_celln 0 hR (e : Int) (by omega) (by omega)
        rw [Int.toNat_natCast] at q1 q2
        have hrd : rdOf (0 : Int) (deepL l0_1 (e + 1)) (e : Int) = (deepL l0_1 (e + 1)).getD e 0 := by unfold rdOf; rw [Int.toNat_natCast]
        rw [hrd] at q1
        have pe := eq_true (show (0 : Int) ≤ (e : Int) by omega)
        have qe := eq_true (show (e : Int) < ((e + 1 : Nat) : Int) by omega)
        have qe2 := eq_true (show (e : Int) < (e : Int) + 1 by omega)
        clear hR hrd
        go_wp2
        go_ret
        exact ⟨rfl, HBr.out⟩
end Go.Proofs.Ytediidkiedifcaa.Q
