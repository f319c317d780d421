/- cross.Find: the walk. -/
import Derived.Test.YtgalkkolbobmbaaGreatVClone
import Derived.Test.YtgalkkolbobmbaaGreatPureHeunEnds

namespace Go.Proofs.YtgalkkolbobmbaaGreat.V
open Go.RowKit Go.Proofs.YtgalkkolbobmbaaGreatW.PrintWords Go.Proofs.YtgalkkolbobmbaaGreatW.PrintLast Go.Proofs.YtgalkkolbobmbaaGreatW.PrintMore
set_option linter.unusedVariables false
set_option linter.unusedSimpArgs false
theorem seven_allocs (w : World) (o0 o1 o2 o3 o4 o5 o6 : Obj) (W : World) (h : ((((((w.alloc o0).alloc o1).alloc o2).alloc o3).alloc o4).alloc o5).alloc o6 = W) :
 W.heap[w.heap.size]? = some o0 ∧ W.heap[w.heap.size + 1]? = some o1 ∧ W.heap[w.heap.size + 1 + 1]? = some o2 ∧ W.heap[w.heap.size + 1 + 1 + 1]? = some o3 ∧ W.heap[w.heap.size + 1 + 1 + 1 + 1]? = some o4 ∧ W.heap[w.heap.size + 1 + 1 + 1 + 1 + 1]? = some o5 ∧ W.heap[w.heap.size + 1 + 1 + 1 + 1 + 1 + 1]? = some o6 ∧ Below w.heap.size w W ∧ W.heap.size = w.heap.size + 1 + 1 + 1 + 1 + 1 + 1 + 1 := by
 subst h
 have g : ∀ (w : World) (o : Obj) (k : Nat) (x : Obj), w.heap[k]? = some x → (w.alloc o).heap[k]? = some x := fun w o k x hx => (heap_alloc_old w o (lt_of_block hx)).trans hx
 have s : ∀ (w : World) (o : Obj), (w.alloc o).heap.size = w.heap.size + 1 := fun w o => by simp
 have z : ∀ (w : World) (o : Obj) (k : Nat), w.heap.size = k → (w.alloc o).heap[k]? = some o := fun w o k hk => by subst hk; exact heap_alloc_new w o
 refine ⟨?_, ?_, ?_, ?_, ?_, ?_, ?_, ?_, ?_⟩
 · exact g _ _ _ _ (g _ _ _ _ (g _ _ _ _ (g _ _ _ _ (g _ _ _ _ (g _ _ _ _ (z _ _ _ rfl))))))
 · exact g _ _ _ _ (g _ _ _ _ (g _ _ _ _ (g _ _ _ _ (g _ _ _ _ (z _ _ _ (by simp only [s]))))))
 · exact g _ _ _ _ (g _ _ _ _ (g _ _ _ _ (g _ _ _ _ (z _ _ _ (by simp only [s])))))
 · exact g _ _ _ _ (g _ _ _ _ (g _ _ _ _ (z _ _ _ (by simp only [s]))))
 · exact g _ _ _ _ (g _ _ _ _ (z _ _ _ (by simp only [s])))
 · exact g _ _ _ _ (z _ _ _ (by simp only [s]))
 · exact z _ _ _ (by simp only [s])
 · repeat (first | exact Below.refl _ _ | apply below_alloc)
 · simp only [s]
theorem NwB.below {b : Nat} {w w' : World} {A : Option Addr} {l : List Bool} (h : NwB b w A l) (hb : Below w.heap.size w w') : NwB b w' A l := h.chg (Chg.of_below hb (fun _ => False)) (fun _ hi => hi.elim)
theorem Nw.below {b : Nat} {w w' : World} {A : Option Addr} {l : List Int} (h : Nw b w A l) (hb : Below w.heap.size w w') : Nw b w' A l := h.chg (Chg.of_below hb (fun _ => False)) (fun _ hi => hi.elim)
theorem chg_three (w : World) (B : Nat) (x y z : Value) : Chg (fun i => i = B) w (((w.setCell ⟨B, 0, none⟩ x).setCell ⟨B, 1, none⟩ y).setCell ⟨B, 2, none⟩ z) :=
 Chg.setCell (S := fun i => i = B) (p := ⟨B, 2, none⟩) (Chg.setCell (S := fun i => i = B) (p := ⟨B, 1, none⟩) (Chg.setCell (S := fun i => i = B) (p := ⟨B, 0, none⟩) (Chg.refl _ w) (.inl rfl) _) (.inl rfl) _) (.inl rfl) _
theorem row_three {w : World} {B t : Nat} {a b c : Value} (h : w.heap[B]? = some (.cells #[a, b, c] t (0, 0))) (x y z : Value) : (((w.setCell ⟨B, 0, none⟩ x).setCell ⟨B, 1, none⟩ y).setCell ⟨B, 2, none⟩ z).heap[B]? = some (.cells #[x, y, z] t (0, 0)) :=
 heap_setCell_same _ B 2 _ t _ (heap_setCell_same _ B 1 _ t _ (heap_setCell_same _ B 0 _ t _ h))
def hiOf (w : World) (B : Nat) : Int := match w.cell? ⟨B, 0, none⟩ with | some (.int _ h) => h | _ => 0
theorem find_dn (o : S26) (inn mem a b : List Int) (K : Nat) (dn dn' : Int) : (findW o inn mem a b K dn).1 = (findW o inn mem a b K dn').1 ∧ (findW o inn mem a b K dn).2.1 = (findW o inn mem a b K dn').2.1 := by
 unfold findW
 split
 · exact (bis_dn _ _ _ _ _ _ _ _ _ _ _).2 _
 · exact ⟨rfl, rfl⟩
/-- What stands in Find's loop. -/
structure FL (w0 : World) (n Bm Ba Bb Bk B6 B7 B8 B15 B16 : Nat) (o : S26) (Aa Ab Ai Am Az : Option Addr) (ca cb ci cm cz : Nat) (a b inn mem : List Int) (k : Int) (B12 B20 : Nat) (Ar As : Option Addr) (cr cs : Nat) (part fl dn : Int) (w : World) : Prop where
 F : FW w0 n Bm Ba Bb Bk B6 B7 B8 B15 B16 o Aa Ab Ai Am Az ca cb ci cm cz a b inn mem (zeroR o inn a mem).put k fl dn w
 p12 : w.heap[B12]? = some (.cells #[.int .i64 0, .slice none 0 0, .slice none 0 0] 72 (0, 0))
 p20 : w.heap[B20]? = some (.cells #[.int .i64 part, .slice Ar (rsAt o inn mem a b k part).length cr, .slice As (betL a b part k).length cs] 72 (0, 0))
 nr : NwB (B16 + 1) w Ar (rsAt o inn mem a b k part)
 lr : (rsAt o inn mem a b k part).length ≤ cr
 ns : Nw (B16 + 1) w As (betL a b part k)
 ls : (betL a b part k).length ≤ cs
 C : Chg (fun i => i = Bm) w0 w
 g20 : B12 < B20
 g12 : w0.heap.size ≤ B12
 g16 : B12 < B16
 n12 : B12 ≠ B20
theorem FL.below {w0 : World} {n Bm Ba Bb Bk B6 B7 B8 B15 B16 : Nat} {o : S26} {Aa Ab Ai Am Az : Option Addr} {ca cb ci cm cz : Nat} {a b inn mem : List Int} {k : Int} {B12 B20 : Nat} {Ar As : Option Addr} {cr cs : Nat} {part fl dn : Int} {w w' : World}
 (h : FL w0 n Bm Ba Bb Bk B6 B7 B8 B15 B16 o Aa Ab Ai Am Az ca cb ci cm cz a b inn mem k B12 B20 Ar As cr cs part fl dn w) (hb : Below w.heap.size w w') : FL w0 n Bm Ba Bb Bk B6 B7 B8 B15 B16 o Aa Ab Ai Am Az ca cb ci cm cz a b inn mem k B12 B20 Ar As cr cs part fl dn w' :=
 ⟨h.F.below hb, (hb.block _ (lt_of_block h.p12)).trans h.p12, (hb.block _ (lt_of_block h.p20)).trans h.p20, h.nr.below hb, h.lr, h.ns.below hb, h.ls, h.C.below hb, h.g20, h.g12, h.g16, h.n12⟩
theorem wrap_pow {K : Nat} (hK : K ≤ 32) : wrap64 (2 ^ K) = fHigh K := by
 have h := Q.pow32 hK
 have e : ((2 : Int) ^ K) = ((2 ^ K : Nat) : Int) := by rw [Int.natCast_pow]; rfl
 unfold fHigh
 rw [e]
 obtain ⟨q, hq⟩ : ∃ q, 2 ^ K = q := ⟨_, rfl⟩
 rw [hq] at h ⊢
 exact wrap_in (by omega) (by omega)
def fd9_T : Bool × List (List Nat × List Nat) := (true, [([], []), ([0], [0]), ([], []), ([2], [2]), ([], []), ([4], [4]), ([1, 3, 5], [1, 3, 5]), ([], []), ([6, 5, 0, 1, 2, 3, 4, 5, 6], [6]), ([7, 8, 0, 1, 2, 3, 4, 5, 6, 7, 8], [7]), ([9, 0, 1, 2, 3, 4, 5, 6, 7, 8, 9], [])])
def fd9_B : List Nat := [0, 1, 0, 4, 0, 16, 63, 0, 127, 511, 1023]
theorem fd9_tab : rtab .any (opsOf Tryz.f53 9) = fd9_T := by kernel_rfl
theorem fd9_bits : waitsOk fd9_T.2 fd9_B = true := by kernel_rfl
def fd15_T : Bool × List (List Nat × List Nat) := (true, [([], []), ([], []), ([0, 0], [0]), ([1, 2, 0, 1, 2], [1]), ([3, 0, 1, 2, 3], [])])
def fd15_B : List Nat := [0, 0, 1, 7, 15]
theorem fd15_tab : rtab .any (opsOf Tryz.f53 15) = fd15_T := by kernel_rfl
theorem fd15_bits : waitsOk fd15_T.2 fd15_B = true := by kernel_rfl
set_option maxHeartbeats 4000000 in
set_option maxRecDepth 100000 in
theorem find_any {n Bm : Nat} {o : S26} {dn : Int} {w : World} (h : MachO n Bm o dn w) (G : Good o) (Ai Am Aa Ab : Option Addr) (ci cm ca cb : Nat) (inn mem a b : List Int) (hi : LI Bm w Ai inn) (hm : LI Bm w Am mem) (ha : LI Bm w Aa a) (hb : LI Bm w Ab b) (hca : a.length ≤ ca) (hcb : b.length ≤ cb)
 (kn : Nat) (hkn : kn ≤ 32) (hf : Fits o inn a mem) (hl : a.length = b.length) (aa : AllIn a) (ab : AllIn b) (ai : AllIn inn) (am : AllIn mem) (hd0 : 0 ≤ dn) (hd1 : dn ≤ 10000000000) :
 Calls Tryz.prog 53 #[.pointer (some ⟨Bm, 0, none⟩), .slice Ai inn.length ci, .slice Am mem.length cm, .slice Aa a.length ca, .slice Ab b.length cb, .int .i64 (kn : Int)] w
  fun e w' => ∃ (Ar : Option Addr) (cr : Nat) (As : Option Addr) (cs : Nat), e = .returned (.tuple #[.agg #[.int .i64 (findW o inn mem a b kn dn).1, .slice Ar (rsAt o inn mem a b kn (findW o inn mem a b kn dn).1).length cr, .slice As (findS o inn mem a b kn).length cs], .int .i64 (findW o inn mem a b kn dn).2.1, .int .i64 0]) ∧
   (rsAt o inn mem a b kn (findW o inn mem a b kn dn).1).length ≤ cr ∧ NwB w.heap.size w' Ar (rsAt o inn mem a b kn (findW o inn mem a b kn dn).1) ∧ (findS o inn mem a b kn).length ≤ cs ∧ Nw w.heap.size w' As (findS o inn mem a b kn) ∧ MachO n Bm o (findW o inn mem a b kn dn).2.2 w' ∧ Chg (fun i => i = Bm) w w' := by
 have hbd := right_bounds G.right
 have hBlt := h.blk
 have HI := Aside0.mk (And.intro hi hm)
 have HA := Aside0.mk (And.intro ha hb)
 have HIN := Aside0.mk (And.intro aa (And.intro ab (And.intro ai am)))
 have HF := Aside0.mk (And.intro hf hl)
 have H := Aside0.mk h
 clear hi hm ha hb aa ab ai am hf hl h
 go_enter Tryz.func53, Tryz.ntmps53
 go_wp2_with fail
 obtain ⟨w1, hw1⟩ : ∃ z, (((((((w.alloc (Obj.cells #[.pointer (some ⟨Bm, 0, none⟩)] 31)).alloc (Obj.cells #[.slice Ai inn.length ci] 23)).alloc (Obj.cells #[.slice Am mem.length cm] 23)).alloc (Obj.cells #[.slice Aa a.length ca] 23)).alloc (Obj.cells #[.slice Ab b.length cb] 23)).alloc (Obj.cells #[.int .i64 (kn : Int)] 3)).alloc (Obj.cells #[.int .i64 0, .slice none 0 0, .slice none 0 0] 72)) = z := ⟨_, rfl⟩
 rw [hw1]
 obtain ⟨q0, q1, q2, q3, q4, q5, q6, hb1, hz1⟩ := seven_allocs w _ _ _ _ _ _ _ _ hw1
 clear hw1
 have BI := Aside0.mk (And.intro (HI.out.1.below hb1) (HI.out.2.below hb1))
 have BA := Aside0.mk (And.intro (HA.out.1.below hb1) (HA.out.2.below hb1))
 have M1 := Aside0.mk ((MachAt.start H.out).below hb1)
 have Qb := Aside0.mk (And.intro q0 (And.intro q1 (And.intro q2 (And.intro q3 (And.intro q4 (And.intro q5 q6))))))
 have B1 := Aside0.mk hb1
 clear q0 q1 q2 q3 q4 q5 q6 hb1
 refine (zero_at M1.out G Ai Aa Am ci ca cm inn a mem BI.out.1 BA.out.1 BI.out.2 HF.out.1 HIN.out.2.2.1 HIN.out.1 HIN.out.2.2.2 hd0 (by omega)).mono ?_
 rintro e w2 ⟨v2, rfl, hR2, hM2, hc2⟩
 obtain ⟨A2, c2, rfl, hl2, hN2⟩ := Nw.of_R' hR2
 have M2 := Aside0.mk hM2
 have N2 := Aside0.mk (And.intro hN2 hl2)
 have C2 := Aside0.mk hc2
 have Q2 := Aside0.mk (show ∀ i x, i ≠ Bm → w1.heap[i]? = some x → w2.heap[i]? = some x from fun i x hi hx => (hc2.block _ (lt_of_block hx) hi).trans hx)
 have hz2 : w1.heap.size ≤ w2.heap.size := hc2.size
 clear hR2 hM2 hc2 hN2 hl2
 have hk0 : decide ((kn : Int) < 0) = false := decide_eq_false (by omega)
 have hk1 : decide ((kn : Int) > 32) = false := decide_eq_false (by omega)
 have hne : decide ((a.length : Int) = (b.length : Int)) = true := decide_eq_true (by rw [HF.out.2])
 have hnb : ((a.length : Int) != (b.length : Int)) = false := by rw [HF.out.2]; simp
 have hsh : shl .i64 1 (kn : Int) = fHigh kn := Pure.pow_tab ⟨kn, by omega⟩
 have g3 : ∀ x y, ((w2.alloc x).alloc y).cell? ⟨w.heap.size + 1 + 1 + 1, 0, none⟩ = some (.slice Aa a.length ca) := fun x y => (blk_cell (blk_alloc (blk_alloc (Q2.out _ _ (by omega) Qb.out.2.2.2.1) x) y) 0).trans rfl
 have g4 : ∀ x y, ((w2.alloc x).alloc y).cell? ⟨w.heap.size + 1 + 1 + 1 + 1, 0, none⟩ = some (.slice Ab b.length cb) := fun x y => (blk_cell (blk_alloc (blk_alloc (Q2.out _ _ (by omega) Qb.out.2.2.2.2.1) x) y) 0).trans rfl
 have g5 : ∀ x y, ((w2.alloc x).alloc y).cell? ⟨w.heap.size + 1 + 1 + 1 + 1 + 1, 0, none⟩ = some (.int .i64 (kn : Int)) := fun x y => (blk_cell (blk_alloc (blk_alloc (Q2.out _ _ (by omega) Qb.out.2.2.2.2.2.1) x) y) 0).trans rfl
 go_wp2_with fail
 rw [wrap_pow hkn]
 obtain ⟨w3, hw3⟩ : ∃ z, ((w2.alloc (Obj.cells #[.slice A2 (zeroR o inn a mem).put.length c2] 23)).alloc (Obj.cells #[.int .i64 (zeroR o inn a mem).fl] 3)) = z := ⟨_, rfl⟩
 have hb3 : Below w2.heap.size w2 w3 := by rw [← hw3]; exact below_alloc (below_alloc (Below.refl _ _) _) _
 have hz3 : w3.heap.size = w2.heap.size + 1 + 1 := by rw [← hw3]; simp
 have p15 : w3.heap[w2.heap.size]? = some (.cells #[.slice A2 (zeroR o inn a mem).put.length c2] 23 (0, 0)) := by rw [← hw3]; exact blk_alloc (blk_new w2 _) _
 have p16 : w3.heap[w2.heap.size + 1]? = some (.cells #[.int .i64 (zeroR o inn a mem).fl] 3 (0, 0)) := by
  rw [← hw3]
  have h9 := blk_new (w2.alloc (Obj.cells #[.slice A2 (zeroR o inn a mem).put.length c2] 23)) (.cells #[.int .i64 (zeroR o inn a mem).fl] 3 (0, 0))
  simp only [World.size_alloc] at h9
  exact h9
 rw [hw3]
 clear hw3 g3 g4 g5 hsh hnb hne
 have Q3 : ∀ i x, i ≠ Bm → w1.heap[i]? = some x → w3.heap[i]? = some x := fun i x hi hx => (hb3.block _ (lt_of_block (Q2.out i x hi hx))).trans (Q2.out i x hi hx)
 have C3 := Aside0.mk (show Chg (fun i => i = Bm) w w3 from ((Chg.of_below B1.out _).then_ C2.out (fun _ hi => .inl hi)).below hb3)
 have L3 : ∀ {A : Option Addr} {l : List Int}, LI Bm w A l → Ld Bm w.heap.size w3 A l := fun hx => hx.Ld.chg C3.out (fun k hk => .inl hk)
 have hNz : ∀ ad, A2 = some ad → 0 < (zeroR o inn a mem).put.length → ad.block ≠ Bm ∧ ad.block ≠ w2.heap.size + 1 := fun ad ha hp => by
  have hc := N2.out.1.c
  have hg := N2.out.1.ge ad ha hp
  rw [ha] at hc
  have := C_lt hc hp (by decide)
  omega
 have FW3 := Aside0.mk (show FW w n Bm (w.heap.size + 1 + 1 + 1) (w.heap.size + 1 + 1 + 1 + 1) (w.heap.size + 1 + 1 + 1 + 1 + 1) w.heap.size (w.heap.size + 1) (w.heap.size + 1 + 1) w2.heap.size (w2.heap.size + 1) o Aa Ab Ai Am A2 ca cb ci cm c2 a b inn mem (zeroR o inn a mem).put (kn : Int) (zeroR o inn a mem).fl (dn + o.f7.length) w3 from
  ⟨Q3 _ _ (by omega) Qb.out.2.2.2.1, Q3 _ _ (by omega) Qb.out.2.2.2.2.1, Q3 _ _ (by omega) Qb.out.2.2.2.2.2.1, Q3 _ _ (by omega) Qb.out.1, Q3 _ _ (by omega) Qb.out.2.1, Q3 _ _ (by omega) Qb.out.2.2.1, p15, p16, by omega, by omega, hca, hcb, N2.out.2,
   L3 HA.out.1, L3 HA.out.2, L3 HI.out.1, L3 HI.out.2, Kd.C_below N2.out.1.c hb3, hNz, M2.out.below hb3⟩)
 have Q6 := Aside0.mk (show w3.heap[w.heap.size + 1 + 1 + 1 + 1 + 1 + 1]? = _ from Q3 _ _ (by omega) Qb.out.2.2.2.2.2.2)
 clear p15 p16 hb3 Q3 L3 hNz Qb Q2 BA BI M1 M2 N2 C2
 refine (fat_any FW3.out G (fHigh kn) HF.out.1 HF.out.2 HIN.out.1 HIN.out.2.1 HIN.out.2.2.1 HIN.out.2.2.2 (by omega) (by omega)).mono ?_
 rintro e w4 ⟨A4, c4, As4, cs4, rfl, hl4, hN4, hls4, hNs4, hFW4, hC4⟩
 have FW4 := Aside0.mk hFW4
 have N4 := Aside0.mk (And.intro hl4 (And.intro hN4 (And.intro hls4 hNs4)))
 have C4 := Aside0.mk (show Chg (fun i => i = Bm) w w4 from C3.out.then_ hC4 (fun i hi => by rcases hi with h8 | h8; exact .inl h8; exact .inr (by omega)))
 have Q64 := Aside0.mk ((hC4.block _ (lt_of_block Q6.out) (by omega)).trans Q6.out)
 have hz4 : w3.heap.size ≤ w4.heap.size := hC4.size
 clear hl4 hN4 hls4 hNs4 hFW4 hC4 FW3 Q6 C3
 obtain ⟨kA, hkA⟩ := (any_ev (rsAt o inn mem a b (kn : Int) (fHigh kn)) (by unfold rsAt; rw [Pure.raisV_length]; omega)).rounds
 have HKA := Aside0.mk hkA
 clear hkA
 go_wp2_with fail
 obtain ⟨w5, hw5⟩ : ∃ z, w4.alloc (Obj.cells #[.int .i64 (fHigh kn), .slice A4 (rsAt o inn mem a b (kn : Int) (fHigh kn)).length c4, .slice As4 (betL a b (fHigh kn) (kn : Int)).length cs4] 72) = z := ⟨_, rfl⟩
 have hb5 : Below w4.heap.size w4 w5 := by rw [← hw5]; exact below_alloc (Below.refl _ _) _
 have P5 := Aside0.mk (show w5.heap[w4.heap.size]? = some (.cells #[.int .i64 (fHigh kn), .slice A4 (rsAt o inn mem a b (kn : Int) (fHigh kn)).length c4, .slice As4 (betL a b (fHigh kn) (kn : Int)).length cs4] 72 (0, 0)) by rw [← hw5]; exact blk_new w4 _)
 rw [hw5]
 clear hw5
 have L5 := Aside0.mk (show FL w n Bm (w.heap.size + 1 + 1 + 1) (w.heap.size + 1 + 1 + 1 + 1) (w.heap.size + 1 + 1 + 1 + 1 + 1) w.heap.size (w.heap.size + 1) (w.heap.size + 1 + 1) w2.heap.size (w2.heap.size + 1) o Aa Ab Ai Am A2 ca cb ci cm c2 a b inn mem (kn : Int) (w.heap.size + 1 + 1 + 1 + 1 + 1 + 1) w4.heap.size A4 As4 c4 cs4 (fHigh kn) (atF o inn mem a b (kn : Int) (fHigh kn) (zeroR o inn a mem).fl) (dn + o.f7.length + o.f7.length) w5 from
  ⟨FW4.out.below hb5, (hb5.block _ (lt_of_block Q64.out)).trans Q64.out, P5.out, (N4.out.2.1.lower (by omega)).below hb5, N4.out.1, (N4.out.2.2.2.lower (by omega)).below hb5, N4.out.2.2.1, C4.out.below hb5, by omega, by omega, by omega, by have := lt_of_block Q64.out; omega⟩)
 clear hb5 P5 Q64 N4 C4
 refine (X.cross_Any.calls kA A4 c4 _ _ w5 L5.out.nr.c L5.out.lr HKA.out).mono ?_
 rintro e w6 ⟨rfl, hd6⟩
 have L6 := Aside0.mk (L5.out.below hd6.below)
 clear hd6 L5 HKA
 cases hany : anyV (rsAt o inn mem a b (kn : Int) (fHigh kn)) with
 | false =>
  have eW : findW o inn mem a b kn dn = (fHigh kn, atF o inn mem a b (kn : Int) (fHigh kn) (zeroR o inn a mem).fl, dn + o.f7.length + o.f7.length) := by unfold findW; rw [hany]; rfl
  have eS : findS o inn mem a b kn = b := by unfold findS; rw [hany]; rfl
  go_wp2_with fail
  have L7 := Aside0.mk (L6.out.below (below_drew1 (Below.refl _ _)))
  have hz7 : w4.heap.size < w6.drew.heap.size := lt_of_block L7.out.p20
  refine start_ (n := 11) (S := fun w' => w'.cell? ⟨w4.heap.size, 0, none⟩ = some (.int .i64 (fHigh kn)) ∧ w'.cell? ⟨w4.heap.size, 1, none⟩ = some (.slice A4 (rsAt o inn mem a b (kn : Int) (fHigh kn)).length c4) ∧ w'.cell? ⟨w.heap.size + 1 + 1 + 1 + 1, 0, none⟩ = some (.slice Ab b.length cb) ∧ w'.cell? ⟨w2.heap.size + 1, 0, none⟩ = some (.int .i64 (atF o inn mem a b (kn : Int) (fHigh kn) (zeroR o inn a mem).fl))) (ds := []) (Array.replicate 11 false) (by kernel_rfl) rfl rfl ⟨(blk_cell L7.out.p20 0).trans rfl, (blk_cell L7.out.p20 1).trans rfl, (blk_cell L7.out.F.pb 0).trans rfl, (blk_cell L7.out.F.p16 0).trans rfl⟩ (fun hHeld => ?_); refine with_tabW fd9_tab fd9_bits (fun HT_ HW_ => ?_)
  refine pu HT_ 0 60 rfl rfl (by kernel_rfl) (fun _ _ _ h => h) (by rfl) (by intro w'; go_simp; with_reducible rfl) (by simp only [Act.put, sA, sB, sC, i64_w, i32_w]; rfl) ?_
  refine tk HT_ HW_ hHeld 1 61 rfl rfl (by kernel_rfl) (fun _ _ _ h => h) (by rfl) (by rintro w' ⟨s0, s1, s2, s3⟩; go_simp; with_reducible rfl) (by simp only [Act.put, sA, sB, sC, i64_w, i32_w]; rfl) ?_
  refine pu HT_ 2 62 rfl rfl (by kernel_rfl) (fun _ _ _ h => h) (by rfl) (by intro w'; go_simp; with_reducible rfl) (by simp only [Act.put, sA, sB, sC, i64_w, i32_w]; rfl) ?_
  refine tk HT_ HW_ hHeld 3 63 rfl rfl (by kernel_rfl) (fun _ _ _ h => h) (by rfl) (by rintro w' ⟨s0, s1, s2, s3⟩; go_simp; with_reducible rfl) (by simp only [Act.put, sA, sB, sC, i64_w, i32_w]; rfl) ?_
  refine tk HT_ HW_ hHeld 4 64 rfl rfl (by kernel_rfl) (fun _ _ _ h => h) (by rfl) (by rintro w' ⟨s0, s1, s2, s3⟩; go_simp; with_reducible rfl) (by simp only [Act.put, sA, sB, sC, i64_w, i32_w]; rfl) ?_
  refine tk HT_ HW_ hHeld 7 67 rfl rfl (by kernel_rfl) (fun _ _ _ h => h) (by rfl) (by rintro w' ⟨s0, s1, s2, s3⟩; go_simp; with_reducible rfl) (by simp only [Act.put, sA, sB, sC, i64_w, i32_w]; rfl) ?_
  refine on1 HT_ 5 (some 65) rfl rfl (by kernel_rfl) (by decide) (fun K hK => ?_)
  refine goes_ Tryz.func71 (by kernel_rfl) rfl #[.slice Ab b.length cb] (by rfl) rfl rfl (by (try simp only [List.map_toArray, List.map_cons, List.map_nil]); first | done | rfl) ?_
  refine (clone23 Ab cb b _ L7.out.F.lb.c (by have h1 := HF.out.1.2.1; have h2 := HF.out.2; omega)).mono ?_
  rintro e w8 ⟨v8, rfl, hR8, hb8⟩
  obtain ⟨A8, c8, rfl, hl8, hN8⟩ := Nw.of_R' hR8
  have N8 := Aside0.mk (And.intro hl8 hN8)
  have L8 := Aside0.mk (L7.out.below hb8)
  refine ⟨_, rfl, ?_⟩
  refine hK.out _ _ ⟨(blk_cell L8.out.p20 0).trans rfl, (blk_cell L8.out.p20 1).trans rfl, (blk_cell L8.out.F.pb 0).trans rfl, (blk_cell L8.out.F.p16 0).trans rfl⟩ (fun hHeld => ?_)
  clear hR8 hl8 hN8 L7 L6
  clear hK K
  refine norm_ (by show Act.put _ (some 65) _ = _; simp only [Act.put, sA, sB, sC, i64_w, i32_w]; rfl) ?_
  refine pu HT_ 6 66 rfl rfl (by kernel_rfl) (fun _ _ _ h => h) (by rfl) (by intro w'; go_simp; with_reducible rfl) (by simp only [Act.put, sA, sB, sC, i64_w, i32_w]; rfl) ?_
  have f0 := blk_frozen L8.out.p12 0
  have f1 := blk_frozen L8.out.p12 1
  have f2 := blk_frozen L8.out.p12 2
  have q0 := (blk_cell L8.out.p12 0).trans rfl
  have q1 := (blk_cell L8.out.p12 1).trans rfl
  have q2 := (blk_cell L8.out.p12 2).trans rfl
  refine on1 HT_ 8 none rfl rfl (by kernel_rfl) (by decide) (fun K hK => ?_)
  refine skip_ (w1 := ?_) (by rfl) rfl ?_ ?_
  rotate_left
  · go_simp
    rfl
  obtain ⟨w9, hw9⟩ : ∃ z, ((w8.setCell ⟨w.heap.size + 1 + 1 + 1 + 1 + 1 + 1, 0, none⟩ (.int .i64 (fHigh kn))).setCell ⟨w.heap.size + 1 + 1 + 1 + 1 + 1 + 1, 1, none⟩ (.slice A4 (rsAt o inn mem a b (kn : Int) (fHigh kn)).length c4)).setCell ⟨w.heap.size + 1 + 1 + 1 + 1 + 1 + 1, 2, none⟩ (.slice A8 b.length c8) = z := ⟨_, rfl⟩
  rw [hw9]
  have hc9 : Chg (fun i => i = w.heap.size + 1 + 1 + 1 + 1 + 1 + 1) w8 w9 := by rw [← hw9]; exact chg_three _ _ _ _ _
  have hW9 : w9.heap[w.heap.size + 1 + 1 + 1 + 1 + 1 + 1]? = some (.cells #[.int .i64 (fHigh kn), .slice A4 (rsAt o inn mem a b (kn : Int) (fHigh kn)).length c4, .slice A8 b.length c8] 72 (0, 0)) := by rw [← hw9]; exact row_three L8.out.p12 _ _ _
  clear hw9 f0 f1 f2 q0 q1 q2
  have K9 := Aside0.mk (show ∀ i x, i ≠ w.heap.size + 1 + 1 + 1 + 1 + 1 + 1 → w8.heap[i]? = some x → w9.heap[i]? = some x from fun i x hi hx => (hc9.block _ (lt_of_block hx) hi).trans hx)
  refine hK.out _ _ ⟨(blk_cell (K9.out _ _ L8.out.n12.symm L8.out.p20) 0).trans rfl, (blk_cell (K9.out _ _ L8.out.n12.symm L8.out.p20) 1).trans rfl, (blk_cell (K9.out _ _ (by omega) L8.out.F.pb) 0).trans rfl, (blk_cell (K9.out _ _ (by omega) L8.out.F.p16) 0).trans rfl⟩ (fun hHeld => ?_)
  have HW9 := Aside0.mk hW9
  have HC9 := Aside0.mk hc9
  clear hK K hW9 hc9
  have hany9 := Aside0.mk hany
  refine pu HT_ 9 13 rfl rfl (by kernel_rfl) (fun _ _ _ h => h) (by rfl) (by intro w'; go_simp; with_reducible rfl) (by simp only [Act.put, sA, sB, sC, i64_w, i32_w]; rfl) ?_
  refine pu HT_ 10 14 rfl rfl (by kernel_rfl) (fun _ _ _ h => h) (by rfl) (by intro w'; go_simp; with_reducible rfl) (by simp only [Act.put, sA, sB, sC, i64_w, i32_w]; rfl) ?_
  refine done_ (done_of HT_.out (by kernel_rfl)) ?_
  try go_wp2
  refine bodyPost_ret (results_list (rs := [.cell 12 72, .tmp 13, .tmp 14]) rfl (by simp) (.cell (w.heap.size + 1 + 1 + 1 + 1 + 1 + 1) 72 _ (0, 0) _ rfl HW9.out Tryz.underlying72 rfl (by kernel_rfl) (.tmp (.tmp .nil)))) rfl ?_
  rw [eW, eS]
  exact ⟨A4, c4, A8, c8, rfl, L8.out.lr, (L8.out.nr.chg HC9.out (fun i hi => by have hi2 : _ = _ := hi; omega)).lower (by omega), N8.out.1, (N8.out.2.chg HC9.out (fun i hi => by have hi2 : _ = _ := hi; omega)).lower (by omega), (L8.out.F.M.chg HC9.out (fun i hi => by have hi2 : _ = _ := hi; omega)).mach, L8.out.C.then_ HC9.out (fun i hi => .inr (by have hi2 : _ = _ := hi; omega))⟩
 | true =>
  have HANY := Aside0.mk hany
  clear hany
  have HEW := Aside0.mk (show bisW o inn mem a b (kn : Int) kn 0 (fHigh kn) (atF o inn mem a b (kn : Int) (fHigh kn) (zeroR o inn a mem).fl) (dn + o.f7.length + o.f7.length) = findW o inn mem a b kn dn by unfold findW; rw [if_pos HANY.out])
  have hp32 := Q.pow32 hkn
  have hFH : fHigh kn = (0 : Int) + ((2 ^ kn : Nat) : Int) := by unfold fHigh; omega
  go_wp2_with fail
  go_loopw [19] (fun low wr => ∃ (d : Nat) (lo hi fl' dn' : Int) (Ar As : Option Addr) (cr cs : Nat), low = .int .i64 lo ∧ Aside0 (hi = lo + ((2 ^ d : Nat) : Int)) ∧ 0 ≤ lo ∧ hi ≤ 4294967296 ∧ d ≤ 32 ∧ 0 ≤ dn' ∧ dn' + d * 4000 ≤ dn + 200000 ∧ Aside0 (bisW o inn mem a b (kn : Int) d lo hi fl' dn' = findW o inn mem a b kn dn) ∧ Aside0 (anyV (rsAt o inn mem a b (kn : Int) hi) = true) ∧ Aside0 (FL w n Bm (w.heap.size + 1 + 1 + 1) (w.heap.size + 1 + 1 + 1 + 1) (w.heap.size + 1 + 1 + 1 + 1 + 1) w.heap.size (w.heap.size + 1) (w.heap.size + 1 + 1) w2.heap.size (w2.heap.size + 1) o Aa Ab Ai Am A2 ca cb ci cm c2 a b inn mem (kn : Int) (w.heap.size + 1 + 1 + 1 + 1 + 1 + 1) w4.heap.size Ar As cr cs hi fl' dn' wr)) (fun low wr => (hiOf wr w4.heap.size - intOf low).toNat)
  case atStart => exact ⟨kn, 0, fHigh kn, _, _, A4, As4, c4, cs4, rfl, ⟨hFH⟩, by omega, by unfold fHigh; omega, hkn, by omega, by omega, HEW, HANY, by first | exact L6 | exact ⟨L6.out.below (below_drew1 (Below.refl _ _))⟩⟩
  case round =>
   clear L6 HEW
   obtain ⟨d, lo, hi, fl', dn', Ar, As, cr, cs, rfl, HE, h0, h1, hd, h2, h3, HW, HN, HL⟩ := hrel
   have kp : wr.cell? ⟨w4.heap.size, 0, none⟩ = some (.int .i64 hi) := (blk_cell HL.out.p20 0).trans rfl
   have hlt : lo < hi := by have e := HE.out; have hq := Nat.pow_pos (n := d) (show 0 < 2 by decide); generalize (2 ^ d : Nat) = q at e hq; omega
   have hwr : wrap64 (hi - lo) = hi - lo := wrap_in (by omega) (by omega)
   cases d with
   | zero =>
    have hgt : decide (hi - lo > 1) = false := decide_eq_false (by have e := HE.out; rw [Nat.pow_zero] at e; omega)
    go_wp2_with fail
    have HD := Aside0.mk (HL.out.below (below_drew1 (Below.refl _ _)))
    refine start_ (n := 5) (S := fun w' => w'.cell? ⟨w4.heap.size, 0, none⟩ = some (.int .i64 hi) ∧ w'.cell? ⟨w4.heap.size, 1, none⟩ = some (.slice Ar (rsAt o inn mem a b (kn : Int) hi).length cr) ∧ w'.cell? ⟨w4.heap.size, 2, none⟩ = some (.slice As (betL a b hi (kn : Int)).length cs) ∧ w'.cell? ⟨w2.heap.size + 1, 0, none⟩ = some (.int .i64 fl')) (ds := []) (Array.replicate 5 false) (by kernel_rfl) rfl rfl ⟨(blk_cell HD.out.p20 0).trans rfl, (blk_cell HD.out.p20 1).trans rfl, (blk_cell HD.out.p20 2).trans rfl, (blk_cell HD.out.F.p16 0).trans rfl⟩ (fun hHeld => ?_); refine with_tabW fd15_tab fd15_bits (fun HT_ HW_ => ?_)
    refine tk HT_ HW_ hHeld 0 86 rfl rfl (by kernel_rfl) (fun _ _ _ h => h) (by rfl) (by rintro w' ⟨s0, s1, s2, s3⟩; go_simp; with_reducible rfl) (by simp only [Act.put, sA, sB, sC, i64_w, i32_w]; rfl) ?_
    refine tk HT_ HW_ hHeld 1 87 rfl rfl (by kernel_rfl) (fun _ _ _ h => h) (by rfl) (by rintro w' ⟨s0, s1, s2, s3⟩; go_simp; with_reducible rfl) (by simp only [Act.put, sA, sB, sC, i64_w, i32_w]; rfl) ?_
    have f0 := blk_frozen HL.out.p12 0
    have f1 := blk_frozen HL.out.p12 1
    have f2 := blk_frozen HL.out.p12 2
    have q0 := (blk_cell HL.out.p12 0).trans rfl
    have q1 := (blk_cell HL.out.p12 1).trans rfl
    have q2 := (blk_cell HL.out.p12 2).trans rfl
    refine on1 HT_ 2 none rfl rfl (by kernel_rfl) (by decide) (fun K hK => ?_)
    refine skip_ (w1 := ?_) (by rfl) rfl ?_ ?_
    rotate_left
    · go_simp
      rfl
    obtain ⟨w9, hw9⟩ : ∃ z, (((wr.setCell ⟨w.heap.size + 1 + 1 + 1 + 1 + 1 + 1, 0, none⟩ (.int .i64 hi)).setCell ⟨w.heap.size + 1 + 1 + 1 + 1 + 1 + 1, 1, none⟩ (.slice Ar (rsAt o inn mem a b (kn : Int) hi).length cr)).setCell ⟨w.heap.size + 1 + 1 + 1 + 1 + 1 + 1, 2, none⟩ (.slice As (betL a b hi (kn : Int)).length cs)).drew = z := ⟨_, rfl⟩
    rw [hw9]
    have hc9 : Chg (fun i => i = w.heap.size + 1 + 1 + 1 + 1 + 1 + 1) wr w9 := by rw [← hw9]; exact (chg_three _ _ _ _ _).drew
    have hW9 : w9.heap[w.heap.size + 1 + 1 + 1 + 1 + 1 + 1]? = some (.cells #[.int .i64 hi, .slice Ar (rsAt o inn mem a b (kn : Int) hi).length cr, .slice As (betL a b hi (kn : Int)).length cs] 72 (0, 0)) := by rw [← hw9]; exact row_three HL.out.p12 _ _ _
    clear hw9 f0 f1 f2 q0 q1 q2
    have p20 := (hc9.block _ (lt_of_block HL.out.p20) HL.out.n12.symm).trans HL.out.p20
    refine hK.out _ _ ⟨(blk_cell p20 0).trans rfl, (blk_cell p20 1).trans rfl, (blk_cell p20 2).trans rfl, (blk_cell ((hc9.block _ (lt_of_block HL.out.F.p16) (by omega)).trans HL.out.F.p16) 0).trans rfl⟩ (fun hHeld => ?_)
    have HW9 := Aside0.mk hW9
    have HC9 := Aside0.mk hc9
    clear hK K hW9 hc9 p20
    refine pu HT_ 3 13 rfl rfl (by kernel_rfl) (fun _ _ _ h => h) (by rfl) (by intro w'; go_simp; with_reducible rfl) (by simp only [Act.put, sA, sB, sC, i64_w, i32_w]; rfl) ?_
    refine pu HT_ 4 14 rfl rfl (by kernel_rfl) (fun _ _ _ h => h) (by rfl) (by intro w'; go_simp; with_reducible rfl) (by simp only [Act.put, sA, sB, sC, i64_w, i32_w]; rfl) ?_
    refine done_ (done_of HT_.out (by kernel_rfl)) ?_
    try go_wp2
    refine bodyPost_ret (results_list (rs := [.cell 12 72, .tmp 13, .tmp 14]) rfl (by simp) (.cell (w.heap.size + 1 + 1 + 1 + 1 + 1 + 1) 72 _ (0, 0) _ rfl HW9.out Tryz.underlying72 rfl (by kernel_rfl) (.tmp (.tmp .nil)))) rfl ?_
    have eW := HW.out
    have eS : findS o inn mem a b kn = betL a b hi (kn : Int) := by
     have e9 := (find_dn o inn mem a b kn 0 dn).1
     unfold findS
     rw [if_pos HANY.out, e9, ← eW]
     rfl
    rw [eS, ← eW]
    exact ⟨Ar, cr, As, cs, rfl, HL.out.lr, (HL.out.nr.chg HC9.out (fun i hi => by have hi2 : _ = _ := hi; omega)).lower (by omega), HL.out.ls, (HL.out.ns.chg HC9.out (fun i hi => by have hi2 : _ = _ := hi; omega)).lower (by omega), (HL.out.F.M.chg HC9.out (fun i hi => by have hi2 : _ = _ := hi; omega)).mach, HL.out.C.then_ HC9.out (fun i hi => .inr (by have hi2 : _ = _ := hi; omega))⟩
   | succ d =>
    have hgt : decide (hi - lo > 1) = true := decide_eq_true (by have e := HE.out; have hq := Nat.pow_pos (n := d) (show 0 < 2 by decide); rw [Nat.pow_succ] at e; generalize (2 ^ d : Nat) = q at e hq; omega)
    go_wp2_with fail
    have hmid : wrap64 ((wrap64 (lo + hi)).tdiv 2) = (lo + hi) / 2 := by
     rw [wrap_in (x := lo + hi) (by omega) (by omega), Int.tdiv_eq_ediv_of_nonneg (by omega), wrap_in (by omega) (by omega)]
    try rw [hmid]
    obtain ⟨mid, hm⟩ : ∃ m, (lo + hi) / 2 = m := ⟨_, rfl⟩
    have HM := Aside0.mk hm
    have hml : lo < mid ∧ mid < hi ∧ mid = lo + ((2 ^ d : Nat) : Int) ∧ hi = mid + ((2 ^ d : Nat) : Int) := by have e := HE.out; have hq := Nat.pow_pos (n := d) (show 0 < 2 by decide); rw [Nat.pow_succ] at e; generalize (2 ^ d : Nat) = q at e hq ⊢; have hgt2 := of_decide_eq_true hgt; omega
    have HML := Aside0.mk hml.2.2
    have hm1 := hml.1
    have hm2 := hml.2.1
    rw [hm]
    clear hm hmid hml hgt hwr kp
    refine (fat_any HL.out.F G mid HF.out.1 HF.out.2 HIN.out.1 HIN.out.2.1 HIN.out.2.2.1 HIN.out.2.2.2 (by omega) (by omega)).mono ?_
    rintro e w7 ⟨A7, c7, As7, cs7, rfl, hl7, hN7, hls7, hNs7, hFW7, hC7⟩
    have FW7 := Aside0.mk hFW7
    have hzr : w4.heap.size < wr.heap.size := lt_of_block HL.out.p20
    have N7 := Aside0.mk (And.intro hl7 (And.intro hN7 (And.intro hls7 hNs7)))
    have C7 := Aside0.mk (show Chg (fun i => i = Bm) w w7 from HL.out.C.then_ hC7 (fun i hi => by rcases hi with h8 | h8; exact .inl h8; exact .inr (by omega)))
    have P7 := Aside0.mk (And.intro ((hC7.block _ (lt_of_block HL.out.p12) (by omega)).trans HL.out.p12) ((hC7.block _ (lt_of_block HL.out.p20) (by omega)).trans HL.out.p20))
    have hz7 : wr.heap.size ≤ w7.heap.size := hC7.size
    have CR7 := Aside0.mk hC7
    clear hl7 hN7 hls7 hNs7 hFW7 hC7
    obtain ⟨kB, hkB⟩ := (any_ev (rsAt o inn mem a b (kn : Int) mid) (by unfold rsAt; rw [Pure.raisV_length]; omega)).rounds
    have HKB := Aside0.mk hkB
    clear hkB
    go_wp2_with fail
    obtain ⟨w8, hw8⟩ : ∃ z, w7.alloc (Obj.cells #[.int .i64 mid, .slice A7 (rsAt o inn mem a b (kn : Int) mid).length c7, .slice As7 (betL a b mid (kn : Int)).length cs7] 72) = z := ⟨_, rfl⟩
    have hb8 : Below w7.heap.size w7 w8 := by rw [← hw8]; exact below_alloc (Below.refl _ _) _
    have P8 := Aside0.mk (show w8.heap[w7.heap.size]? = some (.cells #[.int .i64 mid, .slice A7 (rsAt o inn mem a b (kn : Int) mid).length c7, .slice As7 (betL a b mid (kn : Int)).length cs7] 72 (0, 0)) by rw [← hw8]; exact blk_new w7 _)
    rw [hw8]
    clear hw8
    have FW8 := Aside0.mk (FW7.out.below hb8)
    have N8 := Aside0.mk (And.intro N7.out.1 (And.intro (N7.out.2.1.below hb8) (And.intro N7.out.2.2.1 (N7.out.2.2.2.below hb8))))
    have C8 := Aside0.mk (C7.out.below hb8)
    have Q8 := Aside0.mk (And.intro ((hb8.block _ (lt_of_block P7.out.1)).trans P7.out.1) ((hb8.block _ (lt_of_block P7.out.2)).trans P7.out.2))
    have CR8 := Aside0.mk (CR7.out.below hb8)
    clear hb8 FW7 N7 C7 P7 CR7
    refine (X.cross_Any.calls kB A7 c7 _ _ w8 N8.out.2.1.c N8.out.1 HKB.out).mono ?_
    rintro e w9 ⟨rfl, hd9⟩
    have hb9 := hd9.below
    have FW9 := Aside0.mk (FW8.out.below hb9)
    have N9 := Aside0.mk (And.intro N8.out.1 (And.intro (N8.out.2.1.below hb9) (And.intro N8.out.2.2.1 (N8.out.2.2.2.below hb9))))
    have C9 := Aside0.mk (C8.out.below hb9)
    have Q9 := Aside0.mk (And.intro ((hb9.block _ (lt_of_block Q8.out.1)).trans Q8.out.1) ((hb9.block _ (lt_of_block Q8.out.2)).trans Q8.out.2))
    have P9 := Aside0.mk ((hb9.block _ (lt_of_block P8.out)).trans P8.out)
    have CR := Aside0.mk (CR8.out.below hb9)
    clear hb9 hd9 FW8 N8 C8 Q8 P8 HKB CR8
    cases hany : anyV (rsAt o inn mem a b (kn : Int) mid) with
    | true =>
     have HAN := Aside0.mk hany
     have HWN := Aside0.mk (show bisW o inn mem a b (kn : Int) d lo mid (atF o inn mem a b (kn : Int) mid fl') (dn' + o.f7.length) = findW o inn mem a b kn dn by rw [← HW.out, bis_succ, HM.out, if_pos hany])
     clear hany HN
     have f0 := blk_frozen Q9.out.2 0
     have f1 := blk_frozen Q9.out.2 1
     have f2 := blk_frozen Q9.out.2 2
     have q0 := (blk_cell Q9.out.2 0).trans rfl
     have q1 := (blk_cell Q9.out.2 1).trans rfl
     have q2 := (blk_cell Q9.out.2 2).trans rfl
     go_wp2_with (refine wpList_load_row rfl 72 _ rfl w7.heap.size rfl 72 #[.int .i64 mid, .slice A7 (rsAt o inn mem a b (kn : Int) mid).length c7, .slice As7 (betL a b mid (kn : Int)).length cs7] (0, 0) _ P9.out Tryz.underlying72 rfl (by kernel_rfl) ?_)
     obtain ⟨w10, hw10⟩ : ∃ z, ((w9.setCell ⟨w4.heap.size, 0, none⟩ (.int .i64 mid)).setCell ⟨w4.heap.size, 1, none⟩ (.slice A7 (rsAt o inn mem a b (kn : Int) mid).length c7)).setCell ⟨w4.heap.size, 2, none⟩ (.slice As7 (betL a b mid (kn : Int)).length cs7) = z := ⟨_, rfl⟩
     have hc10 : Chg (fun i => i = w4.heap.size) w9 w10 := by rw [← hw10]; exact chg_three _ _ _ _ _
     have hp10 : w10.heap[w4.heap.size]? = some (.cells #[.int .i64 mid, .slice A7 (rsAt o inn mem a b (kn : Int) mid).length c7, .slice As7 (betL a b mid (kn : Int)).length cs7] 72 (0, 0)) := by rw [← hw10]; exact row_three Q9.out.2 _ _ _
     rw [hw10]
     have e0 : hiOf wr w4.heap.size = hi := by unfold hiOf; rw [show wr.cell? ⟨w4.heap.size, 0, none⟩ = some (.int .i64 hi) from (blk_cell HL.out.p20 0).trans rfl]
     have e1 : hiOf w10 w4.heap.size = mid := by unfold hiOf; rw [show w10.cell? ⟨w4.heap.size, 0, none⟩ = some (.int .i64 mid) from (blk_cell hp10 0).trans rfl]
     rw [e0, e1]
     refine ⟨⟨d, lo, mid, _, _, A7, As7, c7, cs7, rfl, ⟨HML.out.1⟩, h0, by omega, by omega, by omega, by omega, HWN, HAN, ⟨⟨FW9.out.far FW4.out hc10 (fun i hi => by have hi2 : _ = _ := hi; omega), (hc10.block _ (lt_of_block Q9.out.1) (by omega)).trans Q9.out.1, hp10, (N9.out.2.1.chg hc10 (fun i hi => by have hi2 : _ = _ := hi; omega)).lower (by omega), N9.out.1, (N9.out.2.2.2.chg hc10 (fun i hi => by have hi2 : _ = _ := hi; omega)).lower (by omega), N9.out.2.2.1, C9.out.then_ hc10 (fun i hi => .inr (by have hi2 : _ = _ := hi; omega)), by omega, by omega, by omega, by omega⟩⟩⟩, ?_⟩
     show (mid - lo).toNat < (hi - lo).toNat
     omega
    | false =>
     have HAN := Aside0.mk hany
     have HWN := Aside0.mk (show bisW o inn mem a b (kn : Int) d mid hi (atF o inn mem a b (kn : Int) mid fl') (dn' + o.f7.length) = findW o inn mem a b kn dn by rw [← HW.out, bis_succ, HM.out, if_neg (by rw [hany]; decide)])
     clear hany
     have q0 : w9.cell? ⟨w7.heap.size, 0, none⟩ = some (.int .i64 mid) := (blk_cell P9.out 0).trans rfl
     go_wp2_with fail
     have e0 : hiOf wr w4.heap.size = hi := by unfold hiOf; rw [show wr.cell? ⟨w4.heap.size, 0, none⟩ = some (.int .i64 hi) from (blk_cell HL.out.p20 0).trans rfl]
     have e1 : hiOf w9 w4.heap.size = hi := by unfold hiOf; rw [show w9.cell? ⟨w4.heap.size, 0, none⟩ = some (.int .i64 hi) from (blk_cell Q9.out.2 0).trans rfl]
     rw [e0, e1]
     refine ⟨⟨d, mid, hi, _, _, Ar, As, cr, cs, rfl, ⟨HML.out.2⟩, by omega, h1, by omega, by omega, by omega, HWN, HN, ⟨⟨FW9.out, Q9.out.1, Q9.out.2, ?_, HL.out.lr, ?_, HL.out.ls, C9.out, by omega, by omega, by omega, by omega⟩⟩⟩, ?_⟩
     · exact HL.out.nr.chg CR.out (fun i hi => by have h9 : i = Bm ∨ i = w2.heap.size + 1 := hi; omega)
     · exact HL.out.ns.chg CR.out (fun i hi => by have h9 : i = Bm ∨ i = w2.heap.size + 1 := hi; omega)
     show (hi - mid).toNat < (hi - lo).toNat
     omega

theorem lerpK_nat {K : Nat} (h : K ≤ 32) : Q.lerpK (K : Int) = K := by unfold Q.lerpK; rw [if_neg (by omega), if_neg (by omega)]; omega
theorem lerpM_nat {M K : Nat} (h : M ≤ 2 ^ K) : Q.lerpM (M : Int) K = M := by unfold Q.lerpM; rw [if_neg (by omega), if_neg (by omega)]; omega
theorem lerp_twice {a b : Int} {K M : Nat} (hK : K ≤ 31) (hM : M ≤ 2 ^ K) : Q.lerpV a b ((2 * M : Nat) : Int) ((K + 1 : Nat) : Int) = Q.lerpV a b (M : Int) (K : Int) := by
 have e : ∀ d : Int, Q.lerpP d (2 * M) (K + 1) = Q.lerpP d M K := fun d => by
  unfold Q.lerpP
  rw [show d.natAbs * (2 * M) = 2 * (d.natAbs * M) by rw [Nat.mul_left_comm], Nat.pow_succ, Nat.mul_comm (2 ^ K) 2, Nat.mul_div_mul_left _ _ (by decide)]
 unfold Q.lerpV
 rw [lerpK_nat (K := K + 1) (by omega), lerpK_nat (K := K) (by omega), lerpM_nat (M := 2 * M) (K := K + 1) (by rw [Nat.pow_succ]; omega), lerpM_nat hM, e]
theorem betV_twice {a b : List Int} {K M : Nat} (hK : K ≤ 31) (hM : M ≤ 2 ^ K) : ∀ n, Q.betV a b ((2 * M : Nat) : Int) ((K + 1 : Nat) : Int) n = Q.betV a b (M : Int) (K : Int) n
 | 0 => rfl
 | n + 1 => by
  unfold Q.betV
  rw [betV_twice hK hM n, lerp_twice hK hM]
theorem rsAt_twice (o : S26) (inn mem a b : List Int) {K M : Nat} (hK : K ≤ 31) (hM : M ≤ 2 ^ K) : rsAt o inn mem a b ((K + 1 : Nat) : Int) ((2 * M : Nat) : Int) = rsAt o inn mem a b (K : Int) (M : Int) := by
 unfold rsAt betL
 rw [betV_twice hK hM]
theorem bis_zero (o : S26) (inn mem a b : List Int) (k : Int) (low high fl dn : Int) : bisW o inn mem a b k 0 low high fl dn = (high, fl, dn) := rfl
theorem bis_any (o : S26) (inn mem a b : List Int) (k : Int) (d : Nat) : ∀ (low high fl dn : Int), anyV (rsAt o inn mem a b k high) = true → anyV (rsAt o inn mem a b k (bisW o inn mem a b k d low high fl dn).1) = true := by
 induction d with
 | zero => intro low high fl dn h; rw [bis_zero]; exact h
 | succ d ih =>
  intro low high fl dn h
  rw [bis_succ]
  by_cases c : anyV (rsAt o inn mem a b k ((low + high) / 2)) = true
  · rw [if_pos c]; exact ih _ _ _ _ c
  · rw [if_neg c]; exact ih _ _ _ _ h
theorem bis_twice (o : S26) (inn mem a b : List Int) {K : Nat} (hK : K ≤ 31) (d : Nat) : ∀ (lo hi : Nat) (fl dn fl' dn' : Int), hi = lo + 2 ^ d → hi ≤ 2 ^ K →
 (bisW o inn mem a b ((K + 1 : Nat) : Int) (d + 1) ((2 * lo : Nat) : Int) ((2 * hi : Nat) : Int) fl' dn').1 = 2 * (bisW o inn mem a b (K : Int) d (lo : Int) (hi : Int) fl dn).1 ∨
 (bisW o inn mem a b ((K + 1 : Nat) : Int) (d + 1) ((2 * lo : Nat) : Int) ((2 * hi : Nat) : Int) fl' dn').1 = 2 * (bisW o inn mem a b (K : Int) d (lo : Int) (hi : Int) fl dn).1 - 1 := by
 induction d with
 | zero =>
  intro lo hi fl dn fl' dn' e h
  rw [Nat.pow_zero] at e
  rw [bis_succ, bis_zero o inn mem a b (K : Int)]
  by_cases c : anyV (rsAt o inn mem a b ((K + 1 : Nat) : Int) ((((2 * lo : Nat) : Int) + ((2 * hi : Nat) : Int)) / 2)) = true
  · rw [if_pos c, bis_zero]
    right
    show (((2 * lo : Nat) : Int) + ((2 * hi : Nat) : Int)) / 2 = 2 * (hi : Int) - 1
    omega
  · rw [if_neg c, bis_zero]
    left
    show ((2 * hi : Nat) : Int) = 2 * (hi : Int)
    omega
 | succ d ih =>
  intro lo hi fl dn fl' dn' e h
  have hp : 2 ^ (d + 1) = 2 ^ d + 2 ^ d := by rw [Nat.pow_succ]; omega
  obtain ⟨q, hq⟩ : ∃ q, 2 ^ d = q := ⟨_, rfl⟩
  obtain ⟨Q, hQ⟩ : ∃ Q, 2 ^ K = Q := ⟨_, rfl⟩
  rw [hp, hq] at e
  have e1 : (((2 * lo : Nat) : Int) + ((2 * hi : Nat) : Int)) / 2 = ((2 * (lo + q) : Nat) : Int) := by omega
  have e2 : ((lo : Int) + (hi : Int)) / 2 = ((lo + q : Nat) : Int) := by omega
  rw [bis_succ o inn mem a b ((K + 1 : Nat) : Int), e1, rsAt_twice o inn mem a b hK (M := lo + q) (by omega), bis_succ o inn mem a b (K : Int) d, e2]
  by_cases c : anyV (rsAt o inn mem a b (K : Int) ((lo + q : Nat) : Int)) = true
  · rw [if_pos c, if_pos c]
    exact ih lo (lo + q) _ _ _ _ (by rw [hq]) (by omega)
  · rw [if_neg c, if_neg c]
    exact ih (lo + q) hi _ _ _ _ (by rw [hq]; omega) h
/-- Halved once more. -/
theorem find_twice (o : S26) (inn mem a b : List Int) {K : Nat} (hK : K ≤ 31) (dn dn' : Int) :
 anyV (rsAt o inn mem a b ((K + 1 : Nat) : Int) (findW o inn mem a b (K + 1) dn').1) = anyV (rsAt o inn mem a b (K : Int) (findW o inn mem a b K dn).1) ∧
  ((findW o inn mem a b (K + 1) dn').1 = 2 * (findW o inn mem a b K dn).1 ∨ anyV (rsAt o inn mem a b (K : Int) (findW o inn mem a b K dn).1) = true ∧ (findW o inn mem a b (K + 1) dn').1 = 2 * (findW o inn mem a b K dn).1 - 1) := by
 have e : fHigh (K + 1) = ((2 * (2 ^ K) : Nat) : Int) := by unfold fHigh; rw [Nat.pow_succ, Nat.mul_comm]
 have e2 := rsAt_twice o inn mem a b hK (Nat.le_refl (2 ^ K))
 have h0 := fun fl dn fl' dn' => bis_twice o inn mem a b hK K 0 (2 ^ K) fl dn fl' dn' (by rw [Nat.zero_add]) (Nat.le_refl _)
 unfold findW
 rw [e, e2, show ((2 ^ K : Nat) : Int) = fHigh K from rfl]
 by_cases h : anyV (rsAt o inn mem a b (K : Int) (fHigh K)) = true
 · rw [if_pos h, if_pos h]
   have h1 := bis_any o inn mem a b (K : Int) K 0 (fHigh K) (atF o inn mem a b (K : Int) (fHigh K) (zeroR o inn a mem).fl) (dn + o.f7.length + o.f7.length) h
   have h2 := bis_any o inn mem a b ((K + 1 : Nat) : Int) (K + 1) 0 ((2 * (2 ^ K) : Nat) : Int) (atF o inn mem a b ((K + 1 : Nat) : Int) ((2 * (2 ^ K) : Nat) : Int) (zeroR o inn a mem).fl) (dn' + o.f7.length + o.f7.length) (by rw [e2]; exact h)
   refine ⟨h2.trans h1.symm, ?_⟩
   rcases h0 (atF o inn mem a b (K : Int) (fHigh K) (zeroR o inn a mem).fl) (dn + o.f7.length + o.f7.length) (atF o inn mem a b ((K + 1 : Nat) : Int) ((2 * (2 ^ K) : Nat) : Int) (zeroR o inn a mem).fl) (dn' + o.f7.length + o.f7.length) with h3 | h3
   · exact .inl h3
   · exact .inr ⟨h1, h3⟩
 · rw [if_neg h, if_neg h]
   refine ⟨by rw [e2]; rfl, .inl ?_⟩
   unfold fHigh
   omega
end Go.Proofs.YtgalkkolbobmbaaGreat.V
