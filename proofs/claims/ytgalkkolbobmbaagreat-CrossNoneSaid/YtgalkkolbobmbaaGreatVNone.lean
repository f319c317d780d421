/- cross.Find: the walk. -/
import Derived.Test.YtgalkkolbobmbaaGreatVClone
import Derived.Test.YtgalkkolbobmbaaGreatPureHeunEnds
import Derived.Test.YtgalkkolbobmbaaGreatQ0

namespace Go.Proofs.YtgalkkolbobmbaaGreat.V
open Go.RowKit Go.Proofs.YtgalkkolbobmbaaGreatW.PrintWords Go.Proofs.YtgalkkolbobmbaaGreatW.PrintLast Go.Proofs.YtgalkkolbobmbaaGreatW.PrintMore
set_option linter.unusedVariables false
set_option linter.unusedSimpArgs false
theorem seven_allocs (w : World) (o0 o1 o2 o3 o4 o5 o6 : Obj) (W : World) (h : ((((((w.alloc o0).alloc o1).alloc o2).alloc o3).alloc o4).alloc o5).alloc o6 = W) :
 W.heap[w.heap.size]? = some o0 ∧ W.heap[w.heap.size + 1]? = some o1 ∧ W.heap[w.heap.size + 1 + 1]? = some o2 ∧ W.heap[w.heap.size + 1 + 1 + 1]? = some o3 ∧ W.heap[w.heap.size + 1 + 1 + 1 + 1]? = some o4 ∧ W.heap[w.heap.size + 1 + 1 + 1 + 1 + 1]? = some o5 ∧ W.heap[w.heap.size + 1 + 1 + 1 + 1 + 1 + 1]? = some o6 ∧ Below w.heap.size w W ∧ W.heap.size = w.heap.size + 1 + 1 + 1 + 1 + 1 + 1 + 1 := by
 subst h
 have g : ∀ (w : World) (o : Obj) (k : Nat) (x : Obj), w.heap[k]? = some x → (w.alloc o).heap[k]? = some x := fun w o k x hx => (heap_alloc_old w o (lt_of_block hx)).trans hx
 have s : ∀ (w : World) (o : Obj), (w.alloc o).heap.size = w.heap.size + 1 := fun w o => by simp
 have z : ∀ (w : World) (o : Obj) (k : Nat), w.heap.size = k → (w.alloc o).heap[k]? = some o := fun w o k hk => by subst hk; exact heap_alloc_new w o
 refine ⟨?_, ?_, ?_, ?_, ?_, ?_, ?_, ?_, ?_⟩
 · exact g _ _ _ _ (g _ _ _ _ (g _ _ _ _ (g _ _ _ _ (g _ _ _ _ (g _ _ _ _ (z _ _ _ rfl))))))
 · exact g _ _ _ _ (g _ _ _ _ (g _ _ _ _ (g _ _ _ _ (g _ _ _ _ (z _ _ _ (by simp only [s]))))))
 · exact g _ _ _ _ (g _ _ _ _ (g _ _ _ _ (g _ _ _ _ (z _ _ _ (by simp only [s])))))
 · exact g _ _ _ _ (g _ _ _ _ (g _ _ _ _ (z _ _ _ (by simp only [s]))))
 · exact g _ _ _ _ (g _ _ _ _ (z _ _ _ (by simp only [s])))
 · exact g _ _ _ _ (z _ _ _ (by simp only [s]))
 · exact z _ _ _ (by simp only [s])
 · repeat (first | exact Below.refl _ _ | apply below_alloc)
 · simp only [s]
theorem NwB.below {b : Nat} {w w' : World} {A : Option Addr} {l : List Bool} (h : NwB b w A l) (hb : Below w.heap.size w w') : NwB b w' A l := h.chg (Chg.of_below hb (fun _ => False)) (fun _ hi => hi.elim)
theorem Nw.below {b : Nat} {w w' : World} {A : Option Addr} {l : List Int} (h : Nw b w A l) (hb : Below w.heap.size w w') : Nw b w' A l := h.chg (Chg.of_below hb (fun _ => False)) (fun _ hi => hi.elim)
theorem chg_three (w : World) (B : Nat) (x y z : Value) : Chg (fun i => i = B) w (((w.setCell ⟨B, 0, none⟩ x).setCell ⟨B, 1, none⟩ y).setCell ⟨B, 2, none⟩ z) :=
 Chg.setCell (S := fun i => i = B) (p := ⟨B, 2, none⟩) (Chg.setCell (S := fun i => i = B) (p := ⟨B, 1, none⟩) (Chg.setCell (S := fun i => i = B) (p := ⟨B, 0, none⟩) (Chg.refl _ w) (.inl rfl) _) (.inl rfl) _) (.inl rfl) _
theorem row_three {w : World} {B t : Nat} {a b c : Value} (h : w.heap[B]? = some (.cells #[a, b, c] t (0, 0))) (x y z : Value) : (((w.setCell ⟨B, 0, none⟩ x).setCell ⟨B, 1, none⟩ y).setCell ⟨B, 2, none⟩ z).heap[B]? = some (.cells #[x, y, z] t (0, 0)) :=
 heap_setCell_same _ B 2 _ t _ (heap_setCell_same _ B 1 _ t _ (heap_setCell_same _ B 0 _ t _ h))
def hiOf (w : World) (B : Nat) : Int := match w.cell? ⟨B, 0, none⟩ with | some (.int _ h) => h | _ => 0
theorem find_dn (o : S26) (inn mem a b : List Int) (K : Nat) (dn dn' : Int) : (findW o inn mem a b K dn).1 = (findW o inn mem a b K dn').1 ∧ (findW o inn mem a b K dn).2.1 = (findW o inn mem a b K dn').2.1 := by
 unfold findW
 split
 · exact (bis_dn _ _ _ _ _ _ _ _ _ _ _).2 _
 · exact ⟨rfl, rfl⟩
/-- What stands in Find's loop. -/
structure FL (w0 : World) (n Bm Ba Bb Bk B6 B7 B8 B15 B16 : Nat) (o : S26) (Aa Ab Ai Am Az : Option Addr) (ca cb ci cm cz : Nat) (a b inn mem : List Int) (k : Int) (B12 B20 : Nat) (Ar As : Option Addr) (cr cs : Nat) (part fl dn : Int) (w : World) : Prop where
 F : FW w0 n Bm Ba Bb Bk B6 B7 B8 B15 B16 o Aa Ab Ai Am Az ca cb ci cm cz a b inn mem (zeroR o inn a mem).put k fl dn w
 p12 : w.heap[B12]? = some (.cells #[.int .i64 0, .slice none 0 0, .slice none 0 0] 72 (0, 0))
 p20 : w.heap[B20]? = some (.cells #[.int .i64 part, .slice Ar (rsAt o inn mem a b k part).length cr, .slice As (betL a b part k).length cs] 72 (0, 0))
 nr : NwB (B16 + 1) w Ar (rsAt o inn mem a b k part)
 lr : (rsAt o inn mem a b k part).length ≤ cr
 ns : Nw (B16 + 1) w As (betL a b part k)
 ls : (betL a b part k).length ≤ cs
 C : Chg (fun i => i = Bm) w0 w
 g20 : B12 < B20
 g12 : w0.heap.size ≤ B12
 g16 : B12 < B16
 n12 : B12 ≠ B20
theorem FL.below {w0 : World} {n Bm Ba Bb Bk B6 B7 B8 B15 B16 : Nat} {o : S26} {Aa Ab Ai Am Az : Option Addr} {ca cb ci cm cz : Nat} {a b inn mem : List Int} {k : Int} {B12 B20 : Nat} {Ar As : Option Addr} {cr cs : Nat} {part fl dn : Int} {w w' : World}
 (h : FL w0 n Bm Ba Bb Bk B6 B7 B8 B15 B16 o Aa Ab Ai Am Az ca cb ci cm cz a b inn mem k B12 B20 Ar As cr cs part fl dn w) (hb : Below w.heap.size w w') : FL w0 n Bm Ba Bb Bk B6 B7 B8 B15 B16 o Aa Ab Ai Am Az ca cb ci cm cz a b inn mem k B12 B20 Ar As cr cs part fl dn w' :=
 ⟨h.F.below hb, (hb.block _ (lt_of_block h.p12)).trans h.p12, (hb.block _ (lt_of_block h.p20)).trans h.p20, h.nr.below hb, h.lr, h.ns.below hb, h.ls, h.C.below hb, h.g20, h.g12, h.g16, h.n12⟩
theorem wrap_pow {K : Nat} (hK : K ≤ 32) : wrap64 (2 ^ K) = fHigh K := by
 have h := Q.pow32 hK
 have e : ((2 : Int) ^ K) = ((2 ^ K : Nat) : Int) := by rw [Int.natCast_pow]; rfl
 unfold fHigh
 rw [e]
 obtain ⟨q, hq⟩ : ∃ q, 2 ^ K = q := ⟨_, rfl⟩
 rw [hq] at h ⊢
 exact wrap_in (by omega) (by omega)
def fd9_T : Bool × List (List Nat × List Nat) := (true, [([], []), ([0], [0]), ([], []), ([2], [2]), ([], []), ([4], [4]), ([1, 3, 5], [1, 3, 5]), ([], []), ([6, 5, 0, 1, 2, 3, 4, 5, 6], [6]), ([7, 8, 0, 1, 2, 3, 4, 5, 6, 7, 8], [7]), ([9, 0, 1, 2, 3, 4, 5, 6, 7, 8, 9], [])])
def fd9_B : List Nat := [0, 1, 0, 4, 0, 16, 63, 0, 127, 511, 1023]
theorem fd9_tab : rtab .any (opsOf Tryz.f53 9) = fd9_T := by kernel_rfl
theorem fd9_bits : waitsOk fd9_T.2 fd9_B = true := by kernel_rfl
def fd15_T : Bool × List (List Nat × List Nat) := (true, [([], []), ([], []), ([0, 0], [0]), ([1, 2, 0, 1, 2], [1]), ([3, 0, 1, 2, 3], [])])
def fd15_B : List Nat := [0, 0, 1, 7, 15]
theorem fd15_tab : rtab .any (opsOf Tryz.f53 15) = fd15_T := by kernel_rfl
theorem fd15_bits : waitsOk fd15_T.2 fd15_B = true := by kernel_rfl
set_option maxHeartbeats 4000000 in
set_option maxRecDepth 100000 in
theorem find_any {n Bm : Nat} {o : S26} {dn : Int} {w : World} (h : MachO n Bm o dn w) (G : Good o) (Ai Am Aa Ab : Option Addr) (ci cm ca cb : Nat) (inn mem a b : List Int) (hi : LI Bm w Ai inn) (hm : LI Bm w Am mem) (ha : LI Bm w Aa a) (hb : LI Bm w Ab b) (hca : a.length ≤ ca) (hcb : b.length ≤ cb)
 (kn : Nat) (hkn : kn ≤ 32) (hf : Fits o inn a mem) (hl : a.length = b.length) (aa : AllIn a) (ab : AllIn b) (ai : AllIn inn) (am : AllIn mem) (hd0 : 0 ≤ dn) (hd1 : dn ≤ 10000000000) :
 Calls Tryz.prog 53 #[.pointer (some ⟨Bm, 0, none⟩), .slice Ai inn.length ci, .slice Am mem.length cm, .slice Aa a.length ca, .slice Ab b.length cb, .int .i64 (kn : Int)] w
  fun e w' => ∃ (Ar : Option Addr) (cr : Nat) (As : Option Addr) (cs : Nat), e = .returned (.tuple #[.agg #[.int .i64 (findW o inn mem a b kn dn).1, .slice Ar (rsAt o inn mem a b kn (findW o inn mem a b kn dn).1).length cr, .slice As (findS o inn mem a b kn).length cs], .int .i64 (findW o inn mem a b kn dn).2.1, .int .i64 0]) ∧
   (rsAt o inn mem a b kn (findW o inn mem a b kn dn).1).length ≤ cr ∧ NwB w.heap.size w' Ar (rsAt o inn mem a b kn (findW o inn mem a b kn dn).1) ∧ (findS o inn mem a b kn).length ≤ cs ∧ Nw w.heap.size w' As (findS o inn mem a b kn) ∧ MachO n Bm o (findW o inn mem a b kn dn).2.2 w' ∧ Chg (fun i => i = Bm) w w' := by
 have hbd := right_bounds G.right
 have hBlt := h.blk
 have HI := Aside0.mk (And.intro hi hm)
 have HA := Aside0.mk (And.intro ha hb)
 have HIN := Aside0.mk (And.intro aa (And.intro ab (And.intro ai am)))
 have HF := Aside0.mk (And.intro hf hl)
 have H := Aside0.mk h
 clear hi hm ha hb aa ab ai am hf hl h
 go_enter Tryz.func53, Tryz.ntmps53
 go_wp2_with fail
 obtain ⟨w1, hw1⟩ : ∃ z, (((((((w.alloc (Obj.cells #[.pointer (some ⟨Bm, 0, none⟩)] 31)).alloc (Obj.cells #[.slice Ai inn.length ci] 23)).alloc (Obj.cells #[.slice Am mem.length cm] 23)).alloc (Obj.cells #[.slice Aa a.length ca] 23)).alloc (Obj.cells #[.slice Ab b.length cb] 23)).alloc (Obj.cells #[.int .i64 (kn : Int)] 3)).alloc (Obj.cells #[.int .i64 0, .slice none 0 0, .slice none 0 0] 72)) = z := ⟨_, rfl⟩
 rw [hw1]
 obtain ⟨q0, q1, q2, q3, q4, q5, q6, hb1, hz1⟩ := seven_allocs w _ _ _ _ _ _ _ _ hw1
 clear hw1
 have BI := Aside0.mk (And.intro (HI.out.1.below hb1) (HI.out.2.below hb1))
 have BA := Aside0.mk (And.intro (HA.out.1.below hb1) (HA.out.2.below hb1))
 have M1 := Aside0.mk ((MachAt.start H.out).below hb1)
 have Qb := Aside0.mk (And.intro q0 (And.intro q1 (And.intro q2 (And.intro q3 (And.intro q4 (And.intro q5 q6))))))
 have B1 := Aside0.mk hb1
 clear q0 q1 q2 q3 q4 q5 q6 hb1
 refine (zero_at M1.out G Ai Aa Am ci ca cm inn a mem BI.out.1 BA.out.1 BI.out.2 HF.out.1 HIN.out.2.2.1 HIN.out.1 HIN.out.2.2.2 hd0 (by omega)).mono ?_
 rintro e w2 ⟨v2, rfl, hR2, hM2, hc2⟩
 obtain ⟨A2, c2, rfl, hl2, hN2⟩ := Nw.of_R' hR2
 have M2 := Aside0.mk hM2
 have N2 := Aside0.mk (And.intro hN2 hl2)
 have C2 := Aside0.mk hc2
 have Q2 := Aside0.mk (show ∀ i x, i ≠ Bm → w1.heap[i]? = some x → w2.heap[i]? = some x from fun i x hi hx => (hc2.block _ (lt_of_block hx) hi).trans hx)
 have hz2 : w1.heap.size ≤ w2.heap.size := hc2.size
 clear hR2 hM2 hc2 hN2 hl2
 have hk0 : decide ((kn : Int) < 0) = false := decide_eq_false (by omega)
 have hk1 : decide ((kn : Int) > 32) = false := decide_eq_false (by omega)
 have hne : decide ((a.length : Int) = (b.length : Int)) = true := decide_eq_true (by rw [HF.out.2])
 have hnb : ((a.length : Int) != (b.length : Int)) = false := by rw [HF.out.2]; simp
 have hsh : shl .i64 1 (kn : Int) = fHigh kn := Pure.pow_tab ⟨kn, by omega⟩
 have g3 : ∀ x y, ((w2.alloc x).alloc y).cell? ⟨w.heap.size + 1 + 1 + 1, 0, none⟩ = some (.slice Aa a.length ca) := fun x y => (blk_cell (blk_alloc (blk_alloc (Q2.out _ _ (by omega) Qb.out.2.2.2.1) x) y) 0).trans rfl
 have g4 : ∀ x y, ((w2.alloc x).alloc y).cell? ⟨w.heap.size + 1 + 1 + 1 + 1, 0, none⟩ = some (.slice Ab b.length cb) := fun x y => (blk_cell (blk_alloc (blk_alloc (Q2.out _ _ (by omega) Qb.out.2.2.2.2.1) x) y) 0).trans rfl
 have g5 : ∀ x y, ((w2.alloc x).alloc y).cell? ⟨w.heap.size + 1 + 1 + 1 + 1 + 1, 0, none⟩ = some (.int .i64 (kn : Int)) := fun x y => (blk_cell (blk_alloc (blk_alloc (Q2.out _ _ (by omega) Qb.out.2.2.2.2.2.1) x) y) 0).trans rfl
 go_wp2_with fail
 rw [wrap_pow hkn]
 obtain ⟨w3, hw3⟩ : ∃ z, ((w2.alloc (Obj.cells #[.slice A2 (zeroR o inn a mem).put.length c2] 23)).alloc (Obj.cells #[.int .i64 (zeroR o inn a mem).fl] 3)) = z := ⟨_, rfl⟩
 have hb3 : Below w2.heap.size w2 w3 := by rw [← hw3]; exact below_alloc (below_alloc (Below.refl _ _) _) _
 have hz3 : w3.heap.size = w2.heap.size + 1 + 1 := by rw [← hw3]; simp
 have p15 : w3.heap[w2.heap.size]? = some (.cells #[.slice A2 (zeroR o inn a mem).put.length c2] 23 (0, 0)) := by rw [← hw3]; exact blk_alloc (blk_new w2 _) _
 have p16 : w3.heap[w2.heap.size + 1]? = some (.cells #[.int .i64 (zeroR o inn a mem).fl] 3 (0, 0)) := by
  rw [← hw3]
  have h9 := blk_new (w2.alloc (Obj.cells #[.slice A2 (zeroR o inn a mem).put.length c2] 23)) (.cells #[.int .i64 (zeroR o inn a mem).fl] 3 (0, 0))
  simp only [World.size_alloc] at h9
  exact h9
 rw [hw3]
 clear hw3 g3 g4 g5 hsh hnb hne
 have Q3 : ∀ i x, i ≠ Bm → w1.heap[i]? = some x → w3.heap[i]? = some x := fun i x hi hx => (hb3.block _ (lt_of_block (Q2.out i x hi hx))).trans (Q2.out i x hi hx)
 have C3 := Aside0.mk (show Chg (fun i => i = Bm) w w3 from ((Chg.of_below B1.out _).then_ C2.out (fun _ hi => .inl hi)).below hb3)
 have L3 : ∀ {A : Option Addr} {l : List Int}, LI Bm w A l → Ld Bm w.heap.size w3 A l := fun hx => hx.Ld.chg C3.out (fun k hk => .inl hk)
 have hNz : ∀ ad, A2 = some ad → 0 < (zeroR o inn a mem).put.length → ad.block ≠ Bm ∧ ad.block ≠ w2.heap.size + 1 := fun ad ha hp => by
  have hc := N2.out.1.c
  have hg := N2.out.1.ge ad ha hp
  rw [ha] at hc
  have := C_lt hc hp (by decide)
  omega
 have FW3 := Aside0.mk (show FW w n Bm (w.heap.size + 1 + 1 + 1) (w.heap.size + 1 + 1 + 1 + 1) (w.heap.size + 1 + 1 + 1 + 1 + 1) w.heap.size (w.heap.size + 1) (w.heap.size + 1 + 1) w2.heap.size (w2.heap.size + 1) o Aa Ab Ai Am A2 ca cb ci cm c2 a b inn mem (zeroR o inn a mem).put (kn : Int) (zeroR o inn a mem).fl (dn + o.f7.length) w3 from
  ⟨Q3 _ _ (by omega) Qb.out.2.2.2.1, Q3 _ _ (by omega) Qb.out.2.2.2.2.1, Q3 _ _ (by omega) Qb.out.2.2.2.2.2.1, Q3 _ _ (by omega) Qb.out.1, Q3 _ _ (by omega) Qb.out.2.1, Q3 _ _ (by omega) Qb.out.2.2.1, p15, p16, by omega, by omega, hca, hcb, N2.out.2,
   L3 HA.out.1, L3 HA.out.2, L3 HI.out.1, L3 HI.out.2, Kd.C_below N2.out.1.c hb3, hNz, M2.out.below hb3⟩)
 have Q6 := Aside0.mk (show w3.heap[w.heap.size + 1 + 1 + 1 + 1 + 1 + 1]? = _ from Q3 _ _ (by omega) Qb.out.2.2.2.2.2.2)
 clear p15 p16 hb3 Q3 L3 hNz Qb Q2 BA BI M1 M2 N2 C2
 refine (fat_any FW3.out G (fHigh kn) HF.out.1 HF.out.2 HIN.out.1 HIN.out.2.1 HIN.out.2.2.1 HIN.out.2.2.2 (by omega) (by omega)).mono ?_
 rintro e w4 ⟨A4, c4, As4, cs4, rfl, hl4, hN4, hls4, hNs4, hFW4, hC4⟩
 have FW4 := Aside0.mk hFW4
 have N4 := Aside0.mk (And.intro hl4 (And.intro hN4 (And.intro hls4 hNs4)))
 have C4 := Aside0.mk (show Chg (fun i => i = Bm) w w4 from C3.out.then_ hC4 (fun i hi => by rcases hi with h8 | h8; exact .inl h8; exact .inr (by omega)))
 have Q64 := Aside0.mk ((hC4.block _ (lt_of_block Q6.out) (by omega)).trans Q6.out)
 have hz4 : w3.heap.size ≤ w4.heap.size := hC4.size
 clear hl4 hN4 hls4 hNs4 hFW4 hC4 FW3 Q6 C3
 obtain ⟨kA, hkA⟩ := (any_ev (rsAt o inn mem a b (kn : Int) (fHigh kn)) (by unfold rsAt; rw [Pure.raisV_length]; omega)).rounds
 have HKA := Aside0.mk hkA
 clear hkA
 go_wp2_with fail
 obtain ⟨w5, hw5⟩ : ∃ z, w4.alloc (Obj.cells #[.int .i64 (fHigh kn), .slice A4 (rsAt o inn mem a b (kn : Int) (fHigh kn)).length c4, .slice As4 (betL a b (fHigh kn) (kn : Int)).length cs4] 72) = z := ⟨_, rfl⟩
 have hb5 : Below w4.heap.size w4 w5 := by rw [← hw5]; exact below_alloc (Below.refl _ _) _
 have P5 := Aside0.mk (show w5.heap[w4.heap.size]? = some (.cells #[.int .i64 (fHigh kn), .slice A4 (rsAt o inn mem a b (kn : Int) (fHigh kn)).length c4, .slice As4 (betL a b (fHigh kn) (kn : Int)).length cs4] 72 (0, 0)) by rw [← hw5]; exact blk_new w4 _)
 rw [hw5]
 clear hw5
 have L5 := Aside0.mk (show FL w n Bm (w.heap.size + 1 + 1 + 1) (w.heap.size + 1 + 1 + 1 + 1) (w.heap.size + 1 + 1 + 1 + 1 + 1) w.heap.size (w.heap.size + 1) (w.heap.size + 1 + 1) w2.heap.size (w2.heap.size + 1) o Aa Ab Ai Am A2 ca cb ci cm c2 a b inn mem (kn : Int) (w.heap.size + 1 + 1 + 1 + 1 + 1 + 1) w4.heap.size A4 As4 c4 cs4 (fHigh kn) (atF o inn mem a b (kn : Int) (fHigh kn) (zeroR o inn a mem).fl) (dn + o.f7.length + o.f7.length) w5 from
  ⟨FW4.out.below hb5, (hb5.block _ (lt_of_block Q64.out)).trans Q64.out, P5.out, (N4.out.2.1.lower (by omega)).below hb5, N4.out.1, (N4.out.2.2.2.lower (by omega)).below hb5, N4.out.2.2.1, C4.out.below hb5, by omega, by omega, by omega, by have := lt_of_block Q64.out; omega⟩)
 clear hb5 P5 Q64 N4 C4
 refine (X.cross_Any.calls kA A4 c4 _ _ w5 L5.out.nr.c L5.out.lr HKA.out).mono ?_
 rintro e w6 ⟨rfl, hd6⟩
 have L6 := Aside0.mk (L5.out.below hd6.below)
 clear hd6 L5 HKA
 cases hany : anyV (rsAt o inn mem a b (kn : Int) (fHigh kn)) with
 | false =>
  have eW : findW o inn mem a b kn dn = (fHigh kn, atF o inn mem a b (kn : Int) (fHigh kn) (zeroR o inn a mem).fl, dn + o.f7.length + o.f7.length) := by unfold findW; rw [hany]; rfl
  have eS : findS o inn mem a b kn = b := by unfold findS; rw [hany]; rfl
  go_wp2_with fail
  have L7 := Aside0.mk (L6.out.below (below_drew1 (Below.refl _ _)))
  have hz7 : w4.heap.size < w6.drew.heap.size := lt_of_block L7.out.p20
  refine start_ (n := 11) (S := fun w' => w'.cell? ⟨w4.heap.size, 0, none⟩ = some (.int .i64 (fHigh kn)) ∧ w'.cell? ⟨w4.heap.size, 1, none⟩ = some (.slice A4 (rsAt o inn mem a b (kn : Int) (fHigh kn)).length c4) ∧ w'.cell? ⟨w.heap.size + 1 + 1 + 1 + 1, 0, none⟩ = some (.slice Ab b.length cb) ∧ w'.cell? ⟨w2.heap.size + 1, 0, none⟩ = some (.int .i64 (atF o inn mem a b (kn : Int) (fHigh kn) (zeroR o inn a mem).fl))) (ds := []) (Array.replicate 11 false) (by kernel_rfl) rfl rfl ⟨(blk_cell L7.out.p20 0).trans rfl, (blk_cell L7.out.p20 1).trans rfl, (blk_cell L7.out.F.pb 0).trans rfl, (blk_cell L7.out.F.p16 0).trans rfl⟩ (fun hHeld => ?_); refine with_tabW fd9_tab fd9_bits (fun HT_ HW_ => ?_)
  refine pu HT_ 0 60 rfl rfl (by kernel_rfl) (fun _ _ _ h => h) (by rfl) (by intro w'; go_simp; with_reducible rfl) (by simp only [Act.put, sA, sB, sC, i64_w, i32_w]; rfl) ?_
  refine tk HT_ HW_ hHeld 1 61 rfl rfl (by kernel_rfl) (fun _ _ _ h => h) (by rfl) (by rintro w' ⟨s0, s1, s2, s3⟩; go_simp; with_reducible rfl) (by simp only [Act.put, sA, sB, sC, i64_w, i32_w]; rfl) ?_
  refine pu HT_ 2 62 rfl rfl (by kernel_rfl) (fun _ _ _ h => h) (by rfl) (by intro w'; go_simp; with_reducible rfl) (by simp only [Act.put, sA, sB, sC, i64_w, i32_w]; rfl) ?_
  refine tk HT_ HW_ hHeld 3 63 rfl rfl (by kernel_rfl) (fun _ _ _ h => h) (by rfl) (by rintro w' ⟨s0, s1, s2, s3⟩; go_simp; with_reducible rfl) (by simp only [Act.put, sA, sB, sC, i64_w, i32_w]; rfl) ?_
  refine tk HT_ HW_ hHeld 4 64 rfl rfl (by kernel_rfl) (fun _ _ _ h => h) (by rfl) (by rintro w' ⟨s0, s1, s2, s3⟩; go_simp; with_reducible rfl) (by simp only [Act.put, sA, sB, sC, i64_w, i32_w]; rfl) ?_
  refine tk HT_ HW_ hHeld 7 67 rfl rfl (by kernel_rfl) (fun _ _ _ h => h) (by rfl) (by rintro w' ⟨s0, s1, s2, s3⟩; go_simp; with_reducible rfl) (by simp only [Act.put, sA, sB, sC, i64_w, i32_w]; rfl) ?_
  refine on1 HT_ 5 (some 65) rfl rfl (by kernel_rfl) (by decide) (fun K hK => ?_)
  refine goes_ Tryz.func71 (by kernel_rfl) rfl #[.slice Ab b.length cb] (by rfl) rfl rfl (by (try simp only [List.map_toArray, List.map_cons, List.map_nil]); first | done | rfl) ?_
  refine (clone23 Ab cb b _ L7.out.F.lb.c (by have h1 := HF.out.1.2.1; have h2 := HF.out.2; omega)).mono ?_
  rintro e w8 ⟨v8, rfl, hR8, hb8⟩
  obtain ⟨A8, c8, rfl, hl8, hN8⟩ := Nw.of_R' hR8
  have N8 := Aside0.mk (And.intro hl8 hN8)
  have L8 := Aside0.mk (L7.out.below hb8)
  refine ⟨_, rfl, ?_⟩
  refine hK.out _ _ ⟨(blk_cell L8.out.p20 0).trans rfl, (blk_cell L8.out.p20 1).trans rfl, (blk_cell L8.out.F.pb 0).trans rfl, (blk_cell L8.out.F.p16 0).trans rfl⟩ (fun hHeld => ?_)
  clear hR8 hl8 hN8 L7 L6
  clear hK K
  refine norm_ (by show Act.put _ (some 65) _ = _; simp only [Act.put, sA, sB, sC, i64_w, i32_w]; rfl) ?_
  refine pu HT_ 6 66 rfl rfl (by kernel_rfl) (fun _ _ _ h => h) (by rfl) (by intro w'; go_simp; with_reducible rfl) (by simp only [Act.put, sA, sB, sC, i64_w, i32_w]; rfl) ?_
  have f0 := blk_frozen L8.out.p12 0
  have f1 := blk_frozen L8.out.p12 1
  have f2 := blk_frozen L8.out.p12 2
  have q0 := (blk_cell L8.out.p12 0).trans rfl
  have q1 := (blk_cell L8.out.p12 1).trans rfl
  have q2 := (blk_cell L8.out.p12 2).trans rfl
  refine on1 HT_ 8 none rfl rfl (by kernel_rfl) (by decide) (fun K hK => ?_)
  refine skip_ (w1 := ?_) (by rfl) rfl ?_ ?_
  rotate_left
  · go_simp
    rfl
  obtain ⟨w9, hw9⟩ : ∃ z, ((w8.setCell ⟨w.heap.size + 1 + 1 + 1 + 1 + 1 + 1, 0, none⟩ (.int .i64 (fHigh kn))).setCell ⟨w.heap.size + 1 + 1 + 1 + 1 + 1 + 1, 1, none⟩ (.slice A4 (rsAt o inn mem a b (kn : Int) (fHigh kn)).length c4)).setCell ⟨w.heap.size + 1 + 1 + 1 + 1 + 1 + 1, 2, none⟩ (.slice A8 b.length c8) = z := ⟨_, rfl⟩
  rw [hw9]
  have hc9 : Chg (fun i => i = w.heap.size + 1 + 1 + 1 + 1 + 1 + 1) w8 w9 := by rw [← hw9]; exact chg_three _ _ _ _ _
  have hW9 : w9.heap[w.heap.size + 1 + 1 + 1 + 1 + 1 + 1]? = some (.cells #[.int .i64 (fHigh kn), .slice A4 (rsAt o inn mem a b (kn : Int) (fHigh kn)).length c4, .slice A8 b.length c8] 72 (0, 0)) := by rw [← hw9]; exact row_three L8.out.p12 _ _ _
  clear hw9 f0 f1 f2 q0 q1 q2
  have K9 := Aside0.mk (show ∀ i x, i ≠ w.heap.size + 1 + 1 + 1 + 1 + 1 + 1 → w8.heap[i]? = some x → w9.heap[i]? = some x from fun i x hi hx => (hc9.block _ (lt_of_block hx) hi).trans hx)
  refine hK.out _ _ ⟨(blk_cell (K9.out _ _ L8.out.n12.symm L8.out.p20) 0).trans rfl, (blk_cell (K9.out _ _ L8.out.n12.symm L8.out.p20) 1).trans rfl, (blk_cell (K9.out _ _ (by omega) L8.out.F.pb) 0).trans rfl, (blk_cell (K9.out _ _ (by omega) L8.out.F.p16) 0).trans rfl⟩ (fun hHeld => ?_)
  have HW9 := Aside0.mk hW9
  have HC9 := Aside0.mk hc9
  clear hK K hW9 hc9
  have hany9 := Aside0.mk hany
  refine pu HT_ 9 13 rfl rfl (by kernel_rfl) (fun _ _ _ h => h) (by rfl) (by intro w'; go_simp; with_reducible rfl) (by simp only [Act.put, sA, sB, sC, i64_w, i32_w]; rfl) ?_
  refine pu HT_ 10 14 rfl rfl (by kernel_rfl) (fun _ _ _ h => h) (by rfl) (by intro w'; go_simp; with_reducible rfl) (by simp only [Act.put, sA, sB, sC, i64_w, i32_w]; rfl) ?_
  refine done_ (done_of HT_.out (by kernel_rfl)) ?_
  try go_wp2
  refine bodyPost_ret (results_list (rs := [.cell 12 72, .tmp 13, .tmp 14]) rfl (by simp) (.cell (w.heap.size + 1 + 1 + 1 + 1 + 1 + 1) 72 _ (0, 0) _ rfl HW9.out Tryz.underlying72 rfl (by kernel_rfl) (.tmp (.tmp .nil)))) rfl ?_
  rw [eW, eS]
  exact ⟨A4, c4, A8, c8, rfl, L8.out.lr, (L8.out.nr.chg HC9.out (fun i hi => by have hi2 : _ = _ := hi; omega)).lower (by omega), N8.out.1, (N8.out.2.chg HC9.out (fun i hi => by have hi2 : _ = _ := hi; omega)).lower (by omega), (L8.out.F.M.chg HC9.out (fun i hi => by have hi2 : _ = _ := hi; omega)).mach, L8.out.C.then_ HC9.out (fun i hi => .inr (by have hi2 : _ = _ := hi; omega))⟩
 | true =>
  have HANY := Aside0.mk hany
  clear hany
  have HEW := Aside0.mk (show bisW o inn mem a b (kn : Int) kn 0 (fHigh kn) (atF o inn mem a b (kn : Int) (fHigh kn) (zeroR o inn a mem).fl) (dn + o.f7.length + o.f7.length) = findW o inn mem a b kn dn by unfold findW; rw [if_pos HANY.out])
  have hp32 := Q.pow32 hkn
  have hFH : fHigh kn = (0 : Int) + ((2 ^ kn : Nat) : Int) := by unfold fHigh; omega
  go_wp2_with fail
  go_loopw [19] (fun low wr => ∃ (d : Nat) (lo hi fl' dn' : Int) (Ar As : Option Addr) (cr cs : Nat), low = .int .i64 lo ∧ Aside0 (hi = lo + ((2 ^ d : Nat) : Int)) ∧ 0 ≤ lo ∧ hi ≤ 4294967296 ∧ d ≤ 32 ∧ 0 ≤ dn' ∧ dn' + d * 4000 ≤ dn + 200000 ∧ Aside0 (bisW o inn mem a b (kn : Int) d lo hi fl' dn' = findW o inn mem a b kn dn) ∧ Aside0 (anyV (rsAt o inn mem a b (kn : Int) hi) = true) ∧ Aside0 (FL w n Bm (w.heap.size + 1 + 1 + 1) (w.heap.size + 1 + 1 + 1 + 1) (w.heap.size + 1 + 1 + 1 + 1 + 1) w.heap.size (w.heap.size + 1) (w.heap.size + 1 + 1) w2.heap.size (w2.heap.size + 1) o Aa Ab Ai Am A2 ca cb ci cm c2 a b inn mem (kn : Int) (w.heap.size + 1 + 1 + 1 + 1 + 1 + 1) w4.heap.size Ar As cr cs hi fl' dn' wr)) (fun low wr => (hiOf wr w4.heap.size - intOf low).toNat)
  case atStart => exact ⟨kn, 0, fHigh kn, _, _, A4, As4, c4, cs4, rfl, ⟨hFH⟩, by omega, by unfold fHigh; omega, hkn, by omega, by omega, HEW, HANY, by first | exact L6 | exact ⟨L6.out.below (below_drew1 (Below.refl _ _))⟩⟩
  case round =>
   clear L6 HEW
   obtain ⟨d, lo, hi, fl', dn', Ar, As, cr, cs, rfl, HE, h0, h1, hd, h2, h3, HW, HN, HL⟩ := hrel
   have kp : wr.cell? ⟨w4.heap.size, 0, none⟩ = some (.int .i64 hi) := (blk_cell HL.out.p20 0).trans rfl
   have hlt : lo < hi := by have e := HE.out; have hq := Nat.pow_pos (n := d) (show 0 < 2 by decide); generalize (2 ^ d : Nat) = q at e hq; omega
   have hwr : wrap64 (hi - lo) = hi - lo := wrap_in (by omega) (by omega)
   cases d with
   | zero =>
    have hgt : decide (hi - lo > 1) = false := decide_eq_false (by have e := HE.out; rw [Nat.pow_zero] at e; omega)
    go_wp2_with fail
    have HD := Aside0.mk (HL.out.below (below_drew1 (Below.refl _ _)))
    refine start_ (n := 5) (S := fun w' => w'.cell? ⟨w4.heap.size, 0, none⟩ = some (.int .i64 hi) ∧ w'.cell? ⟨w4.heap.size, 1, none⟩ = some (.slice Ar (rsAt o inn mem a b (kn : Int) hi).length cr) ∧ w'.cell? ⟨w4.heap.size, 2, none⟩ = some (.slice As (betL a b hi (kn : Int)).length cs) ∧ w'.cell? ⟨w2.heap.size + 1, 0, none⟩ = some (.int .i64 fl')) (ds := []) (Array.replicate 5 false) (by kernel_rfl) rfl rfl ⟨(blk_cell HD.out.p20 0).trans rfl, (blk_cell HD.out.p20 1).trans rfl, (blk_cell HD.out.p20 2).trans rfl, (blk_cell HD.out.F.p16 0).trans rfl⟩ (fun hHeld => ?_); refine with_tabW fd15_tab fd15_bits (fun HT_ HW_ => ?_)
    refine tk HT_ HW_ hHeld 0 86 rfl rfl (by kernel_rfl) (fun _ _ _ h => h) (by rfl) (by rintro w' ⟨s0, s1, s2, s3⟩; go_simp; with_reducible rfl) (by simp only [Act.put, sA, sB, sC, i64_w, i32_w]; rfl) ?_
    refine tk HT_ HW_ hHeld 1 87 rfl rfl (by kernel_rfl) (fun _ _ _ h => h) (by rfl) (by rintro w' ⟨s0, s1, s2, s3⟩; go_simp; with_reducible rfl) (by simp only [Act.put, sA, sB, sC, i64_w, i32_w]; rfl) ?_
    have f0 := blk_frozen HL.out.p12 0
    have f1 := blk_frozen HL.out.p12 1
    have f2 := blk_frozen HL.out.p12 2
    have q0 := (blk_cell HL.out.p12 0).trans rfl
    have q1 := (blk_cell HL.out.p12 1).trans rfl
    have q2 := (blk_cell HL.out.p12 2).trans rfl
    refine on1 HT_ 2 none rfl rfl (by kernel_rfl) (by decide) (fun K hK => ?_)
    refine skip_ (w1 := ?_) (by rfl) rfl ?_ ?_
    rotate_left
    · go_simp
      rfl
    obtain ⟨w9, hw9⟩ : ∃ z, (((wr.setCell ⟨w.heap.size + 1 + 1 + 1 + 1 + 1 + 1, 0, none⟩ (.int .i64 hi)).setCell ⟨w.heap.size + 1 + 1 + 1 + 1 + 1 + 1, 1, none⟩ (.slice Ar (rsAt o inn mem a b (kn : Int) hi).length cr)).setCell ⟨w.heap.size + 1 + 1 + 1 + 1 + 1 + 1, 2, none⟩ (.slice As (betL a b hi (kn : Int)).length cs)).drew = z := ⟨_, rfl⟩
    rw [hw9]
    have hc9 : Chg (fun i => i = w.heap.size + 1 + 1 + 1 + 1 + 1 + 1) wr w9 := by rw [← hw9]; exact (chg_three _ _ _ _ _).drew
    have hW9 : w9.heap[w.heap.size + 1 + 1 + 1 + 1 + 1 + 1]? = some (.cells #[.int .i64 hi, .slice Ar (rsAt o inn mem a b (kn : Int) hi).length cr, .slice As (betL a b hi (kn : Int)).length cs] 72 (0, 0)) := by rw [← hw9]; exact row_three HL.out.p12 _ _ _
    clear hw9 f0 f1 f2 q0 q1 q2
    have p20 := (hc9.block _ (lt_of_block HL.out.p20) HL.out.n12.symm).trans HL.out.p20
    refine hK.out _ _ ⟨(blk_cell p20 0).trans rfl, (blk_cell p20 1).trans rfl, (blk_cell p20 2).trans rfl, (blk_cell ((hc9.block _ (lt_of_block HL.out.F.p16) (by omega)).trans HL.out.F.p16) 0).trans rfl⟩ (fun hHeld => ?_)
    have HW9 := Aside0.mk hW9
    have HC9 := Aside0.mk hc9
    clear hK K hW9 hc9 p20
    refine pu HT_ 3 13 rfl rfl (by kernel_rfl) (fun _ _ _ h => h) (by rfl) (by intro w'; go_simp; with_reducible rfl) (by simp only [Act.put, sA, sB, sC, i64_w, i32_w]; rfl) ?_
    refine pu HT_ 4 14 rfl rfl (by kernel_rfl) (fun _ _ _ h => h) (by rfl) (by intro w'; go_simp; with_reducible rfl) (by simp only [Act.put, sA, sB, sC, i64_w, i32_w]; rfl) ?_
    refine done_ (done_of HT_.out (by kernel_rfl)) ?_
    try go_wp2
    refine bodyPost_ret (results_list (rs := [.cell 12 72, .tmp 13, .tmp 14]) rfl (by simp) (.cell (w.heap.size + 1 + 1 + 1 + 1 + 1 + 1) 72 _ (0, 0) _ rfl HW9.out Tryz.underlying72 rfl (by kernel_rfl) (.tmp (.tmp .nil)))) rfl ?_
    have eW := HW.out
    have eS : findS o inn mem a b kn = betL a b hi (kn : Int) := by
     have e9 := (find_dn o inn mem a b kn 0 dn).1
     unfold findS
     rw [if_pos HANY.out, e9, ← eW]
     rfl
    rw [eS, ← eW]
    exact ⟨Ar, cr, As, cs, rfl, HL.out.lr, (HL.out.nr.chg HC9.out (fun i hi => by have hi2 : _ = _ := hi; omega)).lower (by omega), HL.out.ls, (HL.out.ns.chg HC9.out (fun i hi => by have hi2 : _ = _ := hi; omega)).lower (by omega), (HL.out.F.M.chg HC9.out (fun i hi => by have hi2 : _ = _ := hi; omega)).mach, HL.out.C.then_ HC9.out (fun i hi => .inr (by have hi2 : _ = _ := hi; omega))⟩
   | succ d =>
    have hgt : decide (hi - lo > 1) = true := decide_eq_true (by have e := HE.out; have hq := Nat.pow_pos (n := d) (show 0 < 2 by decide); rw [Nat.pow_succ] at e; generalize (2 ^ d : Nat) = q at e hq; omega)
    go_wp2_with fail
    have hmid : wrap64 ((wrap64 (lo + hi)).tdiv 2) = (lo + hi) / 2 := by
     rw [wrap_in (x := lo + hi) (by omega) (by omega), Int.tdiv_eq_ediv_of_nonneg (by omega), wrap_in (by omega) (by omega)]
    try rw [hmid]
    obtain ⟨mid, hm⟩ : ∃ m, (lo + hi) / 2 = m := ⟨_, rfl⟩
    have HM := Aside0.mk hm
    have hml : lo < mid ∧ mid < hi ∧ mid = lo + ((2 ^ d : Nat) : Int) ∧ hi = mid + ((2 ^ d : Nat) : Int) := by have e := HE.out; have hq := Nat.pow_pos (n := d) (show 0 < 2 by decide); rw [Nat.pow_succ] at e; generalize (2 ^ d : Nat) = q at e hq ⊢; have hgt2 := of_decide_eq_true hgt; omega
    have HML := Aside0.mk hml.2.2
    have hm1 := hml.1
    have hm2 := hml.2.1
    rw [hm]
    clear hm hmid hml hgt hwr kp
    refine (fat_any HL.out.F G mid HF.out.1 HF.out.2 HIN.out.1 HIN.out.2.1 HIN.out.2.2.1 HIN.out.2.2.2 (by omega) (by omega)).mono ?_
    rintro e w7 ⟨A7, c7, As7, cs7, rfl, hl7, hN7, hls7, hNs7, hFW7, hC7⟩
    have FW7 := Aside0.mk hFW7
    have hzr : w4.heap.size < wr.heap.size := lt_of_block HL.out.p20
    have N7 := Aside0.mk (And.intro hl7 (And.intro hN7 (And.intro hls7 hNs7)))
    have C7 := Aside0.mk (show Chg (fun i => i = Bm) w w7 from HL.out.C.then_ hC7 (fun i hi => by rcases hi with h8 | h8; exact .inl h8; exact .inr (by omega)))
    have P7 := Aside0.mk (And.intro ((hC7.block _ (lt_of_block HL.out.p12) (by omega)).trans HL.out.p12) ((hC7.block _ (lt_of_block HL.out.p20) (by omega)).trans HL.out.p20))
    have hz7 : wr.heap.size ≤ w7.heap.size := hC7.size
    have CR7 := Aside0.mk hC7
    clear hl7 hN7 hls7 hNs7 hFW7 hC7
    obtain ⟨kB, hkB⟩ := (any_ev (rsAt o inn mem a b (kn : Int) mid) (by unfold rsAt; rw [Pure.raisV_length]; omega)).rounds
    have HKB := Aside0.mk hkB
    clear hkB
    go_wp2_with fail
    obtain ⟨w8, hw8⟩ : ∃ z, w7.alloc (Obj.cells #[.int .i64 mid, .slice A7 (rsAt o inn mem a b (kn : Int) mid).length c7, .slice As7 (betL a b mid (kn : Int)).length cs7] 72) = z := ⟨_, rfl⟩
    have hb8 : Below w7.heap.size w7 w8 := by rw [← hw8]; exact below_alloc (Below.refl _ _) _
    have P8 := Aside0.mk (show w8.heap[w7.heap.size]? = some (.cells #[.int .i64 mid, .slice A7 (rsAt o inn mem a b (kn : Int) mid).length c7, .slice As7 (betL a b mid (kn : Int)).length cs7] 72 (0, 0)) by rw [← hw8]; exact blk_new w7 _)
    rw [hw8]
    clear hw8
    have FW8 := Aside0.mk (FW7.out.below hb8)
    have N8 := Aside0.mk (And.intro N7.out.1 (And.intro (N7.out.2.1.below hb8) (And.intro N7.out.2.2.1 (N7.out.2.2.2.below hb8))))
    have C8 := Aside0.mk (C7.out.below hb8)
    have Q8 := Aside0.mk (And.intro ((hb8.block _ (lt_of_block P7.out.1)).trans P7.out.1) ((hb8.block _ (lt_of_block P7.out.2)).trans P7.out.2))
    have CR8 := Aside0.mk (CR7.out.below hb8)
    clear hb8 FW7 N7 C7 P7 CR7
    refine (X.cross_Any.calls kB A7 c7 _ _ w8 N8.out.2.1.c N8.out.1 HKB.out).mono ?_
    rintro e w9 ⟨rfl, hd9⟩
    have hb9 := hd9.below
    have FW9 := Aside0.mk (FW8.out.below hb9)
    have N9 := Aside0.mk (And.intro N8.out.1 (And.intro (N8.out.2.1.below hb9) (And.intro N8.out.2.2.1 (N8.out.2.2.2.below hb9))))
    have C9 := Aside0.mk (C8.out.below hb9)
    have Q9 := Aside0.mk (And.intro ((hb9.block _ (lt_of_block Q8.out.1)).trans Q8.out.1) ((hb9.block _ (lt_of_block Q8.out.2)).trans Q8.out.2))
    have P9 := Aside0.mk ((hb9.block _ (lt_of_block P8.out)).trans P8.out)
    have CR := Aside0.mk (CR8.out.below hb9)
    clear hb9 hd9 FW8 N8 C8 Q8 P8 HKB CR8
    cases hany : anyV (rsAt o inn mem a b (kn : Int) mid) with
    | true =>
     have HAN := Aside0.mk hany
     have HWN := Aside0.mk (show bisW o inn mem a b (kn : Int) d lo mid (atF o inn mem a b (kn : Int) mid fl') (dn' + o.f7.length) = findW o inn mem a b kn dn by rw [← HW.out, bis_succ, HM.out, if_pos hany])
     clear hany HN
     have f0 := blk_frozen Q9.out.2 0
     have f1 := blk_frozen Q9.out.2 1
     have f2 := blk_frozen Q9.out.2 2
     have q0 := (blk_cell Q9.out.2 0).trans rfl
     have q1 := (blk_cell Q9.out.2 1).trans rfl
     have q2 := (blk_cell Q9.out.2 2).trans rfl
     go_wp2_with (refine wpList_load_row rfl 72 _ rfl w7.heap.size rfl 72 #[.int .i64 mid, .slice A7 (rsAt o inn mem a b (kn : Int) mid).length c7, .slice As7 (betL a b mid (kn : Int)).length cs7] (0, 0) _ P9.out Tryz.underlying72 rfl (by kernel_rfl) ?_)
     obtain ⟨w10, hw10⟩ : ∃ z, ((w9.setCell ⟨w4.heap.size, 0, none⟩ (.int .i64 mid)).setCell ⟨w4.heap.size, 1, none⟩ (.slice A7 (rsAt o inn mem a b (kn : Int) mid).length c7)).setCell ⟨w4.heap.size, 2, none⟩ (.slice As7 (betL a b mid (kn : Int)).length cs7) = z := ⟨_, rfl⟩
     have hc10 : Chg (fun i => i = w4.heap.size) w9 w10 := by rw [← hw10]; exact chg_three _ _ _ _ _
     have hp10 : w10.heap[w4.heap.size]? = some (.cells #[.int .i64 mid, .slice A7 (rsAt o inn mem a b (kn : Int) mid).length c7, .slice As7 (betL a b mid (kn : Int)).length cs7] 72 (0, 0)) := by rw [← hw10]; exact row_three Q9.out.2 _ _ _
     rw [hw10]
     have e0 : hiOf wr w4.heap.size = hi := by unfold hiOf; rw [show wr.cell? ⟨w4.heap.size, 0, none⟩ = some (.int .i64 hi) from (blk_cell HL.out.p20 0).trans rfl]
     have e1 : hiOf w10 w4.heap.size = mid := by unfold hiOf; rw [show w10.cell? ⟨w4.heap.size, 0, none⟩ = some (.int .i64 mid) from (blk_cell hp10 0).trans rfl]
     rw [e0, e1]
     refine ⟨⟨d, lo, mid, _, _, A7, As7, c7, cs7, rfl, ⟨HML.out.1⟩, h0, by omega, by omega, by omega, by omega, HWN, HAN, ⟨⟨FW9.out.far FW4.out hc10 (fun i hi => by have hi2 : _ = _ := hi; omega), (hc10.block _ (lt_of_block Q9.out.1) (by omega)).trans Q9.out.1, hp10, (N9.out.2.1.chg hc10 (fun i hi => by have hi2 : _ = _ := hi; omega)).lower (by omega), N9.out.1, (N9.out.2.2.2.chg hc10 (fun i hi => by have hi2 : _ = _ := hi; omega)).lower (by omega), N9.out.2.2.1, C9.out.then_ hc10 (fun i hi => .inr (by have hi2 : _ = _ := hi; omega)), by omega, by omega, by omega, by omega⟩⟩⟩, ?_⟩
     show (mid - lo).toNat < (hi - lo).toNat
     omega
    | false =>
     have HAN := Aside0.mk hany
     have HWN := Aside0.mk (show bisW o inn mem a b (kn : Int) d mid hi (atF o inn mem a b (kn : Int) mid fl') (dn' + o.f7.length) = findW o inn mem a b kn dn by rw [← HW.out, bis_succ, HM.out, if_neg (by rw [hany]; decide)])
     clear hany
     have q0 : w9.cell? ⟨w7.heap.size, 0, none⟩ = some (.int .i64 mid) := (blk_cell P9.out 0).trans rfl
     go_wp2_with fail
     have e0 : hiOf wr w4.heap.size = hi := by unfold hiOf; rw [show wr.cell? ⟨w4.heap.size, 0, none⟩ = some (.int .i64 hi) from (blk_cell HL.out.p20 0).trans rfl]
     have e1 : hiOf w9 w4.heap.size = hi := by unfold hiOf; rw [show w9.cell? ⟨w4.heap.size, 0, none⟩ = some (.int .i64 hi) from (blk_cell Q9.out.2 0).trans rfl]
     rw [e0, e1]
     refine ⟨⟨d, mid, hi, _, _, Ar, As, cr, cs, rfl, ⟨HML.out.2⟩, by omega, h1, by omega, by omega, by omega, HWN, HN, ⟨⟨FW9.out, Q9.out.1, Q9.out.2, ?_, HL.out.lr, ?_, HL.out.ls, C9.out, by omega, by omega, by omega, by omega⟩⟩⟩, ?_⟩
     · exact HL.out.nr.chg CR.out (fun i hi => by have h9 : i = Bm ∨ i = w2.heap.size + 1 := hi; omega)
     · exact HL.out.ns.chg CR.out (fun i hi => by have h9 : i = Bm ∨ i = w2.heap.size + 1 := hi; omega)
     show (hi - mid).toNat < (hi - lo).toNat
     omega

/-- On a line that goes nowhere. -/
theorem lerp_same (a m k : Int) (ha : In64 a) : (Q.lerpV a a m k).1 = a := by
 unfold Q.lerpV Q.lerpD
 rw [Int.sub_self, Q.sat_in 0 ⟨by decide, by decide⟩]
 unfold Q.lerpP
 simp only [Int.natAbs_zero, Nat.zero_mul, Nat.zero_div]
 rw [show Q.sg (decide ((0 : Int) < 0)) 0 = 0 from rfl, Q.sat_in 0 ⟨by decide, by decide⟩, Int.add_zero, Q.sat_in a ha]
theorem betV_same (a : List Int) (m k : Int) (h : AllIn a) : ∀ n, n ≤ a.length → Q.betV a a m k n = a.take n
 | 0, _ => by simp [Q.betV]
 | n + 1, hn => by
  unfold Q.betV
  rw [betV_same a m k h n (by omega), lerp_same _ _ _ (h.at _)]
  exact Pure.rd_take n (by omega)
theorem betL_same (a : List Int) (m k : Int) (h : AllIn a) : betL a a m k = a := by
 unfold betL
 rw [betV_same a m k h a.length (Nat.le_refl _), List.take_length]
theorem rsAt_same (o : S26) (inn mem a : List Int) (m k : Int) (h : AllIn a) : anyV (rsAt o inn mem a a m k) = false := by
 unfold rsAt
 rw [betL_same a k m h]
 exact rais_none _ _

def pick3 {α : Type} (x y z : α) (j : Nat) : α := if j = 0 then x else if j = 1 then y else z
set_option maxHeartbeats 4000000 in
set_option maxRecDepth 100000 in
theorem crossNone_calls (o : S26) (A0 A1 A2 A3 A6 A7 A8 A9 : Option Addr) (c0 c1 c2 c3 c6 c7 c8 c9 : Nat) (Ai Am Aa : Option Addr) (ci cm ca : Nat) (inn mem a : List Int) (k : Int) (w : World)
 (HO : ObjC w o A0 A1 A2 A3 A6 A7 A8 A9 c0 c1 c2 c3 c6 c7 c8 c9) (HI : LstC w inn Ai ci) (HM : LstC w mem Am cm) (HA : LstC w a Aa ca) (hG : G26 o) (ai : AllIn inn) (am : AllIn mem) (aa : AllIn a) (hk : 0 ≤ k ∧ k ≤ 255) :
 Calls Tryz.prog 15 #[.agg #[.slice A0 o.f0.length c0, .slice A1 o.f1.length c1, .slice A2 o.f2.length c2, .slice A3 o.f3.length c3, .int .i64 o.f4, .int .i64 o.f5, .slice A6 o.f6.length c6, .slice A7 o.f7.length c7, .slice A8 o.f8.length c8, .slice A9 o.f9.length c9], .slice Ai inn.length ci, .slice Am mem.length cm, .slice Aa a.length ca, .int .u8 k] w
  fun e w' => e = .returned (.bool true) ∧ Below w.heap.size w w' := by
 have hu26 := Tryz.underlying26
 obtain ⟨kR, rr, hrr, hgood⟩ := right_good hG
 have HRR := Aside0.mk hrr
 have HO := Aside0.mk HO
 have HI := Aside0.mk HI
 have HM := Aside0.mk HM
 have HA := Aside0.mk HA
 have HIN := Aside0.mk (And.intro ai (And.intro am aa))
 have HK := Aside0.mk hk
 clear ai am aa hG hrr hk
 go_enter Tryz.func15, Tryz.ntmps15
 go_wp2_with (first | (go_at_call 49; refine (X.astrolabelaw20_alive.calls true _ rfl).mono ?_; rintro e w1 ⟨rfl, hb1⟩; have HB := Aside0.mk (below_step (below_alloc (Below.refl _ _) _) hb1 : Below w.heap.size w w1); have HX := Aside0.mk (show w1.heap[w.heap.size]? = some (.cells #[.slice A0 o.f0.length c0, .slice A1 o.f1.length c1, .slice A2 o.f2.length c2, .slice A3 o.f3.length c3, .int .i64 o.f4, .int .i64 o.f5, .slice A6 o.f6.length c6, .slice A7 o.f7.length c7, .slice A8 o.f8.length c8, .slice A9 o.f9.length c9] 26 (0, 0)) from (hb1.block _ (by simp)).trans (blk_new w _)); clear hb1) | (refine wpList_load_row rfl 26 _ rfl w.heap.size rfl 26 #[.slice A0 o.f0.length c0, .slice A1 o.f1.length c1, .slice A2 o.f2.length c2, .slice A3 o.f3.length c3, .int .i64 o.f4, .int .i64 o.f5, .slice A6 o.f6.length c6, .slice A7 o.f7.length c7, .slice A8 o.f8.length c8, .slice A9 o.f9.length c9] (0, 0) _ HX.out Tryz.underlying26 rfl (by kernel_rfl) ?_))
 obtain ⟨w2, hw2⟩ : ∃ z, w1.alloc (Obj.cells #[.slice Ai inn.length ci, .slice Am mem.length cm, .slice Aa a.length ca] 23) = z := ⟨_, rfl⟩
 have hb2 : Below w1.heap.size w1 w2 := by rw [← hw2]; exact below_alloc (Below.refl _ _) _
 have hr2 : w2.heap[w1.heap.size]? = some (.cells #[.slice Ai inn.length ci, .slice Am mem.length cm, .slice Aa a.length ca] 23 (0, 0)) := by rw [← hw2]; exact blk_new w1 _
 have hrow : ∀ j, j < 3 → w2.cell? ⟨w1.heap.size, j, none⟩ = some (.slice (pick3 Ai Am Aa j) (pick3 inn.length mem.length a.length j) (pick3 ci cm ca j)) := fun j hj => by
  rcases (by omega : j = 0 ∨ j = 1 ∨ j = 2) with rfl | rfl | rfl
  · exact (blk_cell hr2 0).trans rfl
  · exact (blk_cell hr2 1).trans rfl
  · exact (blk_cell hr2 2).trans rfl
 rw [hw2]
 have n1_ := Aside0.mk (below_step HB.out hb2)
 have n2_ := Aside0.mk ((hb2.block _ (lt_of_block HX.out)).trans HX.out)
 clear hw2 hb2 hr2 HB HX
 have HB := n1_
 have HX := n2_
 clear n1_ n2_
 refine (great20_o (HO.out.below HB.out) w1.heap.size 3 (pick3 Ai Am Aa) (pick3 inn.length mem.length a.length) (pick3 ci cm ca) (by decide) hrow).mono ?_
 rintro e w3 ⟨rfl, hb3⟩
 have n1_ := Aside0.mk (below_step (by repeat (first | exact HB.out | apply pw_below_drewN | apply below_drew1)) hb3)
 have n2_ := Aside0.mk ((hb3.block _ (lt_of_block HX.out)).trans HX.out)
 clear hb3 HB HX
 have HB := n1_
 have HX := n2_
 clear n1_ n2_
 clear hrow
 cases hgr : gr20 3 (pick3 inn.length mem.length a.length) o with
 | true =>
  go_wp2_with fail
  go_ret
  exact ⟨rfl, by repeat (first | exact HB.out | apply pw_below_drewN | apply below_drew1)⟩
 | false =>
  obtain ⟨hz0, hz1, hz2, hz3, hz4, hz5, hz6, hz7, hz8, hz9⟩ := cz10 (w := w3) (g := w.heap.size) HX.out
  go_wp2_with fail
  refine (right17_o (HO.out.below HB.out) kR rr HRR.out).mono ?_
  rintro e w4 ⟨rfl, hb4⟩
  have n1_ := Aside0.mk (below_step (by repeat (first | exact HB.out | apply pw_below_drewN | apply below_drew1)) hb4)
  have n2_ := Aside0.mk ((hb4.block _ (lt_of_block HX.out)).trans HX.out)
  clear hb4 HB HX
  have HB := n1_
  have HX := n2_
  clear n1_ n2_
  clear hz0 hz1 hz2 hz3 hz4 hz5 hz6 hz7 hz8 hz9
  cases rr with
  | false =>
   go_wp2_with fail
   go_ret
   exact ⟨rfl, by repeat (first | exact HB.out | apply pw_below_drewN | apply below_drew1)⟩
  | true =>
   have HGD := Aside0.mk (hgood rfl)
   clear hgood
   obtain ⟨hz0, hz1, hz2, hz3, hz4, hz5, hz6, hz7, hz8, hz9⟩ := cz10 (w := w4) (g := w.heap.size) HX.out
   go_wp2_with fail
   refine (fits18_o Ai Aa Am ci ca cm inn.length a.length mem.length).mono ?_
   rintro e w5 ⟨rfl, hb5⟩
   have n1_ := Aside0.mk (below_step (by repeat (first | exact HB.out | apply pw_below_drewN | apply below_drew1)) hb5)
   have n2_ := Aside0.mk ((hb5.block _ (lt_of_block HX.out)).trans HX.out)
   clear hb5 HB HX
   have HB := n1_
   have HX := n2_
   clear n1_ n2_
   clear hz0 hz1 hz2 hz3 hz4 hz5 hz6 hz7 hz8 hz9
   by_cases hf : Fits o inn a mem
   · have HF := Aside0.mk hf
     have hfd : decide (inn.length = o.f0.length ∧ a.length = o.f2.length ∧ mem.length = o.f3.length) = true := decide_eq_true hf
     rw [hfd]
     clear hf hfd
     go_wp2_with (refine wpList_load_row rfl 26 _ rfl w.heap.size rfl 26 #[.slice A0 o.f0.length c0, .slice A1 o.f1.length c1, .slice A2 o.f2.length c2, .slice A3 o.f3.length c3, .int .i64 o.f4, .int .i64 o.f5, .slice A6 o.f6.length c6, .slice A7 o.f7.length c7, .slice A8 o.f8.length c8, .slice A9 o.f9.length c9] (0, 0) _ HX.out Tryz.underlying26 rfl (by kernel_rfl) ?_)
     refine (new_o (HO.out.below HB.out) HGD.out).mono ?_
     rintro e w6 ⟨Bm, rfl, hM6, hb6⟩
     have hn5 := HB.out.size
     have n1_ := Aside0.mk (below_step (by repeat (first | exact HB.out | apply pw_below_drewN | apply below_drew1)) hb6)
     have n2_ := Aside0.mk ((hb6.block _ (lt_of_block HX.out)).trans HX.out)
     clear hb6 HB HX
     have HB := n1_
     have HX := n2_
     clear n1_ n2_
     have M6 := Aside0.mk hM6
     have hBm := hM6.blk
     clear hM6
     obtain ⟨K, hK, hK32⟩ : ∃ K : Nat, k.tmod 33 = (K : Int) ∧ K ≤ 32 := by
      have hk := HK.out
      refine ⟨(k % 33).toNat, ?_, by omega⟩
      rw [Int.tmod_eq_emod_of_nonneg hk.1]
      omega
     have hwK : wrap64 (K : Int) = (K : Int) := wrap_in (by omega) (by omega)
     have hwp := wrap_pow hK32
     have LI6 : ∀ {A : Option Addr} {l : List Int} {c : Nat}, LstC w l A c → LI Bm w6 A l := fun h => (h.old HB.out hn5).LI hBm.1
     go_wp2_with fail
     refine (find_any M6.out HGD.out Ai Am Aa Aa ci cm ca ca inn mem a a (LI6 HI.out) (LI6 HM.out) (LI6 HA.out) (LI6 HA.out) HA.out.h HA.out.h K hK32 HF.out rfl HIN.out.2.2 HIN.out.2.2 HIN.out.1 HIN.out.2.1 (by omega) (by omega)).mono ?_
     rintro e w7 ⟨Ar, cr, As, cs, rfl, hlr, hNr, hls, hNs, hM7, hC7⟩
     have eR : anyV (rsAt o inn mem a a (K : Int) (fHigh K)) = false := rsAt_same o inn mem a (K : Int) (fHigh K) HIN.out.2.2
     have eW : (findW o inn mem a a K 0).1 = fHigh K := by unfold findW; rw [if_neg (by rw [eR]; decide)]
     have eS : findS o inn mem a a K = a := by unfold findS; rw [if_neg (by rw [eR]; decide)]
     rw [eW] at hlr hNr ⊢
     rw [eS] at hls hNs ⊢
     have hbd := right_bounds HGD.out.right
     have hal : a.length ≤ 200 := by have := HF.out.2.1; omega
     have n1_ := Aside0.mk (hC7.to_below (n := w.heap.size) HB.out.size (fun i hi => by have : i = Bm := hi; have := hn5; have := hBm.1; first | omega | (simp at *; omega)) HB.out)
     have NR := Aside0.mk (And.intro hlr hNr)
     have NS := Aside0.mk (And.intro hls hNs)
     clear hlr hNr hls hNs hM7 hC7 HB HX M6 LI6 eW eS
     have HB := n1_
     clear n1_
     obtain ⟨kA, hkA⟩ := (any_ev (rsAt o inn mem a a (K : Int) (fHigh K)) (by unfold rsAt; rw [Pure.raisV_length]; omega)).rounds
     rw [eR] at hkA
     obtain ⟨kB, hkB⟩ := (any_ev (Pure.raisV a a a.length) (by rw [Pure.raisV_length]; omega)).rounds
     rw [rais_none] at hkB
     obtain ⟨kC, hkC⟩ := (raised_ev (l0 := a) (l1 := a) rfl rfl (by omega)).rounds
     obtain ⟨kN, hkN⟩ := (numbers_ev a (by omega)).rounds
     have HKS := Aside0.mk (And.intro hkA (And.intro hkB (And.intro hkC hkN)))
     clear hkA hkB hkC hkN eR
     go_wp2_with fail
     obtain ⟨w8, hw8⟩ : ∃ z, w7.alloc (Obj.cells #[.int .i64 (fHigh K), .slice Ar (rsAt o inn mem a a (K : Int) (fHigh K)).length cr, .slice As a.length cs] 72) = z := ⟨_, rfl⟩
     have hb8 : Below w7.heap.size w7 w8 := by rw [← hw8]; exact below_alloc (Below.refl _ _) _
     have X8 := Aside0.mk (show w8.heap[w7.heap.size]? = some (.cells #[.int .i64 (fHigh K), .slice Ar (rsAt o inn mem a a (K : Int) (fHigh K)).length cr, .slice As a.length cs] 72 (0, 0)) by rw [← hw8]; exact blk_new w7 _)
     rw [hw8]
     have n1_ := Aside0.mk (below_step HB.out hb8)
     have NR8 := Aside0.mk (NR.out.2.below hb8)
     have NS8 := Aside0.mk (NS.out.2.below hb8)
     clear HB hw8 hb8
     have HB := n1_
     clear n1_
     refine (X.cross_Any.calls kA Ar cr _ false w8 NR8.out.c NR.out.1 HKS.out.1).mono ?_
     rintro e w9 ⟨rfl, hd9⟩
     have hb9 := hd9.below
     have n1_ := Aside0.mk (below_step HB.out hb9)
     have X9 := Aside0.mk ((hb9.block _ (lt_of_block X8.out)).trans X8.out)
     have NS9 := Aside0.mk (NS8.out.below hb9)
     clear HB X8 NS8 hd9 hb9 NR8
     have HB := n1_
     clear n1_
     have q0 : w9.cell? ⟨w7.heap.size, 0, none⟩ = some (.int .i64 (fHigh K)) := (blk_cell X9.out 0).trans rfl
     have q2 : w9.cell? ⟨w7.heap.size, 2, none⟩ = some (.slice As a.length cs) := (blk_cell X9.out 2).trans rfl
     go_wp2_with (go_at_call 29; refine (astrolaberef14_Numbers.calls kN As cs a Aa ca a true _ NS9.out.c NS.out.1 (HA.out.below HB.out).r (HA.out.below HB.out).h HKS.out.2.2.2).mono ?_; rintro e w10 ⟨rfl, hb2⟩; have n1_ := Aside0.mk (below_step HB.out hb2.below); clear HB hb2; have HB := n1_; clear n1_)
     refine (X.cross_Raised.calls kC Aa ca a Aa ca a _ _ (HA.out.below HB.out).r (HA.out.below HB.out).h (HA.out.below HB.out).r (HA.out.below HB.out).h HKS.out.2.2.1).mono ?_
     rintro e w11 ⟨v11, rfl, hR11, hb11⟩
     obtain ⟨AB, cB, rfl, hlB, hB11⟩ := NwB.of_R' hR11
     have n1_ := Aside0.mk (below_step HB.out hb11)
     have NB := Aside0.mk (And.intro hlB hB11)
     clear HB hb11 hR11 hlB hB11
     have HB := n1_
     clear n1_
     go_wp2_with fail
     refine (X.cross_Any.calls kB AB cB _ false w11 NB.out.2.c NB.out.1 HKS.out.2.1).mono ?_
     rintro e w12 ⟨rfl, hd12⟩
     have n1_ := Aside0.mk (below_step HB.out hd12.below)
     clear HB hd12
     have HB := n1_
     clear n1_
     go_wp2_with fail
     go_ret
     exact ⟨rfl, by repeat (first | exact HB.out | apply pw_below_drewN | apply below_drew1)⟩
   · have hfd : decide (inn.length = o.f0.length ∧ a.length = o.f2.length ∧ mem.length = o.f3.length) = false := decide_eq_false hf
     rw [hfd]
     go_wp2_with fail
     go_ret
     exact ⟨rfl, by repeat (first | exact HB.out | apply pw_below_drewN | apply below_drew1)⟩
theorem crossNone_row (o : S26) (A0 A1 A2 A3 A6 A7 A8 A9 : Option Addr) (c0 c1 c2 c3 c6 c7 c8 c9 : Nat) (inn : List Int) (Ai : Option Addr) (ci : Nat) (mem : List Int) (Am : Option Addr) (cm : Nat) (a : List Int) (Aa : Option Addr) (ca : Nat) (k : Int) (w : World)
 (HO : ObjC w o A0 A1 A2 A3 A6 A7 A8 A9 c0 c1 c2 c3 c6 c7 c8 c9) (hG : G26 o) (HI : LstC w inn Ai ci) (ai : AllIn inn) (hl1 : inn.length * 8 ≤ 140737488351232) (HM : LstC w mem Am cm) (am : AllIn mem) (hl2 : mem.length * 8 ≤ 140737488351232) (HA : LstC w a Aa ca) (aa : AllIn a) (hl3 : a.length * 8 ≤ 140737488351232) (ik : (Lit.int .u8 k).wf = true) :
 Calls Tryz.prog 15 #[.agg #[.slice A0 o.f0.length c0, .slice A1 o.f1.length c1, .slice A2 o.f2.length c2, .slice A3 o.f3.length c3, .int .i64 o.f4, .int .i64 o.f5, .slice A6 o.f6.length c6, .slice A7 o.f7.length c7, .slice A8 o.f8.length c8, .slice A9 o.f9.length c9], .slice Ai inn.length ci, .slice Am mem.length cm, .slice Aa a.length ca, .int .u8 k] w
  fun e w' => e = .returned (.bool true) ∧ Below w.heap.size w w' :=
 crossNone_calls o A0 A1 A2 A3 A6 A7 A8 A9 c0 c1 c2 c3 c6 c7 c8 c9 Ai Am Aa ci cm ca inn mem a k w HO HI HM HA hG ai am aa (Pure.u8_in ik)
end Go.Proofs.YtgalkkolbobmbaaGreat.V
