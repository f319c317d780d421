/- The Go function verify.right: may an instruction be? -/
import Derived.Test.YtgalkkolbobmbaaGreatVHStable
import Derived.OrdersHeld

namespace Go.Proofs.YtgalkkolbobmbaaGreat.V
set_option linter.unusedSimpArgs false
open Go.RowKit Go.Proofs.YtgalkkolbobmbaaGreatW.PrintWords Go.Proofs.YtgalkkolbobmbaaGreatW.PrintLast Go.Proofs.YtgalkkolbobmbaaGreatW.PrintMore

def rowVal (op : Int) : Array Value := #[.bool (isD op), .bool (isA op), .bool (isB op), .bool (isC op)]
set_option maxRecDepth 20000 in
theorem row_index (o : Int) (h0 : 0 ≤ o) (h : o < 23) (w : World) : (Instr.index 205 (.agg rowsVal) (.int .i64 o)).run Tryz.prog w = .ok (.agg (rowVal o)) w := by
 rcases (by omega : o = 0 ∨ o = 1 ∨ o = 2 ∨ o = 3 ∨ o = 4 ∨ o = 5 ∨ o = 6 ∨ o = 7 ∨ o = 8 ∨ o = 9 ∨ o = 10 ∨ o = 11 ∨ o = 12 ∨ o = 13 ∨ o = 14 ∨ o = 15 ∨ o = 16 ∨ o = 17 ∨ o = 18 ∨ o = 19 ∨ o = 20 ∨ o = 21 ∨ o = 22) with rfl | rfl | rfl | rfl | rfl | rfl | rfl | rfl | rfl | rfl | rfl | rfl | rfl | rfl | rfl | rfl | rfl | rfl | rfl | rfl | rfl | rfl | rfl <;> kernel_rfl
theorem hereB_bounds {piece op : Int} (h : hereB piece op = true) : 1 ≤ op ∧ op ≤ 22 := by
 unfold hereB at h
 by_cases h1 : op = 5 ∨ op = 19 ∨ op = 21 ∨ op = 22
 · omega
 · rw [if_neg h1] at h
   by_cases h2 : op = 20
   · omega
   · rw [if_neg h2] at h; simpa using h
theorem hereB_put {piece : Int} (h : hereB piece 20 = true) (h0 : 0 ≤ piece) (h3 : piece < 4) : piece = 0 ∨ piece = 1 ∨ piece = 3 := by
 have : piece ≠ 2 := by simpa [hereB] using h
 omega
/-- What each operation of the region in verify.right leaves. -/
def rgA (rv : Array Value) (g : Nat) (op : Int) (row : Value) (o : Value) (piece : Int) (x : Value) (behind : Int) (pl : Value) (rc pc : Array Value) : Nat → (Nat → Value) → World → Prop
 | 0, vs, _ => vs 0 = .agg rv
 | 1, vs, _ => vs 1 = .pointer (some ⟨g + 1, 0, none⟩)
 | 2, vs, _ => vs 2 = .int .i64 op
 | 3, vs, _ => vs 3 = row
 | 4, vs, _ => vs 4 = o
 | 5, vs, _ => vs 5 = .int .i64 piece
 | 6, vs, _ => vs 6 = x
 | 7, vs, _ => vs 7 = .int .i64 behind
 | 8, vs, _ => vs 8 = pl
 | 9, vs, W => ∃ gr, vs 9 = .pointer (some ⟨gr, 0, none⟩) ∧ g + 1 < gr ∧ ∃ z0 z1 z2 z3, W.heap[gr]? = some (.cells #[z0, z1, z2, z3] 204 (0, 0))
 | 10, vs, W => ∃ gr, vs 10 = .pointer (some ⟨gr, 0, none⟩) ∧ g + 1 < gr ∧ ∃ z0 z1 z2, W.heap[gr]? = some (.cells #[z0, z1, z2] 300 (0, 0))
 | 11, vs, W => ∃ gr, vs 9 = .pointer (some ⟨gr, 0, none⟩) ∧ W.heap[gr]? = some (.cells rc 204 (0, 0))
 | 12, vs, W => ∃ gr, vs 10 = .pointer (some ⟨gr, 0, none⟩) ∧ W.heap[gr]? = some (.cells pc 300 (0, 0))
 | _, _, _ => True
theorem upd_ne {vs : Nat → Value} {i j : Nat} {v : Value} (h : j ≠ i) : upd vs i v j = vs j := by simp [upd, h]
theorem rgA_keep {rv : Array Value} {g : Nat} {op : Int} {row o : Value} {piece : Int} {x : Value} {behind : Int} {pl : Value} {rc pc : Array Value} {i j : Nat} {vs : Nat → Value} {v : Value} {W W' : World}
 (hB : Below W.heap.size W W') (hji : j ≠ i) (h9 : i = 9 → j ≠ 11) (h10 : i = 10 → j ≠ 12) (h : rgA rv g op row o piece x behind pl rc pc j vs W) : rgA rv g op row o piece x behind pl rc pc j (upd vs i v) W' := by
 match j, hji, h9, h10, h with
 | 0, hji, _, _, h => exact (upd_ne hji).trans h
 | 1, hji, _, _, h => exact (upd_ne hji).trans h
 | 2, hji, _, _, h => exact (upd_ne hji).trans h
 | 3, hji, _, _, h => exact (upd_ne hji).trans h
 | 4, hji, _, _, h => exact (upd_ne hji).trans h
 | 5, hji, _, _, h => exact (upd_ne hji).trans h
 | 6, hji, _, _, h => exact (upd_ne hji).trans h
 | 7, hji, _, _, h => exact (upd_ne hji).trans h
 | 8, hji, _, _, h => exact (upd_ne hji).trans h
 | 9, hji, _, _, ⟨gr, h1, h2, z0, z1, z2, z3, h3⟩ => exact ⟨gr, (upd_ne hji).trans h1, h2, z0, z1, z2, z3, below_heap hB h3⟩
 | 10, hji, _, _, ⟨gr, h1, h2, z0, z1, z2, h3⟩ => exact ⟨gr, (upd_ne hji).trans h1, h2, z0, z1, z2, below_heap hB h3⟩
 | 11, _, h9, _, ⟨gr, h1, h3⟩ => exact ⟨gr, (upd_ne (fun hh => h9 hh.symm rfl)).trans h1, below_heap hB h3⟩
 | 12, _, _, h10, ⟨gr, h1, h3⟩ => exact ⟨gr, (upd_ne (fun hh => h10 hh.symm rfl)).trans h1, below_heap hB h3⟩
 | n + 13, _, _, _, _ => exact True.intro
theorem rgA_st11 {rv : Array Value} {g : Nat} {op : Int} {row o : Value} {piece : Int} {x : Value} {behind : Int} {pl : Value} {rc pc : Array Value} {j gr : Nat} {vs : Nat → Value} {v : Value} {W : World} {z0 z1 z2 z3 y0 y1 y2 y3 : Value}
 (h9v : vs 9 = .pointer (some ⟨gr, 0, none⟩)) (hgc : W.heap[gr]? = some (.cells #[z0, z1, z2, z3] 204 (0, 0))) (hji : j ≠ 11) (h : rgA rv g op row o piece x behind pl rc pc j vs W) : rgA rv g op row o piece x behind pl rc pc j (upd vs 11 v) (W.setRow gr #[y0, y1, y2, y3]) := by
 have hne : ∀ {k : Nat} {cs : Array Value}, W.heap[k]? = some (.cells cs 300 (0, 0)) → k ≠ gr := fun {k cs} hk hkg => by
  subst hkg; rw [hgc] at hk; cases hk
 match j, hji, h with
 | 0, hji, h => exact (upd_ne hji).trans h
 | 1, hji, h => exact (upd_ne hji).trans h
 | 2, hji, h => exact (upd_ne hji).trans h
 | 3, hji, h => exact (upd_ne hji).trans h
 | 4, hji, h => exact (upd_ne hji).trans h
 | 5, hji, h => exact (upd_ne hji).trans h
 | 6, hji, h => exact (upd_ne hji).trans h
 | 7, hji, h => exact (upd_ne hji).trans h
 | 8, hji, h => exact (upd_ne hji).trans h
 | 9, hji, ⟨gq, h1, h2, q0, q1, q2, q3, h3⟩ => exact ⟨gr, (upd_ne hji).trans h9v, by rw [h9v] at h1; injection h1 with h1; injection h1 with h1; injection h1 with h1; omega, _, _, _, _, setRow_heap _ _ _ _ _ _ hgc⟩
 | 10, hji, ⟨gq, h1, h2, q0, q1, q2, h3⟩ => exact ⟨gq, (upd_ne hji).trans h1, h2, _, _, _, (setRow_other W gr gq _ (hne h3)).trans h3⟩
 | 12, hji, ⟨gq, h1, h3⟩ => exact ⟨gq, (upd_ne (by decide)).trans h1, (setRow_other W gr gq _ (hne h3)).trans h3⟩
 | 11, hji, _ => exact absurd rfl hji
 | k + 13, _, _ => exact True.intro
theorem rgA_st12 {rv : Array Value} {g : Nat} {op : Int} {row o : Value} {piece : Int} {x : Value} {behind : Int} {pl : Value} {rc pc : Array Value} {j gr : Nat} {vs : Nat → Value} {v : Value} {W : World} {z0 z1 z2 y0 y1 y2 : Value}
 (h9v : vs 10 = .pointer (some ⟨gr, 0, none⟩)) (hgc : W.heap[gr]? = some (.cells #[z0, z1, z2] 300 (0, 0))) (hji : j ≠ 12) (h : rgA rv g op row o piece x behind pl rc pc j vs W) : rgA rv g op row o piece x behind pl rc pc j (upd vs 12 v) (W.setRow gr #[y0, y1, y2]) := by
 have hne : ∀ {k : Nat} {cs : Array Value}, W.heap[k]? = some (.cells cs 204 (0, 0)) → k ≠ gr := fun {k cs} hk hkg => by
  subst hkg; rw [hgc] at hk; cases hk
 match j, hji, h with
 | 0, hji, h => exact (upd_ne hji).trans h
 | 1, hji, h => exact (upd_ne hji).trans h
 | 2, hji, h => exact (upd_ne hji).trans h
 | 3, hji, h => exact (upd_ne hji).trans h
 | 4, hji, h => exact (upd_ne hji).trans h
 | 5, hji, h => exact (upd_ne hji).trans h
 | 6, hji, h => exact (upd_ne hji).trans h
 | 7, hji, h => exact (upd_ne hji).trans h
 | 8, hji, h => exact (upd_ne hji).trans h
 | 10, hji, ⟨gq, h1, h2, q0, q1, q2, h3⟩ => exact ⟨gr, (upd_ne hji).trans h9v, by rw [h9v] at h1; injection h1 with h1; injection h1 with h1; injection h1 with h1; omega, _, _, _, setRow_heap _ _ _ _ _ _ hgc⟩
 | 9, hji, ⟨gq, h1, h2, q0, q1, q2, q3, h3⟩ => exact ⟨gq, (upd_ne hji).trans h1, h2, _, _, _, _, (setRow_other W gr gq _ (hne h3)).trans h3⟩
 | 11, hji, ⟨gq, h1, h3⟩ => exact ⟨gq, (upd_ne (by decide)).trans h1, (setRow_other W gr gq _ (hne h3)).trans h3⟩
 | 12, hji, _ => exact absurd rfl hji
 | k + 13, _, _ => exact True.intro
/-- verify.right. -/
def rightB (nIn nOut nState nMem : Nat) (cross piece : Int) (x : S49) (behind : Int) : Bool :=
 hereB piece x.f0 && (x.f5 == 0 || x.f0 == 1) && (fieldB x.f1 (isD x.f0) (placeD nOut nState nMem cross piece x.f0) && (fieldB x.f2 (isA x.f0) (placeA nIn nState nMem cross x.f0) && (fieldB x.f3 (isB x.f0) (placeB behind x.f0) && fieldB x.f4 (isC x.f0) (-1))))
set_option maxHeartbeats 4000000 in
set_option maxRecDepth 20000 in
theorem right_any (s0 s1 s2 s3 : Option Addr) (n0 c0 n1 c1 n2 c2 n3 c3 : Nat) (cross a5 : Int) (a6 a7 a8 a9 : Value) (piece : Int) (op d a b c v : Int) (behind : Int) (w : World) (hp0 : 0 ≤ piece) (hp3 : piece < 4) :
 Calls Tryz.prog 206 #[.agg #[.slice s0 n0 c0, .slice s1 n1 c1, .slice s2 n2 c2, .slice s3 n3 c3, .int .i64 cross, .int .i64 a5, a6, a7, a8, a9], .int .i64 piece, .agg #[.int .i64 op, .int .i64 d, .int .i64 a, .int .i64 b, .int .i64 c, .int .i64 v], .int .i64 behind] w
  fun e w' => e = .returned (.bool (rightB n0 n1 n2 n3 cross piece ⟨op, d, a, b, c, v⟩ behind)) ∧ Below w.heap.size w w' := by
 obtain ⟨r, hr⟩ : ∃ r, rightB n0 n1 n2 n3 cross piece ⟨op, d, a, b, c, v⟩ behind = r := ⟨_, rfl⟩
 rw [hr]
 have HR := Aside0.mk hr
 clear hr
 obtain ⟨hb, hh⟩ : ∃ b, hereB piece op = b := ⟨_, rfl⟩
 have HH := Aside0.mk hh
 clear hh
 cases hb with
 | false =>
  have E := Aside0.mk (show r = false by rw [← HR.out]; simp [rightB, HH.out])
  clear HR
  go_enter Tryz.func206, Tryz.ntmps206
  go_wp2_with fail
  refine (here_any piece op _).mono ?_
  rintro e w' ⟨rfl, rfl⟩
  rw [HH.out]
  go_wp2
  go_ret
  exact ⟨by rw [E.out]; rfl, ((Below.refl _ _).alloc (Nat.le_refl _) _).alloc (by simp) _⟩
 | true =>
  by_cases hv0 : v = 0
  · subst hv0
    have E := Aside0.mk (show r = (fieldB d (isD op) (placeD n1 n2 n3 cross piece op) && (fieldB a (isA op) (placeA n0 n2 n3 cross op) && (fieldB b (isB op) (placeB behind op) && fieldB c (isC op) (-1)))) by
     rw [← HR.out]; simp [rightB, HH.out])
    clear HR
    obtain ⟨ho1, ho2⟩ := hereB_bounds HH.out
    have hrow := row_index op (by omega) (by omega)
    unfold rowVal at hrow
    have HP := Aside0.mk (show (op : Int) = 20 → piece = 0 ∨ piece = 1 ∨ piece = 3 from fun h => hereB_put (piece := piece) (by have := HH.out; rw [h] at this; exact this) hp0 hp3)
    clear ho1 ho2
    obtain ⟨f1, hf1⟩ : ∃ f, fieldB d (isD op) (placeD n1 n2 n3 cross piece op) = f := ⟨_, rfl⟩
    obtain ⟨f2, hf2⟩ : ∃ f, fieldB a (isA op) (placeA n0 n2 n3 cross op) = f := ⟨_, rfl⟩
    obtain ⟨f3, hf3⟩ : ∃ f, fieldB b (isB op) (placeB behind op) = f := ⟨_, rfl⟩
    obtain ⟨f4, hf4⟩ : ∃ f, fieldB c (isC op) (-1) = f := ⟨_, rfl⟩
    rw [hf1, hf2, hf3, hf4] at E
    obtain ⟨pD, hpD⟩ : ∃ f, placeD n1 n2 n3 cross piece op = f := ⟨_, rfl⟩
    obtain ⟨pA, hpA⟩ : ∃ f, placeA n0 n2 n3 cross op = f := ⟨_, rfl⟩
    obtain ⟨pB, hpB⟩ : ∃ f, placeB behind op = f := ⟨_, rfl⟩
    obtain ⟨bD, hbD⟩ : ∃ f, isD op = f := ⟨_, rfl⟩
    obtain ⟨bA, hbA⟩ : ∃ f, isA op = f := ⟨_, rfl⟩
    obtain ⟨bB, hbB⟩ : ∃ f, isB op = f := ⟨_, rfl⟩
    obtain ⟨bC, hbC⟩ : ∃ f, isC op = f := ⟨_, rfl⟩
    rw [hpD, hbD] at hf1
    rw [hpA, hbA] at hf2
    rw [hpB, hbB] at hf3
    rw [hbC] at hf4
    rw [hbD, hbA, hbB, hbC] at hrow
    have HPL := Aside0.mk (And.intro hpD (And.intro hpA hpB))
    clear hpD hpA hpB hbD hbA hbB hbC
    have F1 := Aside0.mk hf1
    have F2 := Aside0.mk hf2
    have F3 := Aside0.mk hf3
    have F4 := Aside0.mk hf4
    clear hf1 hf2 hf3 hf4
    have HPC := fun (behind : Int) (W : World) => places_any s0 s1 s2 s3 n0 c0 n1 c1 n2 c2 n3 c3 cross a5 a6 a7 a8 a9 piece op d a b c 0 behind W HP.out
    have HPC2 := Aside0.mk (fun W => HPC behind W)
    rw [HPL.out.1, HPL.out.2.1, HPL.out.2.2] at HPC2
    clear HPC HPL HP
    go_enter Tryz.func206, Tryz.ntmps206
    go_wp2_with fail
    refine (here_any piece op _).mono ?_
    rintro e w' ⟨rfl, rfl⟩
    rw [HH.out]
    clear HH
    go_wp2_with fail
    obtain ⟨W0, hW0⟩ : ∃ W0, W0 = (w.alloc (Obj.cells #[.slice s0 n0 c0, .slice s1 n1 c1, .slice s2 n2 c2, .slice s3 n3 c3, .int .i64 cross, .int .i64 a5, a6, a7, a8, a9] 26)).alloc (Obj.cells #[.int .i64 op, .int .i64 d, .int .i64 a, .int .i64 b, .int .i64 c, .int .i64 0] 49) := ⟨_, rfl⟩
    have HB := Aside0.mk (show Below w.heap.size w W0 by rw [hW0]; exact ((Below.refl _ _).alloc (Nat.le_refl _) _).alloc (by simp) _)
    have HG := Aside0.mk (show W0.heap[w.heap.size]? = some (.cells #[.slice s0 n0 c0, .slice s1 n1 c1, .slice s2 n2 c2, .slice s3 n3 c3, .int .i64 cross, .int .i64 a5, a6, a7, a8, a9] 26 (0, 0)) by rw [hW0]; exact blk_elder (blk_fresh w _) _)
    have HX := Aside0.mk (show W0.heap[w.heap.size + 1]? = some (.cells #[.int .i64 op, .int .i64 d, .int .i64 a, .int .i64 b, .int .i64 c, .int .i64 0] 49 (0, 0)) by rw [hW0]; have := blk_fresh (w.alloc (Obj.cells #[.slice s0 n0 c0, .slice s1 n1 c1, .slice s2 n2 c2, .slice s3 n3 c3, .int .i64 cross, .int .i64 a5, a6, a7, a8, a9] 26)) (Obj.cells #[.int .i64 op, .int .i64 d, .int .i64 a, .int .i64 b, .int .i64 c, .int .i64 0] 49); simpa using this)
    rw [← hW0]
    clear hW0
    obtain ⟨g, hg⟩ : ∃ g, g = w.heap.size := ⟨_, rfl⟩
    have HNL := Aside0.mk (show ∀ gr, g + 1 < gr → w.heap.size ≤ gr from fun gr h => by omega)
    have HL := Aside0.mk (show g + 1 < W0.heap.size from by rw [hg]; exact (Array.getElem?_eq_some_iff.1 HX.out).1)
    rw [← hg] at HG HX ⊢
    clear hg
    have hS0 : (fun W => Below w.heap.size w W ∧ g + 1 < W.heap.size ∧ W.heap[g]? = some (.cells #[.slice s0 n0 c0, .slice s1 n1 c1, .slice s2 n2 c2, .slice s3 n3 c3, .int .i64 cross, .int .i64 a5, a6, a7, a8, a9] 26 (0, 0)) ∧ W.heap[g + 1]? = some (.cells #[.int .i64 op, .int .i64 d, .int .i64 a, .int .i64 b, .int .i64 c, .int .i64 0] 49 (0, 0))) W0.drew := ⟨⟨HB.out.os, HB.out.tape, HB.out.output, HB.out.size, HB.out.block⟩, HL.out, HG.out, HX.out⟩
    refine wp_region_stable (by kernel_rfl) (by kernel_rfl) (fun vs => { tmps := #[.agg #[.slice s0 n0 c0, .slice s1 n1 c1, .slice s2 n2 c2, .slice s3 n3 c3, .int .i64 cross, .int .i64 a5, a6, a7, a8, a9], .int .i64 piece, .agg #[.int .i64 op, .int .i64 d, .int .i64 a, .int .i64 b, .int .i64 c, .int .i64 0], .int .i64 behind, .pointer (some ⟨g, 0, none⟩), undef, .pointer (some ⟨g + 1, 0, none⟩), undef, .bool false, vs 9, vs 10, undef, .int .i64 piece, .pointer (some ⟨g + 1, 0, none⟩), .int .i64 op, .bool true, .bool false, .bool false, .pointer (some ⟨g + 1, 5, none⟩), .int .i64 0, .bool false, .bool false, undef, undef, undef, .bool false, .bool false, vs 0, vs 1, vs 2, vs 3, vs 4, vs 5, vs 6, vs 7, vs 8, undef, undef, undef, undef, undef, undef, undef, undef, undef, undef, undef, undef, undef, undef, undef, undef, undef, undef, undef, undef, undef, undef, undef, undef, undef, undef, undef, undef, undef, undef, undef, undef, undef, undef, undef, undef], defers := [] }) (fun W => Below w.heap.size w W ∧ g + 1 < W.heap.size ∧ W.heap[g]? = some (.cells #[.slice s0 n0 c0, .slice s1 n1 c1, .slice s2 n2 c2, .slice s3 n3 c3, .int .i64 cross, .int .i64 a5, a6, a7, a8, a9] 26 (0, 0)) ∧ W.heap[g + 1]? = some (.cells #[.int .i64 op, .int .i64 d, .int .i64 a, .int .i64 b, .int .i64 c, .int .i64 0] 49 (0, 0))) (rgA rowsVal g op (.agg #[.bool bD, .bool bA, .bool bB, .bool bC]) (.agg #[.slice s0 n0 c0, .slice s1 n1 c1, .slice s2 n2 c2, .slice s3 n3 c3, .int .i64 cross, .int .i64 a5, a6, a7, a8, a9]) piece (.agg #[.int .i64 op, .int .i64 d, .int .i64 a, .int .i64 b, .int .i64 c, .int .i64 0]) behind (.agg #[.int .i64 pD, .int .i64 pA, .int .i64 pB]) #[.bool bD, .bool bA, .bool bB, .bool bC] #[.int .i64 pD, .int .i64 pA, .int .i64 pB]) ?step ?fin (fun _ => undef) rfl hS0
    case step =>
     clear hS0 HG HX HB HL
     intro i o ho vs W hS hA
     obtain ⟨hSB, hSL, hSG, hSX⟩ := hS
     have hi : i < 13 := (Array.getElem?_eq_some_iff.1 ho).1
     rcases (by omega : i = 0 ∨ i = 1 ∨ i = 2 ∨ i = 3 ∨ i = 4 ∨ i = 5 ∨ i = 6 ∨ i = 7 ∨ i = 8 ∨ i = 9 ∨ i = 10 ∨ i = 11 ∨ i = 12) with rfl | rfl | rfl | rfl | rfl | rfl | rfl | rfl | rfl | rfl | rfl | rfl | rfl
     · clear hA
       refine wpOp_step ho (fun K hK => ?_)
       obtain rfl := (Option.some.inj ho).symm
       have HK := Aside0.mk hK
       clear hK ho
       rw [if_pos (by rfl)]
       go_wp2_with (go_at_call 128; refine (rows_any _).mono ?_; rintro e w1 ⟨rfl, hb1⟩)
       refine HK.out _ _ ⟨_, by first | rfl | simp [upd, *], ⟨hSB.trans (hb1.mono hSB.size), Nat.lt_of_lt_of_le hSL hb1.size, below_heap hb1 hSG, below_heap hb1 hSX⟩, rfl, fun j hj hji hw hAj => rgA_keep hb1 hji (by rintro ⟨⟩) (by rintro ⟨⟩) hAj⟩
     · clear hA
       refine wpOp_step ho (fun K hK => ?_)
       obtain rfl := (Option.some.inj ho).symm
       have HK := Aside0.mk hK
       clear hK ho
       rw [if_pos (by rfl)]
       go_simp
       refine HK.out _ _ ⟨_, by first | rfl | simp [upd, *], ⟨hSB, hSL, hSG, hSX⟩, rfl, fun j hj hji hw hAj => rgA_keep (Below.refl _ _) hji (by rintro ⟨⟩) (by rintro ⟨⟩) hAj⟩
     · have h1 : _ := hA 1 (by kernel_rfl)
       clear hA
       refine wpOp_step ho (fun K hK => ?_)
       obtain rfl := (Option.some.inj ho).symm
       have HK := Aside0.mk hK
       clear hK ho
       rw [if_pos (by rfl)]
       have h1v : vs 1 = .pointer (some ⟨g + 1, 0, none⟩) := h1
       have hc := cell_of_row W (g + 1) 0 _ _ _ hSX
       go_simp
       refine HK.out _ _ ⟨_, by first | rfl | simp [upd, *], ⟨hSB, hSL, hSG, hSX⟩, rfl, fun j hj hji hw hAj => rgA_keep (Below.refl _ _) hji (by rintro ⟨⟩) (by rintro ⟨⟩) hAj⟩
     · have h0 : _ := hA 0 (by kernel_rfl)
       have h2 : _ := hA 2 (by kernel_rfl)
       clear hA
       refine wpOp_step ho (fun K hK => ?_)
       obtain rfl := (Option.some.inj ho).symm
       have HK := Aside0.mk hK
       clear hK ho
       rw [if_pos (by rfl)]
       have h0v : vs 0 = .agg rowsVal := h0
       have h2v : vs 2 = .int .i64 op := h2
       go_simp
       refine HK.out _ _ ⟨_, by first | rfl | simp [upd, *], ⟨hSB, hSL, hSG, hSX⟩, rfl, fun j hj hji hw hAj => rgA_keep (Below.refl _ _) hji (by rintro ⟨⟩) (by rintro ⟨⟩) hAj⟩
     · clear hA
       refine wpOp_step ho (fun K hK => ?_)
       obtain rfl := (Option.some.inj ho).symm
       have HK := Aside0.mk hK
       clear hK ho
       rw [if_pos (by rfl)]
       refine wp_load_row 26 _ rfl g rfl 26 _ (0, 0) _ hSG Tryz.underlying26 rfl (by kernel_rfl) ?_
       refine HK.out _ _ ⟨_, by first | rfl | simp [upd, *], ⟨hSB, hSL, hSG, hSX⟩, rfl, fun j hj hji hw hAj => rgA_keep (Below.refl _ _) hji (by rintro ⟨⟩) (by rintro ⟨⟩) hAj⟩
     · clear hA
       refine wpOp_step ho (fun K hK => ?_)
       obtain rfl := (Option.some.inj ho).symm
       have HK := Aside0.mk hK
       clear hK ho
       rw [if_pos (by rfl)]
       go_simp
       refine HK.out _ _ ⟨_, by first | rfl | simp [upd, *], ⟨hSB, hSL, hSG, hSX⟩, rfl, fun j hj hji hw hAj => rgA_keep (Below.refl _ _) hji (by rintro ⟨⟩) (by rintro ⟨⟩) hAj⟩
     · clear hA
       refine wpOp_step ho (fun K hK => ?_)
       obtain rfl := (Option.some.inj ho).symm
       have HK := Aside0.mk hK
       clear hK ho
       rw [if_pos (by rfl)]
       refine wp_load_row 49 _ rfl (g + 1) rfl 49 _ (0, 0) _ hSX Tryz.underlying49 rfl (by kernel_rfl) ?_
       refine HK.out _ _ ⟨_, by first | rfl | simp [upd, *], ⟨hSB, hSL, hSG, hSX⟩, rfl, fun j hj hji hw hAj => rgA_keep (Below.refl _ _) hji (by rintro ⟨⟩) (by rintro ⟨⟩) hAj⟩
     · clear hA
       refine wpOp_step ho (fun K hK => ?_)
       obtain rfl := (Option.some.inj ho).symm
       have HK := Aside0.mk hK
       clear hK ho
       rw [if_pos (by rfl)]
       go_simp
       refine HK.out _ _ ⟨_, by first | rfl | simp [upd, *], ⟨hSB, hSL, hSG, hSX⟩, rfl, fun j hj hji hw hAj => rgA_keep (Below.refl _ _) hji (by rintro ⟨⟩) (by rintro ⟨⟩) hAj⟩
     · have h4 : _ := hA 4 (by kernel_rfl)
       have h5 : _ := hA 5 (by kernel_rfl)
       have h6 : _ := hA 6 (by kernel_rfl)
       have h7 : _ := hA 7 (by kernel_rfl)
       clear hA
       refine wpOp_step ho (fun K hK => ?_)
       obtain rfl := (Option.some.inj ho).symm
       have HK := Aside0.mk hK
       clear hK ho
       rw [if_pos (by rfl)]
       have h4v : vs 4 = .agg #[.slice s0 n0 c0, .slice s1 n1 c1, .slice s2 n2 c2, .slice s3 n3 c3, .int .i64 cross, .int .i64 a5, a6, a7, a8, a9] := h4
       have h5v : vs 5 = .int .i64 piece := h5
       have h6v : vs 6 = .agg #[.int .i64 op, .int .i64 d, .int .i64 a, .int .i64 b, .int .i64 c, .int .i64 0] := h6
       have h7v : vs 7 = .int .i64 behind := h7
       go_wp2_with (go_at_call 218; refine (HPC2.out _).mono ?_; rintro e w1 ⟨rfl, hb1⟩)
       refine HK.out _ _ ⟨_, by first | rfl | simp [upd, *], ⟨hSB.trans (hb1.mono hSB.size), Nat.lt_of_lt_of_le hSL hb1.size, below_heap hb1 hSG, below_heap hb1 hSX⟩, rfl, fun j hj hji hw hAj => rgA_keep hb1 hji (by rintro ⟨⟩) (by rintro ⟨⟩) hAj⟩
     · clear hA
       refine wpOp_step ho (fun K hK => ?_)
       obtain rfl := (Option.some.inj ho).symm
       have HK := Aside0.mk hK
       clear hK ho
       rw [if_pos (by rfl)]
       go_simp
       refine HK.out _ _ ⟨_, by first | rfl | simp [upd, *], ⟨hSB.alloc hSB.size _, by simp; omega, blk_elder hSG _, blk_elder hSX _⟩, ⟨_, rfl, hSL, _, _, _, _, blk_fresh W _⟩, fun j hj hji hw hAj => rgA_keep ((Below.refl _ _).alloc (Nat.le_refl _) _) hji (by intro _ hq; subst hq; exact nomatch (hw.symm.trans (by kernel_rfl) : false = true)) (by rintro ⟨⟩) hAj⟩
     · clear hA
       refine wpOp_step ho (fun K hK => ?_)
       obtain rfl := (Option.some.inj ho).symm
       have HK := Aside0.mk hK
       clear hK ho
       rw [if_pos (by rfl)]
       go_simp
       refine HK.out _ _ ⟨_, by first | rfl | simp [upd, *], ⟨hSB.alloc hSB.size _, by simp; omega, blk_elder hSG _, blk_elder hSX _⟩, ⟨_, rfl, hSL, _, _, _, blk_fresh W _⟩, fun j hj hji hw hAj => rgA_keep ((Below.refl _ _).alloc (Nat.le_refl _) _) hji (by rintro ⟨⟩) (by intro _ hq; subst hq; exact nomatch (hw.symm.trans (by kernel_rfl) : false = true)) hAj⟩
     · have h9 : _ := hA 9 (by kernel_rfl)
       have h3 : _ := hA 3 (by kernel_rfl)
       clear hA
       refine wpOp_step ho (fun K hK => ?_)
       obtain rfl := (Option.some.inj ho).symm
       have HK := Aside0.mk hK
       clear hK ho
       rw [if_pos (by rfl)]
       obtain ⟨gr, h9v, hgr, z0, z1, z2, z3, hgc⟩ := h9
       have h3v : vs 3 = .agg #[.bool bD, .bool bA, .bool bB, .bool bC] := h3
       refine wp_store_row 204 _ _ rfl gr #[.bool bD, .bool bA, .bool bB, .bool bC] h9v h3v 204 _ hgc (by kernel_rfl) rfl (by kernel_rfl) ?_
       refine HK.out _ _ ⟨undef, by first | rfl | simp [upd, *], ⟨below_setRow hSB _ _ (HNL.out _ hgr), by rw [size_setRow]; exact hSL, (setRow_other W gr g _ (by omega)).trans hSG, (setRow_other W gr (g + 1) _ (by omega)).trans hSX⟩, ⟨gr, h9v, setRow_heap _ _ _ _ _ _ hgc⟩, fun j hj hji hw hAj => rgA_st11 h9v hgc hji hAj⟩
     · have h10 : _ := hA 10 (by kernel_rfl)
       have h8 : _ := hA 8 (by kernel_rfl)
       clear hA
       refine wpOp_step ho (fun K hK => ?_)
       obtain rfl := (Option.some.inj ho).symm
       have HK := Aside0.mk hK
       clear hK ho
       rw [if_pos (by rfl)]
       obtain ⟨gr, h9v, hgr, z0, z1, z2, hgc⟩ := h10
       have h3v : vs 8 = .agg #[.int .i64 pD, .int .i64 pA, .int .i64 pB] := h8
       refine wp_store_row 300 _ _ rfl gr #[.int .i64 pD, .int .i64 pA, .int .i64 pB] h9v h3v 300 _ hgc (by kernel_rfl) rfl (by kernel_rfl) ?_
       refine HK.out _ _ ⟨undef, by first | rfl | simp [upd, *], ⟨below_setRow hSB _ _ (HNL.out _ hgr), by rw [size_setRow]; exact hSL, (setRow_other W gr g _ (by omega)).trans hSG, (setRow_other W gr (g + 1) _ (by omega)).trans hSX⟩, ⟨gr, h9v, setRow_heap _ _ _ _ _ _ hgc⟩, fun j hj hji hw hAj => rgA_st12 h9v hgc hji hAj⟩
    case fin =>
     clear hS0 HG HX HB HL
     intro vs W hS hA
     obtain ⟨hSB, hSL, hSG, hSX⟩ := hS
     obtain ⟨gr, h9v, hgr⟩ : ∃ gr, vs 9 = .pointer (some ⟨gr, 0, none⟩) ∧ W.heap[gr]? = some (.cells #[.bool bD, .bool bA, .bool bB, .bool bC] 204 (0, 0)) := hA 11 (by decide)
     obtain ⟨gp, h10v, hgp⟩ : ∃ gr, vs 10 = .pointer (some ⟨gr, 0, none⟩) ∧ W.heap[gr]? = some (.cells #[.int .i64 pD, .int .i64 pA, .int .i64 pB] 300 (0, 0)) := hA 12 (by decide)
     clear hA
     have HSB := Aside0.mk hSB
     have y1 := cell_of_row W (g + 1) 1 _ _ _ hSX
     have y2 := cell_of_row W (g + 1) 2 _ _ _ hSX
     have y3 := cell_of_row W (g + 1) 3 _ _ _ hSX
     have y4 := cell_of_row W (g + 1) 4 _ _ _ hSX
     have q0 := cell_of_row W gr 0 _ _ _ hgr
     have q1 := cell_of_row W gr 1 _ _ _ hgr
     have q2 := cell_of_row W gr 2 _ _ _ hgr
     have q3 := cell_of_row W gr 3 _ _ _ hgr
     have p0 := cell_of_row W gp 0 _ _ _ hgp
     have p1 := cell_of_row W gp 1 _ _ _ hgp
     have p2 := cell_of_row W gp 2 _ _ _ hgp
     simp only [List.getElem?_toArray, List.getElem?_cons_zero, List.getElem?_cons_succ] at y1 y2 y3 y4 q0 q1 q2 q3 p0 p1 p2
     clear hSB hSL hSG hSX hgr hgp
     rw [h9v, h10v]
     clear h9v h10v hrow
     cases f1 with
     | false =>
      go_wp2_with fail
      refine (field_any d bD pD _).mono ?_
      rintro e w' ⟨rfl, rfl⟩
      rw [F1.out]
      go_wp2
      go_ret
      exact ⟨by rw [E.out]; rfl, HSB.out⟩
     | true =>
      cases f2 with
      | false =>
       go_wp2_with fail
       refine (field_any d bD pD _).mono ?_
       rintro e w' ⟨rfl, rfl⟩
       rw [F1.out]
       go_wp2_with fail
       refine (field_any a bA pA _).mono ?_
       rintro e w' ⟨rfl, rfl⟩
       rw [F2.out]
       go_wp2
       go_ret
       exact ⟨by rw [E.out]; rfl, HSB.out⟩
      | true =>
       cases f3 with
       | false =>
        go_wp2_with fail
        refine (field_any d bD pD _).mono ?_
        rintro e w' ⟨rfl, rfl⟩
        rw [F1.out]
        go_wp2_with fail
        refine (field_any a bA pA _).mono ?_
        rintro e w' ⟨rfl, rfl⟩
        rw [F2.out]
        go_wp2_with fail
        refine (field_any b bB pB _).mono ?_
        rintro e w' ⟨rfl, rfl⟩
        rw [F3.out]
        go_wp2
        go_ret
        exact ⟨by rw [E.out]; rfl, HSB.out⟩
       | true =>
        go_wp2_with fail
        refine (field_any d bD pD _).mono ?_
        rintro e w' ⟨rfl, rfl⟩
        rw [F1.out]
        go_wp2_with fail
        refine (field_any a bA pA _).mono ?_
        rintro e w' ⟨rfl, rfl⟩
        rw [F2.out]
        go_wp2_with fail
        refine (field_any b bB pB _).mono ?_
        rintro e w' ⟨rfl, rfl⟩
        rw [F3.out]
        go_wp2_with fail
        refine (field_any c bC (-1) _).mono ?_
        rintro e w' ⟨rfl, rfl⟩
        rw [F4.out]
        go_wp2
        go_ret
        exact ⟨by rw [E.out]; cases f4 <;> rfl, HSB.out⟩
  by_cases hv1 : op = 1
  · subst hv1
    have E := Aside0.mk (show r = (fieldB d (isD 1) (placeD n1 n2 n3 cross piece 1) && (fieldB a (isA 1) (placeA n0 n2 n3 cross 1) && (fieldB b (isB 1) (placeB behind 1) && fieldB c (isC 1) (-1)))) by
     rw [← HR.out]; simp [rightB, HH.out])
    clear HR
    obtain ⟨ho1, ho2⟩ := hereB_bounds HH.out
    have hrow := row_index 1 (by omega) (by omega)
    unfold rowVal at hrow
    have HP := Aside0.mk (show (1 : Int) = 20 → piece = 0 ∨ piece = 1 ∨ piece = 3 from fun h => hereB_put (piece := piece) (by have := HH.out; rw [h] at this; exact this) hp0 hp3)
    clear ho1 ho2
    obtain ⟨f1, hf1⟩ : ∃ f, fieldB d (isD 1) (placeD n1 n2 n3 cross piece 1) = f := ⟨_, rfl⟩
    obtain ⟨f2, hf2⟩ : ∃ f, fieldB a (isA 1) (placeA n0 n2 n3 cross 1) = f := ⟨_, rfl⟩
    obtain ⟨f3, hf3⟩ : ∃ f, fieldB b (isB 1) (placeB behind 1) = f := ⟨_, rfl⟩
    obtain ⟨f4, hf4⟩ : ∃ f, fieldB c (isC 1) (-1) = f := ⟨_, rfl⟩
    rw [hf1, hf2, hf3, hf4] at E
    obtain ⟨pD, hpD⟩ : ∃ f, placeD n1 n2 n3 cross piece 1 = f := ⟨_, rfl⟩
    obtain ⟨pA, hpA⟩ : ∃ f, placeA n0 n2 n3 cross 1 = f := ⟨_, rfl⟩
    obtain ⟨pB, hpB⟩ : ∃ f, placeB behind 1 = f := ⟨_, rfl⟩
    obtain ⟨bD, hbD⟩ : ∃ f, isD 1 = f := ⟨_, rfl⟩
    obtain ⟨bA, hbA⟩ : ∃ f, isA 1 = f := ⟨_, rfl⟩
    obtain ⟨bB, hbB⟩ : ∃ f, isB 1 = f := ⟨_, rfl⟩
    obtain ⟨bC, hbC⟩ : ∃ f, isC 1 = f := ⟨_, rfl⟩
    rw [hpD, hbD] at hf1
    rw [hpA, hbA] at hf2
    rw [hpB, hbB] at hf3
    rw [hbC] at hf4
    rw [hbD, hbA, hbB, hbC] at hrow
    have HPL := Aside0.mk (And.intro hpD (And.intro hpA hpB))
    clear hpD hpA hpB hbD hbA hbB hbC
    have F1 := Aside0.mk hf1
    have F2 := Aside0.mk hf2
    have F3 := Aside0.mk hf3
    have F4 := Aside0.mk hf4
    clear hf1 hf2 hf3 hf4
    have HPC := fun (behind : Int) (W : World) => places_any s0 s1 s2 s3 n0 c0 n1 c1 n2 c2 n3 c3 cross a5 a6 a7 a8 a9 piece 1 d a b c v behind W HP.out
    have HPC2 := Aside0.mk (fun W => HPC behind W)
    rw [HPL.out.1, HPL.out.2.1, HPL.out.2.2] at HPC2
    clear HPC HPL HP
    go_enter Tryz.func206, Tryz.ntmps206
    go_wp2_with fail
    refine (here_any piece 1 _).mono ?_
    rintro e w' ⟨rfl, rfl⟩
    rw [HH.out]
    clear HH
    go_wp2_with fail
    obtain ⟨W0, hW0⟩ : ∃ W0, W0 = (w.alloc (Obj.cells #[.slice s0 n0 c0, .slice s1 n1 c1, .slice s2 n2 c2, .slice s3 n3 c3, .int .i64 cross, .int .i64 a5, a6, a7, a8, a9] 26)).alloc (Obj.cells #[.int .i64 1, .int .i64 d, .int .i64 a, .int .i64 b, .int .i64 c, .int .i64 v] 49) := ⟨_, rfl⟩
    have HB := Aside0.mk (show Below w.heap.size w W0 by rw [hW0]; exact ((Below.refl _ _).alloc (Nat.le_refl _) _).alloc (by simp) _)
    have HG := Aside0.mk (show W0.heap[w.heap.size]? = some (.cells #[.slice s0 n0 c0, .slice s1 n1 c1, .slice s2 n2 c2, .slice s3 n3 c3, .int .i64 cross, .int .i64 a5, a6, a7, a8, a9] 26 (0, 0)) by rw [hW0]; exact blk_elder (blk_fresh w _) _)
    have HX := Aside0.mk (show W0.heap[w.heap.size + 1]? = some (.cells #[.int .i64 1, .int .i64 d, .int .i64 a, .int .i64 b, .int .i64 c, .int .i64 v] 49 (0, 0)) by rw [hW0]; have := blk_fresh (w.alloc (Obj.cells #[.slice s0 n0 c0, .slice s1 n1 c1, .slice s2 n2 c2, .slice s3 n3 c3, .int .i64 cross, .int .i64 a5, a6, a7, a8, a9] 26)) (Obj.cells #[.int .i64 1, .int .i64 d, .int .i64 a, .int .i64 b, .int .i64 c, .int .i64 v] 49); simpa using this)
    rw [← hW0]
    clear hW0
    obtain ⟨g, hg⟩ : ∃ g, g = w.heap.size := ⟨_, rfl⟩
    have HNL := Aside0.mk (show ∀ gr, g + 1 < gr → w.heap.size ≤ gr from fun gr h => by omega)
    have HL := Aside0.mk (show g + 1 < W0.heap.size from by rw [hg]; exact (Array.getElem?_eq_some_iff.1 HX.out).1)
    rw [← hg] at HG HX ⊢
    clear hg
    have hS0 : (fun W => Below w.heap.size w W ∧ g + 1 < W.heap.size ∧ W.heap[g]? = some (.cells #[.slice s0 n0 c0, .slice s1 n1 c1, .slice s2 n2 c2, .slice s3 n3 c3, .int .i64 cross, .int .i64 a5, a6, a7, a8, a9] 26 (0, 0)) ∧ W.heap[g + 1]? = some (.cells #[.int .i64 1, .int .i64 d, .int .i64 a, .int .i64 b, .int .i64 c, .int .i64 v] 49 (0, 0))) W0.drew := ⟨⟨HB.out.os, HB.out.tape, HB.out.output, HB.out.size, HB.out.block⟩, HL.out, HG.out, HX.out⟩
    refine wp_region_stable (by kernel_rfl) (by kernel_rfl) (fun vs => { tmps := #[.agg #[.slice s0 n0 c0, .slice s1 n1 c1, .slice s2 n2 c2, .slice s3 n3 c3, .int .i64 cross, .int .i64 a5, a6, a7, a8, a9], .int .i64 piece, .agg #[.int .i64 1, .int .i64 d, .int .i64 a, .int .i64 b, .int .i64 c, .int .i64 v], .int .i64 behind, .pointer (some ⟨g, 0, none⟩), undef, .pointer (some ⟨g + 1, 0, none⟩), undef, .bool false, vs 9, vs 10, undef, .int .i64 piece, .pointer (some ⟨g + 1, 0, none⟩), .int .i64 1, .bool true, .bool false, .bool false, .pointer (some ⟨g + 1, 5, none⟩), .int .i64 v, .bool (v != 0), .bool (v != 0), .pointer (some ⟨g + 1, 0, none⟩), .int .i64 1, .bool false, .bool false, .bool false, vs 0, vs 1, vs 2, vs 3, vs 4, vs 5, vs 6, vs 7, vs 8, undef, undef, undef, undef, undef, undef, undef, undef, undef, undef, undef, undef, undef, undef, undef, undef, undef, undef, undef, undef, undef, undef, undef, undef, undef, undef, undef, undef, undef, undef, undef, undef, undef, undef, undef, undef], defers := [] }) (fun W => Below w.heap.size w W ∧ g + 1 < W.heap.size ∧ W.heap[g]? = some (.cells #[.slice s0 n0 c0, .slice s1 n1 c1, .slice s2 n2 c2, .slice s3 n3 c3, .int .i64 cross, .int .i64 a5, a6, a7, a8, a9] 26 (0, 0)) ∧ W.heap[g + 1]? = some (.cells #[.int .i64 1, .int .i64 d, .int .i64 a, .int .i64 b, .int .i64 c, .int .i64 v] 49 (0, 0))) (rgA rowsVal g 1 (.agg #[.bool bD, .bool bA, .bool bB, .bool bC]) (.agg #[.slice s0 n0 c0, .slice s1 n1 c1, .slice s2 n2 c2, .slice s3 n3 c3, .int .i64 cross, .int .i64 a5, a6, a7, a8, a9]) piece (.agg #[.int .i64 1, .int .i64 d, .int .i64 a, .int .i64 b, .int .i64 c, .int .i64 v]) behind (.agg #[.int .i64 pD, .int .i64 pA, .int .i64 pB]) #[.bool bD, .bool bA, .bool bB, .bool bC] #[.int .i64 pD, .int .i64 pA, .int .i64 pB]) ?step ?fin (fun _ => undef) rfl hS0
    case step =>
     clear hS0 HG HX HB HL
     intro i o ho vs W hS hA
     obtain ⟨hSB, hSL, hSG, hSX⟩ := hS
     have hi : i < 13 := (Array.getElem?_eq_some_iff.1 ho).1
     rcases (by omega : i = 0 ∨ i = 1 ∨ i = 2 ∨ i = 3 ∨ i = 4 ∨ i = 5 ∨ i = 6 ∨ i = 7 ∨ i = 8 ∨ i = 9 ∨ i = 10 ∨ i = 11 ∨ i = 12) with rfl | rfl | rfl | rfl | rfl | rfl | rfl | rfl | rfl | rfl | rfl | rfl | rfl
     · clear hA
       refine wpOp_step ho (fun K hK => ?_)
       obtain rfl := (Option.some.inj ho).symm
       have HK := Aside0.mk hK
       clear hK ho
       rw [if_pos (by rfl)]
       go_wp2_with (go_at_call 128; refine (rows_any _).mono ?_; rintro e w1 ⟨rfl, hb1⟩)
       refine HK.out _ _ ⟨_, by first | rfl | simp [upd, *], ⟨hSB.trans (hb1.mono hSB.size), Nat.lt_of_lt_of_le hSL hb1.size, below_heap hb1 hSG, below_heap hb1 hSX⟩, rfl, fun j hj hji hw hAj => rgA_keep hb1 hji (by rintro ⟨⟩) (by rintro ⟨⟩) hAj⟩
     · clear hA
       refine wpOp_step ho (fun K hK => ?_)
       obtain rfl := (Option.some.inj ho).symm
       have HK := Aside0.mk hK
       clear hK ho
       rw [if_pos (by rfl)]
       go_simp
       refine HK.out _ _ ⟨_, by first | rfl | simp [upd, *], ⟨hSB, hSL, hSG, hSX⟩, rfl, fun j hj hji hw hAj => rgA_keep (Below.refl _ _) hji (by rintro ⟨⟩) (by rintro ⟨⟩) hAj⟩
     · have h1 : _ := hA 1 (by kernel_rfl)
       clear hA
       refine wpOp_step ho (fun K hK => ?_)
       obtain rfl := (Option.some.inj ho).symm
       have HK := Aside0.mk hK
       clear hK ho
       rw [if_pos (by rfl)]
       have h1v : vs 1 = .pointer (some ⟨g + 1, 0, none⟩) := h1
       have hc := cell_of_row W (g + 1) 0 _ _ _ hSX
       go_simp
       refine HK.out _ _ ⟨_, by first | rfl | simp [upd, *], ⟨hSB, hSL, hSG, hSX⟩, rfl, fun j hj hji hw hAj => rgA_keep (Below.refl _ _) hji (by rintro ⟨⟩) (by rintro ⟨⟩) hAj⟩
     · have h0 : _ := hA 0 (by kernel_rfl)
       have h2 : _ := hA 2 (by kernel_rfl)
       clear hA
       refine wpOp_step ho (fun K hK => ?_)
       obtain rfl := (Option.some.inj ho).symm
       have HK := Aside0.mk hK
       clear hK ho
       rw [if_pos (by rfl)]
       have h0v : vs 0 = .agg rowsVal := h0
       have h2v : vs 2 = .int .i64 1 := h2
       go_simp
       refine HK.out _ _ ⟨_, by first | rfl | simp [upd, *], ⟨hSB, hSL, hSG, hSX⟩, rfl, fun j hj hji hw hAj => rgA_keep (Below.refl _ _) hji (by rintro ⟨⟩) (by rintro ⟨⟩) hAj⟩
     · clear hA
       refine wpOp_step ho (fun K hK => ?_)
       obtain rfl := (Option.some.inj ho).symm
       have HK := Aside0.mk hK
       clear hK ho
       rw [if_pos (by rfl)]
       refine wp_load_row 26 _ rfl g rfl 26 _ (0, 0) _ hSG Tryz.underlying26 rfl (by kernel_rfl) ?_
       refine HK.out _ _ ⟨_, by first | rfl | simp [upd, *], ⟨hSB, hSL, hSG, hSX⟩, rfl, fun j hj hji hw hAj => rgA_keep (Below.refl _ _) hji (by rintro ⟨⟩) (by rintro ⟨⟩) hAj⟩
     · clear hA
       refine wpOp_step ho (fun K hK => ?_)
       obtain rfl := (Option.some.inj ho).symm
       have HK := Aside0.mk hK
       clear hK ho
       rw [if_pos (by rfl)]
       go_simp
       refine HK.out _ _ ⟨_, by first | rfl | simp [upd, *], ⟨hSB, hSL, hSG, hSX⟩, rfl, fun j hj hji hw hAj => rgA_keep (Below.refl _ _) hji (by rintro ⟨⟩) (by rintro ⟨⟩) hAj⟩
     · clear hA
       refine wpOp_step ho (fun K hK => ?_)
       obtain rfl := (Option.some.inj ho).symm
       have HK := Aside0.mk hK
       clear hK ho
       rw [if_pos (by rfl)]
       refine wp_load_row 49 _ rfl (g + 1) rfl 49 _ (0, 0) _ hSX Tryz.underlying49 rfl (by kernel_rfl) ?_
       refine HK.out _ _ ⟨_, by first | rfl | simp [upd, *], ⟨hSB, hSL, hSG, hSX⟩, rfl, fun j hj hji hw hAj => rgA_keep (Below.refl _ _) hji (by rintro ⟨⟩) (by rintro ⟨⟩) hAj⟩
     · clear hA
       refine wpOp_step ho (fun K hK => ?_)
       obtain rfl := (Option.some.inj ho).symm
       have HK := Aside0.mk hK
       clear hK ho
       rw [if_pos (by rfl)]
       go_simp
       refine HK.out _ _ ⟨_, by first | rfl | simp [upd, *], ⟨hSB, hSL, hSG, hSX⟩, rfl, fun j hj hji hw hAj => rgA_keep (Below.refl _ _) hji (by rintro ⟨⟩) (by rintro ⟨⟩) hAj⟩
     · have h4 : _ := hA 4 (by kernel_rfl)
       have h5 : _ := hA 5 (by kernel_rfl)
       have h6 : _ := hA 6 (by kernel_rfl)
       have h7 : _ := hA 7 (by kernel_rfl)
       clear hA
       refine wpOp_step ho (fun K hK => ?_)
       obtain rfl := (Option.some.inj ho).symm
       have HK := Aside0.mk hK
       clear hK ho
       rw [if_pos (by rfl)]
       have h4v : vs 4 = .agg #[.slice s0 n0 c0, .slice s1 n1 c1, .slice s2 n2 c2, .slice s3 n3 c3, .int .i64 cross, .int .i64 a5, a6, a7, a8, a9] := h4
       have h5v : vs 5 = .int .i64 piece := h5
       have h6v : vs 6 = .agg #[.int .i64 1, .int .i64 d, .int .i64 a, .int .i64 b, .int .i64 c, .int .i64 v] := h6
       have h7v : vs 7 = .int .i64 behind := h7
       go_wp2_with (go_at_call 218; refine (HPC2.out _).mono ?_; rintro e w1 ⟨rfl, hb1⟩)
       refine HK.out _ _ ⟨_, by first | rfl | simp [upd, *], ⟨hSB.trans (hb1.mono hSB.size), Nat.lt_of_lt_of_le hSL hb1.size, below_heap hb1 hSG, below_heap hb1 hSX⟩, rfl, fun j hj hji hw hAj => rgA_keep hb1 hji (by rintro ⟨⟩) (by rintro ⟨⟩) hAj⟩
     · clear hA
       refine wpOp_step ho (fun K hK => ?_)
       obtain rfl := (Option.some.inj ho).symm
       have HK := Aside0.mk hK
       clear hK ho
       rw [if_pos (by rfl)]
       go_simp
       refine HK.out _ _ ⟨_, by first | rfl | simp [upd, *], ⟨hSB.alloc hSB.size _, by simp; omega, blk_elder hSG _, blk_elder hSX _⟩, ⟨_, rfl, hSL, _, _, _, _, blk_fresh W _⟩, fun j hj hji hw hAj => rgA_keep ((Below.refl _ _).alloc (Nat.le_refl _) _) hji (by intro _ hq; subst hq; exact nomatch (hw.symm.trans (by kernel_rfl) : false = true)) (by rintro ⟨⟩) hAj⟩
     · clear hA
       refine wpOp_step ho (fun K hK => ?_)
       obtain rfl := (Option.some.inj ho).symm
       have HK := Aside0.mk hK
       clear hK ho
       rw [if_pos (by rfl)]
       go_simp
       refine HK.out _ _ ⟨_, by first | rfl | simp [upd, *], ⟨hSB.alloc hSB.size _, by simp; omega, blk_elder hSG _, blk_elder hSX _⟩, ⟨_, rfl, hSL, _, _, _, blk_fresh W _⟩, fun j hj hji hw hAj => rgA_keep ((Below.refl _ _).alloc (Nat.le_refl _) _) hji (by rintro ⟨⟩) (by intro _ hq; subst hq; exact nomatch (hw.symm.trans (by kernel_rfl) : false = true)) hAj⟩
     · have h9 : _ := hA 9 (by kernel_rfl)
       have h3 : _ := hA 3 (by kernel_rfl)
       clear hA
       refine wpOp_step ho (fun K hK => ?_)
       obtain rfl := (Option.some.inj ho).symm
       have HK := Aside0.mk hK
       clear hK ho
       rw [if_pos (by rfl)]
       obtain ⟨gr, h9v, hgr, z0, z1, z2, z3, hgc⟩ := h9
       have h3v : vs 3 = .agg #[.bool bD, .bool bA, .bool bB, .bool bC] := h3
       refine wp_store_row 204 _ _ rfl gr #[.bool bD, .bool bA, .bool bB, .bool bC] h9v h3v 204 _ hgc (by kernel_rfl) rfl (by kernel_rfl) ?_
       refine HK.out _ _ ⟨undef, by first | rfl | simp [upd, *], ⟨below_setRow hSB _ _ (HNL.out _ hgr), by rw [size_setRow]; exact hSL, (setRow_other W gr g _ (by omega)).trans hSG, (setRow_other W gr (g + 1) _ (by omega)).trans hSX⟩, ⟨gr, h9v, setRow_heap _ _ _ _ _ _ hgc⟩, fun j hj hji hw hAj => rgA_st11 h9v hgc hji hAj⟩
     · have h10 : _ := hA 10 (by kernel_rfl)
       have h8 : _ := hA 8 (by kernel_rfl)
       clear hA
       refine wpOp_step ho (fun K hK => ?_)
       obtain rfl := (Option.some.inj ho).symm
       have HK := Aside0.mk hK
       clear hK ho
       rw [if_pos (by rfl)]
       obtain ⟨gr, h9v, hgr, z0, z1, z2, hgc⟩ := h10
       have h3v : vs 8 = .agg #[.int .i64 pD, .int .i64 pA, .int .i64 pB] := h8
       refine wp_store_row 300 _ _ rfl gr #[.int .i64 pD, .int .i64 pA, .int .i64 pB] h9v h3v 300 _ hgc (by kernel_rfl) rfl (by kernel_rfl) ?_
       refine HK.out _ _ ⟨undef, by first | rfl | simp [upd, *], ⟨below_setRow hSB _ _ (HNL.out _ hgr), by rw [size_setRow]; exact hSL, (setRow_other W gr g _ (by omega)).trans hSG, (setRow_other W gr (g + 1) _ (by omega)).trans hSX⟩, ⟨gr, h9v, setRow_heap _ _ _ _ _ _ hgc⟩, fun j hj hji hw hAj => rgA_st12 h9v hgc hji hAj⟩
    case fin =>
     clear hS0 HG HX HB HL
     intro vs W hS hA
     obtain ⟨hSB, hSL, hSG, hSX⟩ := hS
     obtain ⟨gr, h9v, hgr⟩ : ∃ gr, vs 9 = .pointer (some ⟨gr, 0, none⟩) ∧ W.heap[gr]? = some (.cells #[.bool bD, .bool bA, .bool bB, .bool bC] 204 (0, 0)) := hA 11 (by decide)
     obtain ⟨gp, h10v, hgp⟩ : ∃ gr, vs 10 = .pointer (some ⟨gr, 0, none⟩) ∧ W.heap[gr]? = some (.cells #[.int .i64 pD, .int .i64 pA, .int .i64 pB] 300 (0, 0)) := hA 12 (by decide)
     clear hA
     have HSB := Aside0.mk hSB
     have y1 := cell_of_row W (g + 1) 1 _ _ _ hSX
     have y2 := cell_of_row W (g + 1) 2 _ _ _ hSX
     have y3 := cell_of_row W (g + 1) 3 _ _ _ hSX
     have y4 := cell_of_row W (g + 1) 4 _ _ _ hSX
     have q0 := cell_of_row W gr 0 _ _ _ hgr
     have q1 := cell_of_row W gr 1 _ _ _ hgr
     have q2 := cell_of_row W gr 2 _ _ _ hgr
     have q3 := cell_of_row W gr 3 _ _ _ hgr
     have p0 := cell_of_row W gp 0 _ _ _ hgp
     have p1 := cell_of_row W gp 1 _ _ _ hgp
     have p2 := cell_of_row W gp 2 _ _ _ hgp
     simp only [List.getElem?_toArray, List.getElem?_cons_zero, List.getElem?_cons_succ] at y1 y2 y3 y4 q0 q1 q2 q3 p0 p1 p2
     clear hSB hSL hSG hSX hgr hgp
     rw [h9v, h10v]
     clear h9v h10v hrow
     cases f1 with
     | false =>
      go_wp2_with fail
      refine (field_any d bD pD _).mono ?_
      rintro e w' ⟨rfl, rfl⟩
      rw [F1.out]
      go_wp2
      go_ret
      exact ⟨by rw [E.out]; rfl, HSB.out⟩
     | true =>
      cases f2 with
      | false =>
       go_wp2_with fail
       refine (field_any d bD pD _).mono ?_
       rintro e w' ⟨rfl, rfl⟩
       rw [F1.out]
       go_wp2_with fail
       refine (field_any a bA pA _).mono ?_
       rintro e w' ⟨rfl, rfl⟩
       rw [F2.out]
       go_wp2
       go_ret
       exact ⟨by rw [E.out]; rfl, HSB.out⟩
      | true =>
       cases f3 with
       | false =>
        go_wp2_with fail
        refine (field_any d bD pD _).mono ?_
        rintro e w' ⟨rfl, rfl⟩
        rw [F1.out]
        go_wp2_with fail
        refine (field_any a bA pA _).mono ?_
        rintro e w' ⟨rfl, rfl⟩
        rw [F2.out]
        go_wp2_with fail
        refine (field_any b bB pB _).mono ?_
        rintro e w' ⟨rfl, rfl⟩
        rw [F3.out]
        go_wp2
        go_ret
        exact ⟨by rw [E.out]; rfl, HSB.out⟩
       | true =>
        go_wp2_with fail
        refine (field_any d bD pD _).mono ?_
        rintro e w' ⟨rfl, rfl⟩
        rw [F1.out]
        go_wp2_with fail
        refine (field_any a bA pA _).mono ?_
        rintro e w' ⟨rfl, rfl⟩
        rw [F2.out]
        go_wp2_with fail
        refine (field_any b bB pB _).mono ?_
        rintro e w' ⟨rfl, rfl⟩
        rw [F3.out]
        go_wp2_with fail
        refine (field_any c bC (-1) _).mono ?_
        rintro e w' ⟨rfl, rfl⟩
        rw [F4.out]
        go_wp2
        go_ret
        exact ⟨by rw [E.out]; cases f4 <;> rfl, HSB.out⟩
  · have E := Aside0.mk (show r = false by rw [← HR.out]; simp [rightB, hv0, hv1])
    clear HR
    go_enter Tryz.func206, Tryz.ntmps206
    go_wp2_with fail
    refine (here_any piece op _).mono ?_
    rintro e w' ⟨rfl, rfl⟩
    rw [HH.out]
    go_wp2
    · go_ret
      exact ⟨by rw [E.out]; rfl, ((Below.refl _ _).alloc (Nat.le_refl _) _).alloc (by simp) _⟩
    · exact absurd ‹(v != 0) = false ∨ (op != 1) = false› (by simp [hv0, hv1])
end Go.Proofs.YtgalkkolbobmbaaGreat.V
