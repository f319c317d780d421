/- The Go functions walk$1$1 and walk$1 of package ast: the iterator over an expression's tree. -/
import Derived.RangeFuncNested
import Derived.RangeFuncBound
import Derived.RangeFuncCalls
import Derived.RangeFuncLeaves
import Derived.RangeFuncBox
import Derived.Shelf.Abstract
import Derived.WalkKit
import Derived.OwnWalkIn
import Derived.TacticsInMore
import Derived.LoopNIn
import Derived.LoopIn
import Derived.Sort.CutIn
import Derived.Laws.EntriesVeiled
import Derived.Test.YtediidkiedifcaaATreeP
import Derived.Test.YtediidkiedifcaaANames
namespace Go.Proofs.Ytediidkiedifcaa.Q
set_option linter.unusedVariables false
set_option linter.unusedSimpArgs false
open Go.RowKit Go.Shelf Go.Proofs.YtediidkiedifcaaW.PrintWords Go.Proofs.YtediidkiedifcaaW.PrintLast Go.Proofs.YtediidkiedifcaaW.PrintMore
attribute [local go_sem] Oper.semAt_some
theorem room_noneT {F : Fence} (hd : F.depth = none) (k : Nat) : F.room k := fun d h => by rw [hd] at h; cases h
theorem yieldAnyT {F : Fence} (hd : F.depth = none) {m : Nat} (m' : Nat) {P : Program} {l : Nat} {args : Array Value} {W : World} {R : Ending → World → Prop} (h : YieldAt F m P l args W R) : YieldAt F m' P l args W R := by
  obtain ⟨fn, tmps, assign, body, hy, hR⟩ := h
  exact ⟨fn, tmps, assign, body, hy, hR.1, fun c cs _ => hR.2 c cs (room_noneT hd _)⟩
theorem grownT {W W' : World} (h : Below W.heap.size W W') : W.grownBy W' none := ⟨h.os, h.tape, h.output, h.size, fun k hk _ => h.block k hk⟩
/-- The tree, told whole. -/
def treeAll : Nat → List S31 → Int → List Int
  | 0, _, _ => []
  | n + 1, xs, e => e :: (partsF (rd_T31 xs e)).flatMap (treeAll n xs)
/-- Block g isn't that of the slice in box B. -/
def NotOwn (B : Nat) (W : World) (g : Nat) : Prop := ∀ v, W.cell? ⟨B, 0, none⟩ = some v → v.ownBlock ≠ some g
def WB (B : Nat) (W : World) : Prop := ∀ v k, W.cell? ⟨B, 0, none⟩ = some v → v.ownBlock = some k → k < W.heap.size
/-- What a round keeps: all below n₀; all but boxes of slices and the row of the slice in box B. -/
structure KB (n₀ B : Nat) (W W' : World) : Prop where
  b : Below n₀ W W'
  wb : WB B W → WB B W'
  k : ∀ (g : Nat) (cs : Array Value) (t : Nat), t ≠ 28 → W.heap[g]? = some (.cells cs t (0, 0)) → NotOwn B W g → W'.heap[g]? = some (.cells cs t (0, 0)) ∧ NotOwn B W' g
theorem KB.refl {n₀ B : Nat} (W : World) : KB n₀ B W W := ⟨Below.refl _ _, fun h => h, fun _ _ _ _ h1 h2 => ⟨h1, h2⟩⟩
theorem KB.trans {n₀ B : Nat} {X Y Z : World} (h : KB n₀ B X Y) (g : KB n₀ B Y Z) : KB n₀ B X Z :=
  ⟨h.b.trans g.b, fun w => g.wb (h.wb w), fun b cs t ht h1 h2 => by obtain ⟨h3, h4⟩ := h.k b cs t ht h1 h2; exact g.k b cs t ht h3 h4⟩
theorem NotOwn.below {B g : Nat} {W W' : World} (hb : Below W.heap.size W W') (hB : B < W.heap.size) (h : NotOwn B W g) : NotOwn B W' g := fun v hv => h v ((hb.cell (p := ⟨B, 0, none⟩) hB).symm.trans hv)
theorem KB.below {n₀ B : Nat} {W W' : World} (hb : Below W.heap.size W W') (hB : B < W.heap.size) (hn : n₀ ≤ W.heap.size) : KB n₀ B W W' :=
  ⟨hb.mono hn, fun w v k h1 h2 => Nat.lt_of_lt_of_le (w v k ((hb.cell (p := ⟨B, 0, none⟩) hB).symm.trans h1) h2) hb.size, fun g cs t _ h1 h2 => ⟨blk_below h1 hb, h2.below hb hB⟩⟩
theorem KB.put {n₀ B : Nat} {w : World} (hB : B < w.heap.size) (hn : n₀ ≤ w.heap.size) (W : World) (l : Nat) (o o' : Obj) (hl : w.heap.size ≤ l) (h : W.heap[l]? = some o) (hc : o.isCells = false) (hw : o.isWalk = false) : KB n₀ B W (W.putObj l o') := by
  have hlt := (Array.getElem?_eq_some_iff.1 h).1
  have hb : Below w.heap.size W (W.putObj l o') := belowK_b (Nat.le_refl _) W l o o' hl h hc hw
  have hcell : (W.putObj l o').cell? ⟨B, 0, none⟩ = W.cell? ⟨B, 0, none⟩ := hb.cell (p := ⟨B, 0, none⟩) hB
  refine ⟨hb.mono hn, fun wb v k h1 h2 => Nat.lt_of_lt_of_le (wb v k (hcell.symm.trans h1) h2) hb.size, fun g cs t _ h1 h2 => ⟨?_, fun v hv => h2 v (hcell.symm.trans hv)⟩⟩
  have hne : g ≠ l := by rintro rfl; rw [h] at h1; cases h1; cases hc
  exact (World.putObj_heap_other hne).trans h1
/-- A block that is kept. -/
structure Kb (B : Nat) (W : World) (g : Nat) (cs : Array Value) (t : Nat) : Prop where
  blk : W.heap[g]? = some (.cells cs t (0, 0))
  own : NotOwn B W g
theorem Kb.k {n₀ B : Nat} {W W' : World} {g : Nat} {cs : Array Value} {t : Nat} (h : Kb B W g cs t) (ht : t ≠ 28) (hk : KB n₀ B W W') : Kb B W' g cs t := by
  obtain ⟨h1, h2⟩ := hk.k g cs t ht h.blk h.own
  exact ⟨h1, h2⟩
abbrev fWalk (gy gp gf : Nat) : Value := .func (.func 56) #[] #[.pointer (some ⟨gy, 0, none⟩), .pointer (some ⟨gp, 0, none⟩), .pointer (some ⟨gf, 0, none⟩)]
structure TS (n₀ B l gy gp gf : Nat) (A0 : Option Addr) (n0 c0 : Nat) (A1 : Option Addr) (n1 c1 : Nat) (w W : World) : Prop where
  b : Below n₀ w W
  hB : B < W.heap.size
  hn : n₀ ≤ W.heap.size
  wb : WB B W
  kp : Kb B W gp #[.slice A0 n0 c0, .slice A1 n1 c1] 25
  ky : Kb B W gy #[.func (.yield l) #[] #[]] 75
  kf : Kb B W gf #[fWalk gy gp gf] 75
theorem TS.k {n₀ B l gy gp gf : Nat} {A0 : Option Addr} {n0 c0 : Nat} {A1 : Option Addr} {n1 c1 : Nat} {w W W' : World} (h : TS n₀ B l gy gp gf A0 n0 c0 A1 n1 c1 w W) (hk : KB n₀ B W W') : TS n₀ B l gy gp gf A0 n0 c0 A1 n1 c1 w W' :=
  ⟨h.b.trans hk.b, Nat.lt_of_lt_of_le h.hB hk.b.size, Nat.le_trans h.hn hk.b.size, hk.wb h.wb, h.kp.k (by decide) hk, h.ky.k (by decide) hk, h.kf.k (by decide) hk⟩
/-- A row of numbers that a call made, apart from the slice in box B. -/
def PR (n₀ B : Nat) (W : World) (base : Nat) (A : Option Addr) (c : Nat) (ps : List Int) : Prop :=
  0 < ps.length → ∃ g cells, A = some ⟨g, 0, none⟩ ∧ Kb B W g cells 3 ∧ Kd.R (Kd.int .i64) 3 W base (fun _ => True) (.slice A ps.length c) ps
theorem PR.k {n₀ B base : Nat} {W W' : World} {A : Option Addr} {c : Nat} {ps : List Int} (h : PR n₀ B W base A c ps) (hk : KB n₀ B W W') : PR n₀ B W' base A c ps := fun hp => by
  obtain ⟨g, cells, rfl, hb, hr⟩ := h hp
  have hb' := hb.k (by decide) hk
  refine ⟨g, cells, rfl, hb', ?_⟩
  have hkk : Kept W W' (fun k => k ≠ g) := ⟨hk.b.size, fun i hi hne => by
    have : i = g := Decidable.of_not_not hne
    subst this
    rw [hb.blk, hb'.blk]⟩
  exact Kd.R_mono (Kd.R_kept (Kd.R_tight rfl hr) hkk (fun k hk2 hne => hne (by simpa [Value.ownBlock] using hk2))) (fun _ _ => trivial)
theorem PR.made {n₀ B : Nat} {W W' : World} {A : Option Addr} {c : Nat} {ps : List Int} (hr : Kd.R (Kd.int .i64) 3 W' W.heap.size (fun _ => True) (.slice A ps.length c) ps) (hb : Below W.heap.size W W') (hB : B < W.heap.size) (hw : WB B W) : PR n₀ B W' W.heap.size A c ps := fun hp => by
  obtain ⟨g, cap, e, hg, hlt, cells, hc⟩ := Kd.R_form hr hp
  cases e
  refine ⟨g, cells, rfl, ⟨hc, fun v hv hown => ?_⟩, hr⟩
  have := hw v g ((hb.cell (p := ⟨B, 0, none⟩) hB).symm.trans hv) hown
  omega
theorem treeAll_cons (n : Nat) (xs : List S31) (e : Int) : treeAll (n + 1) xs e = e :: (partsF (rd_T31 xs e)).flatMap (treeAll n xs) := rfl
theorem take_flat {f : Int → List Int} {ps : List Int} {y : Nat} (h : y < ps.length) : (ps.take (y + 1)).flatMap f = (ps.take y).flatMap f ++ f ps[y] := by
  rw [List.take_succ_eq_append_getElem h, List.flatMap_append]
  simp
theorem take_flat_pre {f : Int → List Int} {ps : List Int} (y : Nat) : (ps.take y).flatMap f <+: ps.flatMap f :=
  ⟨(ps.drop y).flatMap f, by rw [← List.flatMap_append, List.take_append_drop]⟩
set_option maxHeartbeats 8000000 in
set_option maxRecDepth 100000 in
theorem push_any (l N n₀ B base : Nat) (gy gp gf : Nat) (A0 : Option Addr) (n0 c0 : Nat) (A1 : Option Addr) (c1 : Nat) (l1 : List S31) (w : World) (J Jx : List Int → World → Prop)
    (hw : w.heap.size = n₀) (hE : Kd.C k31 w A1 l1.length l1) (hEc : l1.length ≤ c1) (hsz : ∀ x ∈ l1, x.f7.length ≤ 1000000000000)
    (hpar : ∀ x : Int, 0 ≤ x → x < (l1.length : Int) → ∀ c ∈ partsF (rd_T31 l1 x), 0 ≤ c ∧ c < x)
    (hJ : ∀ pre {W1 W2 : World}, base ≤ W1.heap.size → J pre W1 → Below W1.heap.size W1 W2 → J pre W2) (hbn : base ≤ gf)
    (hY : ∀ m pre x W, J pre W → pre.length < N → YieldAt Fence.wide m Try.prog l #[.int .i64 x] W fun e W' =>
      (e = .returned (.bool true) ∧ J (pre ++ [x]) W' ∧ KB n₀ B W W') ∨ (e = .returned (.bool false) ∧ Jx (pre ++ [x]) W')) :
    ∀ (n : Nat) (x : Int), 0 ≤ x → x.toNat < n → x < (l1.length : Int) → ∀ (m : Nat) (pre : List Int) (W : World), TS n₀ B l gy gp gf A0 n0 c0 A1 l1.length c1 w W → J pre W → pre.length + (treeAll n l1 x).length ≤ N →
      CallsIn Fence.wide m Try.prog 56 #[.int .i64 x, .pointer (some ⟨gy, 0, none⟩), .pointer (some ⟨gp, 0, none⟩), .pointer (some ⟨gf, 0, none⟩)] W fun e W' =>
        (e = .returned (.bool true) ∧ J (pre ++ treeAll n l1 x) W' ∧ KB n₀ B W W') ∨ (e = .returned (.bool false) ∧ ∃ q, q <+: treeAll n l1 x ∧ Jx (pre ++ q) W') := by
  intro n
  induction n with
  | zero => intro x _ h; omega
  | succ n ih =>
    intro x h0 hxn h1 m pre W hS hj hN
    have hro : Fence.wide.round = none := rfl
    have hdd : ∀ k : Nat, (Fence.wide.depth.isSome = true → 1 ≤ k) := fun k h => by cases h
    rw [treeAll_cons, List.length_cons] at hN
    obtain ⟨fn, tmps, assign, body, hy, hR⟩ := hY (m - 1) pre x W hj (by omega)
    have HR := Aside0.mk hR
    have HS := Aside0.mk hS
    have HIH := Aside0.mk ih
    have HE := Aside0.mk hE
    have HSZ := Aside0.mk hsz
    have HPAR := Aside0.mk (hpar x h0 h1)
    have HX := Aside0.mk (show 0 ≤ x ∧ x.toNat < n + 1 ∧ x < (l1.length : Int) from ⟨h0, hxn, h1⟩)
    have HJ := Aside0.mk hJ
    have HN := Aside0.mk hN
    have HEc := Aside0.mk hEc
    have HBN := Aside0.mk hbn
    have HW := Aside0.mk hw
    have ky := (blk_cell hS.ky.blk 0).trans rfl
    clear hS ih hE hsz hpar hxn hJ hN hR hj hY hbn hw hEc
    replace h0 := eq_true h0
    replace h1 := eq_true h1
    refine callsIn_of_wp Try.func56 rfl trivial ?_ hro
    simp only [Try.ntmps56, List.size_toArray, List.length_cons, List.length_nil, Nat.reduceAdd, Nat.reduceSub, Array.replicate_succ, Array.replicate_zero, List.push_toArray, List.append_toArray, List.nil_append, List.cons_append]
    gi_upto_region 3 with ((try refine ⟨hdd _, ?_⟩); refine HR.out.mono ?_; rintro e W1 (⟨rfl, hj1, hk1⟩ | ⟨rfl, hx1⟩))
    · have hS1 := HS.out.k hk1
      have kp1 := (blk_cell hS1.kp.blk 1).trans rfl
      obtain ⟨ad, A7, c7, ea, hx0, hx1, hx2, hx3, hx4, hx5, hx6, hx7, hx8, hl7, hi7⟩ := at_T31 (Kd.C_below HE.out (by rw [HW.out]; exact hS1.b)) x HX.out.1 HX.out.2.2
      cases ea
      have hx : x.toNat < l1.length := by have := HX.out; omega
      have hmem : (rd_T31 l1 x) ∈ l1 := by
        have : rd_T31 l1 x = l1[x.toNat] := by
          unfold rd_T31
          simp [List.getD_eq_getElem?_getD, List.getElem?_eq_getElem hx]
        rw [this]
        exact List.getElem_mem hx
      have KE := Aside0.mk (ast_Parts.calls 2 (rd_T31 l1 x).f0 (rd_T31 l1 x).f1 (rd_T31 l1 x).f2 (rd_T31 l1 x).f3 (rd_T31 l1 x).f4 (rd_T31 l1 x).f5 (rd_T31 l1 x).f6 A7 c7 (rd_T31 l1 x).f7 (rd_T31 l1 x).f8 (partsF (rd_T31 l1 x)) W1 hi7 hl7 (parts_f 0 (rd_T31 l1 x) (by have := HSZ.out _ hmem; omega)))
      have HPL := Aside0.mk (show (partsF (rd_T31 l1 x)).length ≤ 1000000000003 by have h1 := parts_lenN (rd_T31 l1 x); have h2 := HSZ.out _ hmem; omega)
      have HT := Aside0.mk (treeAll_cons n l1 x)
      obtain ⟨ps, hps⟩ : ∃ ps, partsF (rd_T31 l1 x) = ps := ⟨_, rfl⟩
      have HPA := Aside0.mk (show ∀ c ∈ ps, 0 ≤ c ∧ c < x by have h := HPAR.out; rw [hps] at h; exact h)
      have HN' := Aside0.mk (show pre.length + ((ps.flatMap (treeAll n l1)).length + 1) ≤ N by rw [← hps]; exact HN.out)
      have HT' := Aside0.mk (show treeAll (n + 1) l1 x = x :: ps.flatMap (treeAll n l1) by rw [← hps]; exact HT.out)
      rw [hps] at KE HPL
      have HS1 := Aside0.mk hS1
      have HJ1 := Aside0.mk hj1
      have HK1 := Aside0.mk hk1
      clear hS1 hj1 hk1 hx hmem hl7 hi7 hps HPAR HSZ HN HT ky hy HR HS
      gi_wp2_with (refine ⟨trivial, hdd _, ?_⟩; gi_at_call 10; refine (callsIn_wide.2 KE.out).mono ?_; rintro e we ⟨vp, rfl, hrp, hbe⟩; obtain ⟨Ap, cp, rfl⟩ := Kd.R_slice hrp; have HRP := Aside0.mk hrp; have HBE := Aside0.mk hbe; clear hrp hbe)
      clear hx0 hx1 hx2 hx3 hx4 hx5 hx6 hx7 hx8 kp1 KE
      have HKE := Aside0.mk (KB.below (n₀ := n₀) HBE.out HS1.out.hB HS1.out.hn)
      gi_loopw [7, 19] (fun _ v19 wr => ∃ y : Nat, v19 = .int .i64 (y : Int) ∧ y ≤ ps.length ∧ Aside0 (J (pre ++ x :: (ps.take y).flatMap (treeAll n l1)) wr) ∧ Aside0 (KB n₀ B W wr) ∧ Aside0 (TS n₀ B l gy gp gf A0 n0 c0 (some ad) l1.length c1 w wr) ∧ Aside0 (PR n₀ B wr W1.heap.size Ap cp ps)) (fun _ v19 _ => ps.length - (intOf v19).toNat)
      case atStart =>
        refine ⟨0, rfl, by omega, ⟨?_⟩, ⟨HK1.out.trans HKE.out⟩, ⟨HS1.out.k HKE.out⟩, ⟨PR.made HRP.out HBE.out HS1.out.hB HS1.out.wb⟩⟩
        have hlt := blk_lt HS1.out.kf.blk
        have := HBN.out
        exact HJ.out _ (by omega) HJ1.out HBE.out
      case round =>
        obtain ⟨y, rfl, hy, HJr, HKr, HSr, HPr⟩ := hrel
        by_cases hlt : y < ps.length
        · obtain ⟨g9, cells9, e9, hb9, hR⟩ := HPr.out (by omega)
          cases e9
          have ky := (show (0 : Int) ≤ (y : Int) ∧ (y : Int) < (ps.length : Int) by omega)
          obtain ⟨q1, q2⟩ := Kd.R_celln 0 hR (y : Int) ky.1 ky.2
          have hrd : rdOf (0 : Int) ps (y : Int) = ps[y] := by
            unfold rdOf
            simp [List.getD_eq_getElem?_getD, List.getElem?_eq_getElem hlt]
          rw [hrd, Int.toNat_natCast] at q1
          rw [Int.toNat_natCast] at q2
          have hpc := HPA.out ps[y] (List.getElem_mem hlt)
          have HT9 := Aside0.mk (take_flat (f := treeAll n l1) hlt)
          have HP9 := Aside0.mk (take_flat_pre (f := treeAll n l1) (ps := ps) (y + 1))
          obtain ⟨cc, hcc⟩ : ∃ c, ps[y] = c := ⟨_, rfl⟩
          rw [hcc] at q1 hpc HT9
          have hlen : (pre ++ x :: (ps.take y).flatMap (treeAll n l1)).length + (treeAll n l1 cc).length ≤ N := by
            have h1 := HN'.out
            have h2 := HP9.out.length_le
            rw [HT9.out, List.length_append] at h2
            rw [List.length_append, List.length_cons]
            omega
          have KI := Aside0.mk (HIH.out cc hpc.1 (by have := HX.out; omega) (by have := HX.out; omega) (m - 1) _ wr HSr.out HJr.out hlen)
          have p0 := eq_true ky.1
          have q0 := eq_true ky.2
          have kf := (blk_cell HSr.out.kf.blk 0).trans rfl
          have HY := Aside0.mk (show y < ps.length from hlt)
          clear hlt hR hrd hpc hcc ky hlen hb9
          gi_wp2_with (refine ⟨trivial, hdd _, ?_⟩; gi_at_call 56; refine KI.out.mono ?_; rintro e w' (⟨rfl, hj9, hk9⟩ | ⟨rfl, q, hq, hx9⟩))
          · have HJ9 := Aside0.mk hj9
            have HK9 := Aside0.mk hk9
            clear hj9 hk9
            go_roundw
            case rel =>
              have h1 := HY.out
              have h2 := HPL.out
              exact ⟨y + 1, by rw [wrap_i64' (by omega) (by omega), ← Int.natCast_succ], HY.out, ⟨by rw [HT9.out]; simpa [List.append_assoc] using HJ9.out⟩, ⟨HKr.out.trans HK9.out⟩, ⟨HSr.out.k HK9.out⟩, ⟨HPr.out.k HK9.out⟩⟩
            case measure =>
              have h1 := HY.out
              have h2 := HPL.out
              have hw := wrap_i64' (n := (y : Int) + 1) (by omega) (by omega)
              show ps.length - (intOf (.int .i64 (wrap64 ((y : Int) + 1)))).toNat < ps.length - (intOf (.int .i64 (y : Int))).toNat
              rw [hw, show intOf (.int .i64 ((y : Int) + 1)) = (y : Int) + 1 from rfl, show intOf (.int .i64 (y : Int)) = (y : Int) from rfl]
              omega
          · go_ret
            refine .inr ⟨rfl, x :: ((ps.take y).flatMap (treeAll n l1) ++ q), ?_, by simpa [List.append_assoc] using hx9⟩
            rw [HT'.out]
            refine List.prefix_cons_inj _ |>.2 (List.IsPrefix.trans ?_ HP9.out)
            rw [HT9.out]
            exact (List.prefix_append_right_inj _).2 hq
        · have hyl : y = ps.length := by omega
          subst hyl
          gi_wp2
          go_ret
          have h8 := HJr.out
          rw [List.take_length, ← HT'.out] at h8
          exact .inl ⟨rfl, h8, HKr.out⟩
    · go_ret
      refine .inr ⟨rfl, [x], ?_, hx1⟩
      rw [treeAll_cons]
      exact ⟨_, rfl⟩
set_option maxHeartbeats 4000000 in
set_option maxRecDepth 100000 in
theorem walk1_stops (B gp ge : Nat) (A0 : Option Addr) (n0 c0 : Nat) (A1 : Option Addr) (c1 : Nat) (l1 : List S31) (w W0 : World) (x : Int) (h0 : 0 ≤ x) (h1 : x < (l1.length : Int))
    (hE : Kd.C k31 w A1 l1.length l1) (hEc : l1.length ≤ c1) (hsz : ∀ x ∈ l1, x.f7.length ≤ 1000000000000)
    (hpar : ∀ x : Int, 0 ≤ x → x < (l1.length : Int) → ∀ c ∈ partsF (rd_T31 l1 x), 0 ≤ c ∧ c < x)
    (hb0 : Below w.heap.size w W0) (hB : B < W0.heap.size) (hBc : W0.cell? ⟨B, 0, none⟩ = some (.slice none 0 0))
    (hp : W0.heap[gp]? = some (.cells #[.slice A0 n0 c0, .slice A1 l1.length c1] 25 (0, 0))) (he : W0.heap[ge]? = some (.cells #[.int .i64 x] 3 (0, 0))) :
    SeqStopsK Fence.wide 5 Try.prog 55 #[.pointer (some ⟨gp, 0, none⟩), .pointer (some ⟨ge, 0, none⟩)] (fun x : Int => #[Value.int .i64 x]) (KB w.heap.size B) (fun ys => ys = treeAll (x.toNat + 1) l1 x) (fun pre => pre <+: treeAll (x.toNat + 1) l1 x) (treeAll (x.toNat + 1) l1 x).length W0 := by
  intro l J Jx W hW hJ _ hY hj0
  have hro : Fence.wide.round = none := rfl
  have hdd : ∀ k : Nat, (Fence.wide.depth.isSome = true → 1 ≤ k) := fun k h => by cases h
  have e1 := (blk_cell (blk_below he hW) 0).trans rfl
  have hle : w.heap.size ≤ W.heap.size := Nat.le_trans hb0.size hW.size
  obtain ⟨W3, hW3⟩ : ∃ V, V = ((W.alloc (.cells #[.func (.yield l) #[] #[]] 75)).alloc (.cells #[fWalk W.heap.size gp (W.heap.size + 1)] 75)) := ⟨_, rfl⟩
  have hb3 : Below W.heap.size W W3 := by
    rw [hW3]; exact (((Below.refl _ _).alloc (Nat.le_refl _) _).alloc (by simp) _)
  have hc3 : W3.cell? ⟨B, 0, none⟩ = some (.slice none 0 0) := (hb3.cell (p := ⟨B, 0, none⟩) (Nat.lt_of_lt_of_le hB hW.size)).trans ((hW.cell (p := ⟨B, 0, none⟩) hB).trans hBc)
  have hno : ∀ g, NotOwn B W3 g := fun g v hv => by rw [hc3] at hv; cases hv; simp [Value.ownBlock]
  have hy3 : W3.heap[W.heap.size]? = some (.cells #[.func (.yield l) #[] #[]] 75 (0, 0)) := by
    rw [hW3]
    exact blk_below (blk_new W _) ((Below.refl _ _).alloc (Nat.le_refl _) _)
  have hf3 : W3.heap[W.heap.size + 1]? = some (.cells #[fWalk W.heap.size gp (W.heap.size + 1)] 75 (0, 0)) := by
    rw [hW3]
    have h9 := blk_new (W.alloc (.cells #[.func (.yield l) #[] #[]] 75)) (.cells #[fWalk W.heap.size gp (W.heap.size + 1)] 75)
    rw [World.size_alloc] at h9
    exact h9
  have hTS : TS w.heap.size B l W.heap.size gp (W.heap.size + 1) A0 n0 c0 A1 l1.length c1 w W3 := by
    refine ⟨(hb0.trans (hW.mono hb0.size)).trans (hb3.mono hle), ?_, Nat.le_trans hle hb3.size, ?_, ⟨blk_below (blk_below hp hW) hb3, hno _⟩, ⟨hy3, hno _⟩, ⟨hf3, hno _⟩⟩
    · have := hW.size; have := hb3.size; omega
    · intro v k hv hk
      rw [hc3] at hv
      cases hv
      simp [Value.ownBlock] at hk
  have hj3 : J [] W3 := hJ [] W W3 none hj0 (grownT hb3) (fun r e => by cases e)
  have KP := Aside0.mk (push_any l (treeAll (x.toNat + 1) l1 x).length w.heap.size B 0 W.heap.size gp (W.heap.size + 1) A0 n0 c0 A1 c1 l1 w J Jx rfl hE hEc hsz hpar
    (fun pre {W1 W2} _ hj hbl => hJ pre W1 W2 none hj (grownT hbl) (fun r e => by cases e)) (Nat.zero_le _)
    (fun m pre y W1 hj hl => yieldAnyT rfl m (hY pre y W1 hj hl)) (x.toNat + 1) x h0 (by omega) h1 (5 - 1) [] W3 hTS hj3 (by simp))
  have e3 := (hb3.cell (p := ⟨ge, 0, none⟩) (blk_lt (blk_below he hW))).trans e1
  have f3 := (blk_cell hf3 0).trans rfl
  have HW3 := Aside0.mk hW3
  clear hTS hj3 hY hJ hno hc3 hy3 hb3 hW3 hf3
  refine callsIn_of_wp Try.func55 rfl trivial ?_ hro
  simp only [Try.ntmps55, List.size_toArray, List.length_cons, List.length_nil, Nat.reduceAdd, Nat.reduceSub, Array.replicate_succ, Array.replicate_zero, List.push_toArray, List.append_toArray, List.nil_append, List.cons_append]
  gi_upto_region 3 with (fail)
  rw [← HW3.out]
  gi_wp2_with (refine ⟨trivial, ?_⟩; gi_at_call 56; refine KP.out.mono ?_; rintro e w' (⟨rfl, hj9, hk9⟩ | ⟨rfl, q, hq, hx9⟩))
  · go_end0
    exact ⟨⟨_, rfl⟩, .inl ⟨_, rfl, by simpa using hj9⟩⟩
  · go_end0
    exact ⟨⟨_, rfl⟩, .inr ⟨q, hq, by simpa using hx9⟩⟩
theorem walk_in (n : Nat) (w : World) (a0 a1 : Value) (x : Int) :
    CallsIn Fence.wide n Try.prog 34 #[.agg #[a0, a1], .int .i64 x] w fun e w' => e = .returned (.func (.func 55) #[] #[.pointer (some ⟨w.heap.size, 0, none⟩), .pointer (some ⟨w.heap.size + 1, 0, none⟩)]) ∧ w' = (w.alloc (.cells #[a0, a1] 25)).alloc (.cells #[.int .i64 x] 3) := by
  have hmf : ∀ (first : Array Value) (cap : Array Value) (w : World), (Instr.makeFunc (.func 55) first cap).run Try.prog w = .ok (.func (.func 55) first cap) w := fun _ _ _ => rfl
  refine callsIn_of_wp Try.func34 rfl trivial ?_ rfl
  simp only [Try.ntmps34, List.size_toArray, List.length_cons, List.length_nil, Nat.reduceAdd, Nat.reduceSub, Array.replicate_succ, Array.replicate_zero, List.push_toArray, List.append_toArray, List.nil_append, List.cons_append]
  gi_wp2
  go_ret
  exact ⟨rfl, rfl⟩
end Go.Proofs.Ytediidkiedifcaa.Q
