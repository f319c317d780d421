/- The Go function verify.Wrong: the first wrong instruction. -/
import Derived.Test.YtgalkkolbobmbaaGreatVHWrong

namespace Go.Proofs.YtgalkkolbobmbaaGreat.V
open Go.RowKit Go.Shelf Go.Proofs.YtgalkkolbobmbaaGreatW.PrintWords Go.Proofs.YtgalkkolbobmbaaGreatW.PrintLast Go.Proofs.YtgalkkolbobmbaaGreatW.PrintMore
attribute [local go_sem] Oper.semAt_some

theorem wrong_in (n : Nat) (w : World) (a0 a1 a2 a3 a4 a5 a6 a7 a8 a9 : Value) :
 CallsIn Fence.wide n Tryz.prog 180 #[.agg #[a0, a1, a2, a3, a4, a5, a6, a7, a8, a9]] w fun e w' => e = .returned (.func (.func 205) #[] #[.pointer (some ⟨w.heap.size, 0, none⟩)]) ∧ w' = w.alloc (.cells #[a0, a1, a2, a3, a4, a5, a6, a7, a8, a9] 26) := by
 have hmf : ∀ (first : Array Value) (cap : Array Value) (w : World), (Instr.makeFunc (.func 205) first cap).run Tryz.prog w = .ok (.func (.func 205) first cap) w := fun _ _ _ => rfl
 refine callsIn_of_wp Tryz.func180 rfl trivial ?_ rfl
 simp only [Tryz.ntmps180, List.size_toArray, List.length_cons, List.length_nil, Nat.reduceAdd, Nat.reduceSub, Array.replicate_succ, Array.replicate_zero, List.push_toArray, List.append_toArray, List.nil_append, List.cons_append]
 gi_wp2
 go_ret
 exact ⟨rfl, rfl⟩

theorem three_set (W : World) (g : Nat) (a b c : Value) {o1 o2 o3 : Value} (c1 : W.cell? ⟨g + 1, 0, none⟩ = some o1) (c2 : W.cell? ⟨g + 1 + 1, 0, none⟩ = some o2) (c3 : W.cell? ⟨g + 1 + 1 + 1, 0, none⟩ = some o3) :
 (((W.setCell ⟨g + 1, 0, none⟩ a).setCell ⟨g + 1 + 1, 0, none⟩ b).setCell ⟨g + 1 + 1 + 1, 0, none⟩ c).cell? ⟨g + 1, 0, none⟩ = some a ∧ (((W.setCell ⟨g + 1, 0, none⟩ a).setCell ⟨g + 1 + 1, 0, none⟩ b).setCell ⟨g + 1 + 1 + 1, 0, none⟩ c).cell? ⟨g + 1 + 1, 0, none⟩ = some b ∧ (((W.setCell ⟨g + 1, 0, none⟩ a).setCell ⟨g + 1 + 1, 0, none⟩ b).setCell ⟨g + 1 + 1 + 1, 0, none⟩ c).cell? ⟨g + 1 + 1 + 1, 0, none⟩ = some c := by
 refine ⟨?_, ?_, ?_⟩ <;> simp [go_sem, c1, c2, c3]
def wrongRes : List (Int × Int) → Value
 | [] => .tuple #[.int .i64 0, .int .i64 0, .bool false]
 | x :: _ => .tuple #[.int .i64 x.1, .int .i64 x.2, .bool true]
set_option maxRecDepth 100000 in
set_option maxHeartbeats 4000000 in
theorem Wrong_any (s0 s1 s2 s3 : Option Addr) (n0 c0 n1 c1 n2 c2 n3 c3 : Nat) (cross a5 : Int) (A : Nat → Option Addr) (cp : Nat → Nat) (ps : Nat → List S49) (w : World)
 (hL : ∀ k, k < 4 → ∀ W', Below w.heap.size w W' → Kd.C k49 W' (A k) (ps k).length (ps k)) (hc : ∀ k, k < 4 → (ps k).length ≤ cp k) :
 Calls Tryz.prog 106 #[.agg #[.slice s0 n0 c0, .slice s1 n1 c1, .slice s2 n2 c2, .slice s3 n3 c3, .int .i64 cross, .int .i64 a5, .slice (A 0) (ps 0).length (cp 0), .slice (A 1) (ps 1).length (cp 1), .slice (A 2) (ps 2).length (cp 2), .slice (A 3) (ps 3).length (cp 3)]] w fun e W' => e = .returned (wrongRes (wrongPs (rightB n0 n1 n2 n3 cross) ps 4)) ∧ Below w.heap.size w W' := by
 refine (callsIn_wide (n := 6)).1 ?_
 have hro : Fence.wide.round = none := rfl
 have h1 : 1 ≤ 6 := by omega
 refine callsIn_of_wp_marks Tryz.func106 rfl trivial ?_ hro
 simp only [Tryz.ntmps106, List.size_toArray, List.length_cons, List.length_nil, Nat.reduceAdd, Nat.reduceSub, Array.replicate_succ, Array.replicate_zero, List.push_toArray, List.append_toArray, List.nil_append, List.cons_append]
 gi_wp2_with (refine ⟨trivial, ?_⟩; gi_at_call 180; refine (wrong_in _ _ _ _ _ _ _ _ _ _ _ _).mono ?_; rintro e w' ⟨rfl, rfl⟩)
 obtain ⟨W0, hW0⟩ : ∃ W0, W0 = ((((w.alloc (Obj.cells #[.slice s0 n0 c0, .slice s1 n1 c1, .slice s2 n2 c2, .slice s3 n3 c3, .int .i64 cross, .int .i64 a5, .slice (A 0) (ps 0).length (cp 0), .slice (A 1) (ps 1).length (cp 1), .slice (A 2) (ps 2).length (cp 2), .slice (A 3) (ps 3).length (cp 3)] 26)).alloc (Obj.cells #[.int .i64 0] 3)).alloc (Obj.cells #[.int .i64 0] 3)).alloc (Obj.cells #[.bool false] 4)).alloc (Obj.cells #[.slice s0 n0 c0, .slice s1 n1 c1, .slice s2 n2 c2, .slice s3 n3 c3, .int .i64 cross, .int .i64 a5, .slice (A 0) (ps 0).length (cp 0), .slice (A 1) (ps 1).length (cp 1), .slice (A 2) (ps 2).length (cp 2), .slice (A 3) (ps 3).length (cp 3)] 26) := ⟨_, rfl⟩
 have hsz : W0.heap.size = w.heap.size + 5 := by rw [hW0]; simp
 have hB0 : Below w.heap.size w W0 := by rw [hW0]; exact (((((Below.refl _ _).alloc (Nat.le_refl _) _).alloc (by simp) _).alloc (by simp; omega) _).alloc (by simp; omega) _).alloc (by simp; omega) _
 have hb1 : W0.heap[w.heap.size + 1]? = some (.cells #[.int .i64 0] 3 (0, 0)) := by
  rw [hW0]; have := blk_elder (blk_elder (blk_elder (blk_fresh (w.alloc (Obj.cells #[.slice s0 n0 c0, .slice s1 n1 c1, .slice s2 n2 c2, .slice s3 n3 c3, .int .i64 cross, .int .i64 a5, .slice (A 0) (ps 0).length (cp 0), .slice (A 1) (ps 1).length (cp 1), .slice (A 2) (ps 2).length (cp 2), .slice (A 3) (ps 3).length (cp 3)] 26)) (Obj.cells #[.int .i64 0] 3)) (Obj.cells #[.int .i64 0] 3)) (Obj.cells #[.bool false] 4)) (Obj.cells #[.slice s0 n0 c0, .slice s1 n1 c1, .slice s2 n2 c2, .slice s3 n3 c3, .int .i64 cross, .int .i64 a5, .slice (A 0) (ps 0).length (cp 0), .slice (A 1) (ps 1).length (cp 1), .slice (A 2) (ps 2).length (cp 2), .slice (A 3) (ps 3).length (cp 3)] 26); simpa using this
 have hb2 : W0.heap[w.heap.size + 1 + 1]? = some (.cells #[.int .i64 0] 3 (0, 0)) := by
  rw [hW0]; have := blk_elder (blk_elder (blk_fresh ((w.alloc (Obj.cells #[.slice s0 n0 c0, .slice s1 n1 c1, .slice s2 n2 c2, .slice s3 n3 c3, .int .i64 cross, .int .i64 a5, .slice (A 0) (ps 0).length (cp 0), .slice (A 1) (ps 1).length (cp 1), .slice (A 2) (ps 2).length (cp 2), .slice (A 3) (ps 3).length (cp 3)] 26)).alloc (Obj.cells #[.int .i64 0] 3)) (Obj.cells #[.int .i64 0] 3)) (Obj.cells #[.bool false] 4)) (Obj.cells #[.slice s0 n0 c0, .slice s1 n1 c1, .slice s2 n2 c2, .slice s3 n3 c3, .int .i64 cross, .int .i64 a5, .slice (A 0) (ps 0).length (cp 0), .slice (A 1) (ps 1).length (cp 1), .slice (A 2) (ps 2).length (cp 2), .slice (A 3) (ps 3).length (cp 3)] 26); simpa using this
 have hb3 : W0.heap[w.heap.size + 1 + 1 + 1]? = some (.cells #[.bool false] 4 (0, 0)) := by
  rw [hW0]; have := blk_elder (blk_fresh (((w.alloc (Obj.cells #[.slice s0 n0 c0, .slice s1 n1 c1, .slice s2 n2 c2, .slice s3 n3 c3, .int .i64 cross, .int .i64 a5, .slice (A 0) (ps 0).length (cp 0), .slice (A 1) (ps 1).length (cp 1), .slice (A 2) (ps 2).length (cp 2), .slice (A 3) (ps 3).length (cp 3)] 26)).alloc (Obj.cells #[.int .i64 0] 3)).alloc (Obj.cells #[.int .i64 0] 3)) (Obj.cells #[.bool false] 4)) (Obj.cells #[.slice s0 n0 c0, .slice s1 n1 c1, .slice s2 n2 c2, .slice s3 n3 c3, .int .i64 cross, .int .i64 a5, .slice (A 0) (ps 0).length (cp 0), .slice (A 1) (ps 1).length (cp 1), .slice (A 2) (ps 2).length (cp 2), .slice (A 3) (ps 3).length (cp 3)] 26); simpa using this
 have hb4 : W0.heap[w.heap.size + 1 + 1 + 1 + 1]? = some (.cells #[.slice s0 n0 c0, .slice s1 n1 c1, .slice s2 n2 c2, .slice s3 n3 c3, .int .i64 cross, .int .i64 a5, .slice (A 0) (ps 0).length (cp 0), .slice (A 1) (ps 1).length (cp 1), .slice (A 2) (ps 2).length (cp 2), .slice (A 3) (ps 3).length (cp 3)] 26 (0, 0)) := by
  rw [hW0]; have := blk_fresh ((((w.alloc (Obj.cells #[.slice s0 n0 c0, .slice s1 n1 c1, .slice s2 n2 c2, .slice s3 n3 c3, .int .i64 cross, .int .i64 a5, .slice (A 0) (ps 0).length (cp 0), .slice (A 1) (ps 1).length (cp 1), .slice (A 2) (ps 2).length (cp 2), .slice (A 3) (ps 3).length (cp 3)] 26)).alloc (Obj.cells #[.int .i64 0] 3)).alloc (Obj.cells #[.int .i64 0] 3)).alloc (Obj.cells #[.bool false] 4)) (Obj.cells #[.slice s0 n0 c0, .slice s1 n1 c1, .slice s2 n2 c2, .slice s3 n3 c3, .int .i64 cross, .int .i64 a5, .slice (A 0) (ps 0).length (cp 0), .slice (A 1) (ps 1).length (cp 1), .slice (A 2) (ps 2).length (cp 2), .slice (A 3) (ps 3).length (cp 3)] 26); simpa using this
 rw [← hW0]
 clear hW0
 have q1 := cell_of_row W0 _ 0 _ _ _ hb1
 have q2 := cell_of_row W0 _ 0 _ _ _ hb2
 have q3 := cell_of_row W0 _ 0 _ _ _ hb3
 have r1 := frozen_of_row W0 _ 0 _ _ hb1
 have r2 := frozen_of_row W0 _ 0 _ _ hb2
 have r3 := frozen_of_row W0 _ 0 _ _ hb3
 simp only [List.getElem?_toArray, List.getElem?_cons_zero] at q1 q2 q3
 obtain ⟨g, hg⟩ : ∃ g, g = w.heap.size := ⟨_, rfl⟩
 rw [← hg] at hsz hb1 hb2 hb3 hb4 q1 q2 q3 r1 r2 r3 ⊢
 have hcon : SeqStopsK Fence.wide 5 Tryz.prog 205 #[.pointer (some ⟨g + 1 + 1 + 1 + 1, 0, none⟩)] (fun x : Int × Int => #[Value.int .i64 x.1, Value.int .i64 x.2]) (Below (g + 5)) (fun ys => ys = wrongPs (rightB n0 n1 n2 n3 cross) ps 4) (fun pre => pre <+: wrongPs (rightB n0 n1 n2 n3 cross) ps 4) (sumLen ps 4) W0 := by
  intro l J Jx W hW hJ _ hY h0
  refine wrong1_in l (g + 1 + 1 + 1 + 1) (g + 5) s0 s1 s2 s3 n0 c0 n1 c1 n2 c2 n3 c3 cross a5 A cp ps J Jx W ?_ (by omega) (by rw [← hsz]; exact hW.size) ?_ hc hJ ⟨hY⟩ h0
  · rw [hW.block _ (by omega)]; exact hb4
  · intro k hk W' hW'
    exact hL k hk W' (hB0.trans ((hW.mono (by omega)).trans (hW'.mono (by omega))))
 have HG := Aside0.mk hg
 clear hg
 refine wpIn_rangeFunc_ownG hro h1 (gf := 205) (lb := #[.pointer (some ⟨g + 1 + 1 + 1 + 1, 0, none⟩)]) rfl trivial (enters_of Tryz.func205 (by kernel_rfl) rfl)
  hcon belowK_t (belowK_b (by omega)) (Below.refl _ _) (fun _ => rfl)
  (fun pre W => (pre = [] ∧ W.cell? ⟨g + 1, 0, none⟩ = some (.int .i64 0) ∧ W.frozen? ⟨g + 1, 0, none⟩ = false ∧ W.cell? ⟨g + 1 + 1, 0, none⟩ = some (.int .i64 0) ∧ W.frozen? ⟨g + 1 + 1, 0, none⟩ = false ∧ W.cell? ⟨g + 1 + 1 + 1, 0, none⟩ = some (.bool false) ∧ W.frozen? ⟨g + 1 + 1 + 1, 0, none⟩ = false) ∧ Below g w W)
  (fun c pre W => (c = .ret ∧ ∃ x, pre = [x] ∧ W.cell? ⟨g + 1, 0, none⟩ = some (.int .i64 x.1) ∧ W.cell? ⟨g + 1 + 1, 0, none⟩ = some (.int .i64 x.2) ∧ W.cell? ⟨g + 1 + 1 + 1, 0, none⟩ = some (.bool true)) ∧ Below g w W)
  (OwnFrom.and (Own.from (fun s A B row hs hg hr => ⟨hs.1, cell_kept hs.2.1 hg hr, (frozen_kept hs.2.1 hg hr).trans hs.2.2.1, cell_kept hs.2.2.2.1 hg hr, (frozen_kept hs.2.2.2.1 hg hr).trans hs.2.2.2.2.1, cell_kept hs.2.2.2.2.2.1 hg hr, (frozen_kept hs.2.2.2.2.2.1 hg hr).trans hs.2.2.2.2.2.2⟩) _) (ownFrom_below (by have := HG.out; omega) (by have := HG.out; omega)))
  (fun c => OwnFrom.and (Own.from (fun s A B row hs hg hr => by obtain ⟨hc, x, e1, e2, e3, e4⟩ := hs; exact ⟨hc, x, e1, cell_kept e2 hg hr, cell_kept e3 hg hr, cell_kept e4 hg hr⟩) _) (ownFrom_below (by have := HG.out; omega) (by have := HG.out; omega)))
  ⟨⟨rfl, q1, r1, q2, r2, q3, r3⟩, HG.out ▸ hB0⟩
  (fun x => { tmps := #[.agg #[.slice s0 n0 c0, .slice s1 n1 c1, .slice s2 n2 c2, .slice s3 n3 c3, .int .i64 cross, .int .i64 a5, .slice (A 0) (ps 0).length (cp 0), .slice (A 1) (ps 1).length (cp 1), .slice (A 2) (ps 2).length (cp 2), .slice (A 3) (ps 3).length (cp 3)], .pointer (some ⟨g, 0, none⟩), .pointer (some ⟨g + 1, 0, none⟩), .pointer (some ⟨g + 1 + 1, 0, none⟩), .pointer (some ⟨g + 1 + 1 + 1, 0, none⟩), .int .i64 x.1, .int .i64 x.2, .agg #[.slice s0 n0 c0, .slice s1 n1 c1, .slice s2 n2 c2, .slice s3 n3 c3, .int .i64 cross, .int .i64 a5, .slice (A 0) (ps 0).length (cp 0), .slice (A 1) (ps 1).length (cp 1), .slice (A 2) (ps 2).length (cp 2), .slice (A 3) (ps 3).length (cp 3)], .func (.func 205) #[] #[.pointer (some ⟨g + 1 + 1 + 1 + 1, 0, none⟩)], .int .i64 x.1, .int .i64 x.2, undef, undef], defers := [] }) ?assign ?body ?done ?stop
 case assign =>
  intro l x W K hK
  gi_wp2
  exact hK
 case body =>
  rintro l pre x W ⟨⟨rfl, c1, z1, c2, z2, c3, z3⟩, hB⟩ _
  gi_wp2
  obtain ⟨d1, d2, d3⟩ := three_set W g (.int .i64 x.1) (.int .i64 x.2) (.bool true) c1 c2 c3
  exact ⟨(((KeepsOthers.setCell _ _ _).trans (KeepsOthers.setCell _ _ _)).trans (KeepsOthers.setCell _ _ _)).from _, ⟨rfl, x, rfl, d1, d2, d3⟩, ((hB.setCell (p := ⟨g + 1, 0, none⟩) (by simp) _).setCell (p := ⟨g + 1 + 1, 0, none⟩) (by simp; omega) _).setCell (p := ⟨g + 1 + 1 + 1, 0, none⟩) (by simp; omega) _⟩
 case done =>
  rintro D ys W hD rfl ⟨⟨hne, c1, z1, c2, z2, c3, z3⟩, hB⟩ hK
  gi_wp2
  obtain ⟨d1, d2, d3⟩ := three_set W g (.int .i64 0) (.int .i64 0) (.bool false) c1 c2 c3
  have hK' := (((KeepsOthers.setCell W ⟨g + 1, 0, none⟩ (.int .i64 0)).trans (KeepsOthers.setCell _ ⟨g + 1 + 1, 0, none⟩ (.int .i64 0))).trans (KeepsOthers.setCell _ ⟨g + 1 + 1 + 1, 0, none⟩ (.bool false))).same D _ hK rfl
  refine ⟨by simp, .inl ⟨_, _, rfl, run_takeDeferred hK', ?_⟩⟩
  have e1 := cell_kept d1 (grownBy_putObj' _ D (.deferred none)) (fun r e => by cases e; exact ⟨_, hK', rfl⟩)
  have e2 := cell_kept d2 (grownBy_putObj' _ D (.deferred none)) (fun r e => by cases e; exact ⟨_, hK', rfl⟩)
  have e3 := cell_kept d3 (grownBy_putObj' _ D (.deferred none)) (fun r e => by cases e; exact ⟨_, hK', rfl⟩)
  have hB3 : Below w.heap.size w (((W.setCell ⟨g + 1, 0, none⟩ (.int .i64 0)).setCell ⟨g + 1 + 1, 0, none⟩ (.int .i64 0)).setCell ⟨g + 1 + 1 + 1, 0, none⟩ (.bool false)) := by
   rw [← HG.out]
   exact ((hB.setCell (p := ⟨g + 1, 0, none⟩) (by simp) _).setCell (p := ⟨g + 1 + 1, 0, none⟩) (by simp; omega) _).setCell (p := ⟨g + 1 + 1 + 1, 0, none⟩) (by simp; omega) _
  refine ⟨.tuple #[.int .i64 0, .int .i64 0, .bool false], ?_, by rw [hne]; rfl, hB3.trans (belowK_b (w := w) (Nat.le_refl _) _ D _ _ (by have := HG.out; omega) hK' rfl rfl)⟩
  simp [results, Tryz.f106, go_sem, e1, e2, e3]
 case stop =>
  rintro D c pre W hD hpre ⟨⟨rfl, x, rfl, c1, c2, c3⟩, hB⟩ hK
  gi_wp2
  refine ⟨by simp, .inl ⟨_, _, rfl, run_takeDeferred hK, ?_⟩⟩
  have e1 := cell_kept c1 (grownBy_putObj' _ D (.deferred none)) (fun r e => by cases e; exact ⟨_, hK, rfl⟩)
  have e2 := cell_kept c2 (grownBy_putObj' _ D (.deferred none)) (fun r e => by cases e; exact ⟨_, hK, rfl⟩)
  have e3 := cell_kept c3 (grownBy_putObj' _ D (.deferred none)) (fun r e => by cases e; exact ⟨_, hK, rfl⟩)
  obtain ⟨zs, hzs⟩ := hpre
  have hB3 : Below w.heap.size w W := by rw [← HG.out]; exact hB
  refine ⟨.tuple #[.int .i64 x.1, .int .i64 x.2, .bool true], ?_, by rw [← hzs]; rfl, hB3.trans (belowK_b (w := w) (Nat.le_refl _) _ D _ _ (by have := HG.out; omega) hK rfl rfl)⟩
  simp [results, Tryz.f106, go_sem, e1, e2, e3]
end Go.Proofs.YtgalkkolbobmbaaGreat.V
