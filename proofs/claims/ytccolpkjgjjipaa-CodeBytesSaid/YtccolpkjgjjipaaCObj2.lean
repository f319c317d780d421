/- The Go function code.Object, where the magic is there. -/
import Derived.Test.YtccolpkjgjjipaaCObj
import Derived.Test.YtccolpkjgjjipaaCReg9
import Derived.Test.YtccolpkjgjjipaaCLen
namespace Go.Proofs.Ytccolpkjgjjipaa.K
open Go.RowKit Go.Proofs.YtccolpkjgjjipaaW.PrintWords Go.Proofs.YtccolpkjgjjipaaW.PrintLast Go.Proofs.YtccolpkjgjjipaaW.PrintMore Go.Proofs.Ytccolpkjgjjipaa.Inv
set_option linter.unusedVariables false
set_option linter.unusedSimpArgs false
theorem below_row {B g : Nat} {w W : World} (h : Below B w W) (hg : B ≤ g) (cs : Array Value) : Below B w (W.setRow g cs) :=
  ⟨h.os, h.tape, h.output, by simpa [World.setRow] using h.size, fun i hi => by
    rw [← h.block i hi]
    simp [World.setRow, Array.getElem?_modify, show ¬ g = i by omega]⟩
/-- What bytes tell. -/
def objF (l : List Int) : OR :=
  if magicB l = true then (if (decF (l.drop 4)).2 = true then noObj else if sameB (obBytes (decF (l.drop 4)).1) l = true then okObj (decF (l.drop 4)).1 else noObj) else noObj
def ObjPost (w : World) (t : OR) (e : Ending) (w' : World) : Prop :=
  ∃ v0 v1 v2 v3 v6 v7 v8 v9 : Value, e = .returned (.tuple #[.agg #[v0, v1, v2, v3, .int .i64 t.2.2.2.2.1, .int .i64 t.2.2.2.2.2.1, v6, v7, v8, v9], .bool t.2.2.2.2.2.2.2.2.2.2]) ∧
    Kd.R (Kd.int .i64) 3 w' w.heap.size (fun _ => True) v0 t.1 ∧ Kd.R (Kd.int .i64) 3 w' w.heap.size (fun _ => True) v1 t.2.1 ∧ Kd.R (Kd.int .i64) 2 w' w.heap.size (fun _ => True) v2 t.2.2.1 ∧ Kd.R (Kd.int .i64) 2 w' w.heap.size (fun _ => True) v3 t.2.2.2.1 ∧
    Kd.R k47 47 w' w.heap.size (fun _ => True) v6 t.2.2.2.2.2.2.1 ∧ Kd.R k47 47 w' w.heap.size (fun _ => True) v7 t.2.2.2.2.2.2.2.1 ∧ Kd.R k47 47 w' w.heap.size (fun _ => True) v8 t.2.2.2.2.2.2.2.2.1 ∧ Kd.R k47 47 w' w.heap.size (fun _ => True) v9 t.2.2.2.2.2.2.2.2.2.1 ∧ Below w.heap.size w w'
theorem noObj_post {w w' : World} {b : Bool} (hb : Below w.heap.size w w') (h : b = false) : ObjPost w noObj (.returned (.tuple #[.agg #[.slice none 0 0, .slice none 0 0, .slice none 0 0, .slice none 0 0, .int .i64 0, .int .i64 0, .slice none 0 0, .slice none 0 0, .slice none 0 0, .slice none 0 0], .bool b])) w' :=
  ⟨_, _, _, _, _, _, _, _, by rw [h]; rfl, Kd.R_nil _ _ _ _ _, Kd.R_nil _ _ _ _ _, Kd.R_nil _ _ _ _ _, Kd.R_nil _ _ _ _ _, Kd.R_nil _ _ _ _ _, Kd.R_nil _ _ _ _ _, Kd.R_nil _ _ _ _ _, Kd.R_nil _ _ _ _ _, hb⟩
abbrev ten (W : World) (g : Nat) (x0 x1 x2 x3 x4 x5 x6 x7 x8 x9 : Value) : World := (((((((((W.setCell ⟨g, 0, none⟩ x0).setCell ⟨g, 1, none⟩ x1).setCell ⟨g, 2, none⟩ x2).setCell ⟨g, 3, none⟩ x3).setCell ⟨g, 4, none⟩ x4).setCell ⟨g, 5, none⟩ x5).setCell ⟨g, 6, none⟩ x6).setCell ⟨g, 7, none⟩ x7).setCell ⟨g, 8, none⟩ x8).setCell ⟨g, 9, none⟩ x9
theorem ten_heap {W : World} {g : Nat} {x0 x1 x2 x3 x4 x5 x6 x7 x8 x9 : Value} (h : W.heap[g]? = some (.cells zero28 28 (0, 0))) : (ten W g x0 x1 x2 x3 x4 x5 x6 x7 x8 x9).heap[g]? = some (.cells #[x0, x1, x2, x3, x4, x5, x6, x7, x8, x9] 28 (0, 0)) :=
  Eq.trans (set_heap (i := 9) x9 (set_heap (i := 8) x8 (set_heap (i := 7) x7 (set_heap (i := 6) x6 (set_heap (i := 5) x5 (set_heap (i := 4) x4 (set_heap (i := 3) x3 (set_heap (i := 2) x2 (set_heap (i := 1) x1 (set_heap (i := 0) x0 h)))))))))) (by kernel_rfl)
theorem ten_below {w W : World} {g : Nat} {x0 x1 x2 x3 x4 x5 x6 x7 x8 x9 : Value} (h : Below g w W) : Below g w (ten W g x0 x1 x2 x3 x4 x5 x6 x7 x8 x9) :=
  (((((((((h.setCell (p := ⟨g, 0, none⟩) (Nat.le_refl _) _).setCell (p := ⟨g, 1, none⟩) (Nat.le_refl _) _).setCell (p := ⟨g, 2, none⟩) (Nat.le_refl _) _).setCell (p := ⟨g, 3, none⟩) (Nat.le_refl _) _).setCell (p := ⟨g, 4, none⟩) (Nat.le_refl _) _).setCell (p := ⟨g, 5, none⟩) (Nat.le_refl _) _).setCell (p := ⟨g, 6, none⟩) (Nat.le_refl _) _).setCell (p := ⟨g, 7, none⟩) (Nat.le_refl _) _).setCell (p := ⟨g, 8, none⟩) (Nat.le_refl _) _).setCell (p := ⟨g, 9, none⟩) (Nat.le_refl _) _
theorem ten_kept {W : World} {g : Nat} {x0 x1 x2 x3 x4 x5 x6 x7 x8 x9 : Value} : Kept W (ten W g x0 x1 x2 x3 x4 x5 x6 x7 x8 x9) (fun k => k = g) :=
  (((((((((((Kept.refl W (fun k => k = g)).setCell (p := ⟨g, 0, none⟩) (.inl rfl) _).setCell (p := ⟨g, 1, none⟩) (.inl rfl) _).setCell (p := ⟨g, 2, none⟩) (.inl rfl) _).setCell (p := ⟨g, 3, none⟩) (.inl rfl) _).setCell (p := ⟨g, 4, none⟩) (.inl rfl) _).setCell (p := ⟨g, 5, none⟩) (.inl rfl) _).setCell (p := ⟨g, 6, none⟩) (.inl rfl) _).setCell (p := ⟨g, 7, none⟩) (.inl rfl) _).setCell (p := ⟨g, 8, none⟩) (.inl rfl) _).setCell (p := ⟨g, 9, none⟩) (.inl rfl) _)
theorem ten_R {α : Type} {d : Kd α} {e base lo hi : Nat} {v : Value} {xs : List α} {W Wb : World} {g : Nat} {x0 x1 x2 x3 x4 x5 x6 x7 x8 x9 : Value} (hE : d.E = []) (ht : e ≠ 28) (L : Lst d e W base lo hi v xs) (hb : Below W.heap.size W Wb) (h : Wb.heap[g]? = some (.cells zero28 28 (0, 0))) : Kd.R d e (ten Wb g x0 x1 x2 x3 x4 x5 x6 x7 x8 x9) base (fun _ => True) v xs :=
  Kd.R_mono ((L.below hb).keep hE h ht ten_kept) (fun _ _ => trivial)
theorem pieces_index0 (g8 : Nat) (w : World) : (Instr.index 58 (.agg #[.pointer (some ⟨g8, 6, none⟩), .pointer (some ⟨g8, 7, none⟩), .pointer (some ⟨g8, 8, none⟩), .pointer (some ⟨g8, 9, none⟩)]) (.int .i64 0)).run Try.prog w = .ok (.pointer (some ⟨g8, 6, none⟩)) w := by kernel_rfl
theorem pieces_index1 (g8 : Nat) (w : World) : (Instr.index 58 (.agg #[.pointer (some ⟨g8, 6, none⟩), .pointer (some ⟨g8, 7, none⟩), .pointer (some ⟨g8, 8, none⟩), .pointer (some ⟨g8, 9, none⟩)]) (.int .i64 1)).run Try.prog w = .ok (.pointer (some ⟨g8, 7, none⟩)) w := by kernel_rfl
theorem pieces_index2 (g8 : Nat) (w : World) : (Instr.index 58 (.agg #[.pointer (some ⟨g8, 6, none⟩), .pointer (some ⟨g8, 7, none⟩), .pointer (some ⟨g8, 8, none⟩), .pointer (some ⟨g8, 9, none⟩)]) (.int .i64 2)).run Try.prog w = .ok (.pointer (some ⟨g8, 8, none⟩)) w := by kernel_rfl
theorem pieces_index3 (g8 : Nat) (w : World) : (Instr.index 58 (.agg #[.pointer (some ⟨g8, 6, none⟩), .pointer (some ⟨g8, 7, none⟩), .pointer (some ⟨g8, 8, none⟩), .pointer (some ⟨g8, 9, none⟩)]) (.int .i64 3)).run Try.prog w = .ok (.pointer (some ⟨g8, 9, none⟩)) w := by kernel_rfl
set_option maxHeartbeats 8000000 in
set_option maxRecDepth 100000 in
theorem object_yes (A0 : Option Addr) (c0 : Nat) (l0 : List Int) (w : World) (hr0 : Kd.C (Kd.int .u8) w A0 l0.length l0) (hc0 : l0.length ≤ c0) (hm : magicB l0 = true) (hlen : l0.length ≤ 1000000) :
    Calls Try.prog 10 #[.slice A0 l0.length c0] w (ObjPost w (objF l0)) := by
  obtain ⟨x0, b0, q0, e0⟩ : ∃ x b q, readF oneF (l0.drop 4) false = (x, b, q) := ⟨_, _, _, rfl⟩
  obtain ⟨x1, b1, q1, e1⟩ : ∃ x b q, readF oneF b0 q0 = (x, b, q) := ⟨_, _, _, rfl⟩
  obtain ⟨x2, b2, q2, e2⟩ : ∃ x b q, readF oneF b1 q1 = (x, b, q) := ⟨_, _, _, rfl⟩
  obtain ⟨x3, b3, q3, e3⟩ : ∃ x b q, readF oneF b2 q2 = (x, b, q) := ⟨_, _, _, rfl⟩
  obtain ⟨x4, b4, q4, e4⟩ : ∃ x b q, oneF b3 q3 = (x, b, q) := ⟨_, _, _, rfl⟩
  obtain ⟨x5, b5, q5, e5⟩ : ∃ x b q, oneF b4 q4 = (x, b, q) := ⟨_, _, _, rfl⟩
  obtain ⟨x6, b6, q6, e6⟩ : ∃ x b q, readF insF b5 q5 = (x, b, q) := ⟨_, _, _, rfl⟩
  obtain ⟨x7, b7, q7, e7⟩ : ∃ x b q, readF insF b6 q6 = (x, b, q) := ⟨_, _, _, rfl⟩
  obtain ⟨x8, b8, q8, e8⟩ : ∃ x b q, readF insF b7 q7 = (x, b, q) := ⟨_, _, _, rfl⟩
  obtain ⟨x9, b9, q9, e9⟩ : ∃ x b q, readF insF b8 q8 = (x, b, q) := ⟨_, _, _, rfl⟩
  have hd : (l0.drop 4).length ≤ 1000000000 := by rw [List.length_drop]; omega
  have m0 := readF_le one_le e0
  have m1 := readF_le one_le e1
  have m2 := readF_le one_le e2
  have m3 := readF_le one_le e3
  have m4 : b4.length ≤ b3.length := by have := one_le b3 q3; rw [e4] at this; exact this
  have m5 : b5.length ≤ b4.length := by have := one_le b4 q4; rw [e5] at this; exact this
  have m6 := readF_le ins_le e6
  have m7 := readF_le ins_le e7
  have m8 := readF_le ins_le e8
  have H0 := Aside0.mk e0
  have H1 := Aside0.mk e1
  have H2 := Aside0.mk e2
  have H3 := Aside0.mk e3
  have H4 := Aside0.mk e4
  have H5 := Aside0.mk e5
  have H6 := Aside0.mk e6
  have H7 := Aside0.mk e7
  have H8 := Aside0.mk e8
  have H9 := Aside0.mk e9
  have hdec : decF (l0.drop 4) = ((x0, x1, x2, x3, x4, x5, pX b5 q5 0, pX b5 q5 1, pX b5 q5 2, pX b5 q5 3), (pS b5 q5 4).2) := by
    simp only [decF, e0, e1, e2, e3, e4, e5]
    rfl
  have hobj : objF l0 = if (pS b5 q5 4).2 = true then noObj else if sameB (bytesB x0 x1 x2 x3 x4 x5 (pX b5 q5 0) (pX b5 q5 1) (pX b5 q5 2) (pX b5 q5 3)) l0 = true then (x0, x1, x2, x3, x4, x5, pX b5 q5 0, pX b5 q5 1, pX b5 q5 2, pX b5 q5 3, true) else noObj := by
    unfold objF
    rw [if_pos hm, hdec]
    rfl
  rw [hobj]
  obtain ⟨T, hT⟩ : ∃ T, (if (pS b5 q5 4).2 = true then noObj else if sameB (bytesB x0 x1 x2 x3 x4 x5 (pX b5 q5 0) (pX b5 q5 1) (pX b5 q5 2) (pX b5 q5 3)) l0 = true then (x0, x1, x2, x3, x4, x5, pX b5 q5 0, pX b5 q5 1, pX b5 q5 2, pX b5 q5 3, true) else noObj) = T := ⟨_, rfl⟩
  rw [hT]
  have HT := Aside0.mk hT
  clear hdec hobj hT
  clear e0 e1 e2 e3 e4 e5 e6 e7 e8 e9
  have kc := Joins.run_convert_bytes_const_at (P := Try.prog) (w.alloc (Obj.cells #[.slice none 0 0, .slice none 0 0, .slice none 0 0, .slice none 0 0, .int .i64 0, .int .i64 0, .slice none 0 0, .slice none 0 0, .slice none 0 0, .slice none 0 0] 28)) 22 5 #[.int .u8 65, .int .u8 83, .int .u8 84, .int .u8 49] 4 4 (w.heap.size + 1) (by simp) Try.underlying22 Try.underlying5
  have HR := Aside0.mk hr0
  have HM := Aside0.mk hm
  have h4 : 4 ≤ l0.length := by
    simp only [magicB, Bool.and_eq_true, decide_eq_true_eq] at hm
    exact hm.1
  clear hr0 hm
  go_enter Try.func10, Try.ntmps10
  go_upto_region 5 with (go_at_call 28; refine (cutPrefix_yes A0 c0 (w.heap.size + 1) (4, 5) l0 _ (Kd.C_alloc (Kd.C_alloc HR.out _) _) hc0 (by have := blk_new (w.alloc (Obj.cells #[.slice none 0 0, .slice none 0 0, .slice none 0 0, .slice none 0 0, .int .i64 0, .int .i64 0, .slice none 0 0, .slice none 0 0, .slice none 0 0, .slice none 0 0] 28)) (Obj.cells #[.int .u8 65, .int .u8 83, .int .u8 84, .int .u8 49] 5 (4, 5)); simpa using this) HM.out).mono ?_; rintro e w2 ⟨rfl, rfl⟩)
  go_cut [7] (fun v7 wc => ∃ g7 : Nat, v7 = .pointer (some ⟨g7, 0, none⟩) ∧ Aside0 (Env w wc wc w.heap.size (w.heap.size + 1 + 1) (w.heap.size + 1 + 1 + 1) g7 (l0.drop 4) false))
  case first =>
    go_wp2_with fail
    go_meet
    case rel => exact ⟨_, rfl, ⟨env_start HR.out hc0 h4⟩⟩
  case rest =>
    obtain ⟨g7, rfl, HE⟩ := hcut
    clear HM kc
    obtain ⟨wB, hwB⟩ : ∃ wB : World, wB = wc := ⟨_, rfl⟩
    have E0 := (HE.out).below (below_drew1 (Below.refl _ wc))
    rw [show Env w wc = Env w wB by rw [hwB]] at E0
    have hs0 : wB.heap.size = wc.drew.heap.size := by rw [hwB]; rfl
    have HS0 := Aside0.mk hs0
    have EW := HE.out
    rw [show Env w wc = Env w wB by rw [hwB]] at EW
    have cw6 := EW.c6
    have cw7 := EW.c7
    have yw6 := World.new_ne _ _ cw6
    have yw7 := World.new_ne _ _ cw7
    have c6 := E0.c6
    have c7 := E0.c7
    have y6 := World.new_ne _ _ c6
    have y7 := World.new_ne _ _ c7
    clear HE hwB hs0
    go_upto_region 6 with (fail)
    go_cut [8] (fun v8 wd => ∃ (g8 : Nat) (C : V4), v8 = .pointer (some ⟨g8, 0, none⟩) ∧ Aside0 (C.x0 = x0 ∧ C.x1 = x1 ∧ C.x2 = x2 ∧ C.x3 = x3) ∧ Aside0 (Got4 w wB wd (⟨w.heap.size, w.heap.size + 1 + 1, w.heap.size + 1 + 1 + 1, g7⟩ : Blk) g8 b3 q3 C 0 0))
    case first =>
      have hd4 : (l0.drop 4).length ≤ 1000000000 := hd
      refine wp_region_inv (by kernel_rfl) (by kernel_rfl) (fun vs => { tmps := List.toArray ((Value.slice A0 l0.length c0) :: undef :: (Value.pointer (some ⟨w.heap.size, 0, none⟩)) :: (Value.bool false) :: (Value.slice (cutA A0 c0) (l0.length - 4) (c0 - 4)) :: (Value.bool true) :: (Value.pointer (some ⟨w.heap.size + 1 + 1 + 1, 0, none⟩)) :: (Value.pointer (some ⟨g7, 0, none⟩)) :: (vs 15) :: undef :: undef :: u11 :: u12 :: u13 :: u14 :: u15 :: u16 :: u17 :: u18 :: u19 :: u20 :: u21 :: u22 :: u23 :: u24 :: (vs 0) :: (vs 1) :: (vs 2) :: (vs 3) :: (vs 4) :: (vs 5) :: (vs 6) :: (vs 7) :: (vs 8) :: (vs 9) :: (vs 10) :: (vs 11) :: (vs 12) :: (vs 13) :: (vs 14) :: u40 :: u41 :: u42 :: u43 :: u44 :: u45 :: undef :: undef :: u48 :: u49 :: u50 :: u51 :: u52 :: u53 :: u54 :: u55 :: u56 :: u57 :: u58 :: u59 :: u60 :: u61 :: u62 :: u63 :: u64 :: u65 :: u66 :: u67 :: u68 :: []), defers := [] }) (fun l vs W => I6 w wB (⟨w.heap.size, w.heap.size + 1 + 1, w.heap.size + 1 + 1 + 1, g7⟩ : Blk) (⟨l0.drop 4, false, x0, b0, q0, x1, b1, q1, x2, b2, q2, x3, b3, q3⟩ : D6) l vs W) ?step ?fin (fun i => match i with | 0 => u25 | 1 => u26 | 2 => u27 | 3 => u28 | 4 => u29 | 5 => u30 | 6 => u31 | 7 => u32 | 8 => u33 | 9 => u34 | 10 => u35 | 11 => u36 | 12 => u37 | 13 => u38 | 14 => u39 | _ => undef) rfl ?start
      case start => exact ⟨E0, nofun, nofun, nofun, nofun, nofun, nofun, nofun, nofun, nofun, nofun, nofun, nofun⟩
      case step =>
        clear E0 EW cw6 cw7 yw6 yw7 c6 c7 y6 y7 HS0
        intro i o ho l vs W h hl hd hcl
        have hi : i < 17 := (Array.getElem?_eq_some_iff.1 ho).1
        rcases (by omega : i = 0 ∨ i = 1 ∨ i = 2 ∨ i = 3 ∨ i = 4 ∨ i = 5 ∨ i = 6 ∨ i = 7 ∨ i = 8 ∨ i = 9 ∨ i = 10 ∨ i = 11 ∨ i = 12 ∨ i = 13 ∨ i = 14 ∨ i = 15 ∨ i = 16) with rfl | rfl | rfl | rfl | rfl | rfl | rfl | rfl | rfl | rfl | rfl | rfl | rfl | rfl | rfl | rfl | rfl
        · obtain ⟨bs, bad, E⟩ := h.p.env
          refine wpOp_step ho (fun K hK => ?_)
          obtain rfl := (Option.some.inj ho).symm
          have HK := Aside0.mk hK
          clear hK ho
          rw [if_pos (by rfl)]
          have c6 := E.c6
          go_simp
          refine HK.out _ _ ⟨_, by first | rfl | simp [upd, *], h.still 0 _ (by decide) ⟨fun _ => rfl, fun e => absurd e (by decide), fun e => absurd e (by decide), fun e => absurd e (by decide), fun e => absurd e (by decide), fun e => absurd e (by decide), fun e => absurd e (by decide), fun e => absurd e (by decide), fun e => absurd e (by decide), fun e => absurd e (by decide), fun e => absurd e (by decide)⟩⟩
        · obtain ⟨bs, bad, E⟩ := h.p.env
          refine wpOp_step ho (fun K hK => ?_)
          obtain rfl := (Option.some.inj ho).symm
          have HK := Aside0.mk hK
          clear hK ho
          rw [if_pos (by rfl)]
          have c7 := E.c7
          go_simp
          refine HK.out _ _ ⟨_, by first | rfl | simp [upd, *], h.still 1 _ (by decide) ⟨fun e => absurd e (by decide), fun _ => rfl, fun e => absurd e (by decide), fun e => absurd e (by decide), fun e => absurd e (by decide), fun e => absurd e (by decide), fun e => absurd e (by decide), fun e => absurd e (by decide), fun e => absurd e (by decide), fun e => absurd e (by decide), fun e => absurd e (by decide)⟩⟩
        · have d0 := hd 0 (by kernel_rfl)
          have d1 := hd 1 (by kernel_rfl)
          obtain ⟨bs, bad, E⟩ := h.p.env
          refine wpOp_step ho (fun K hK => ?_)
          obtain rfl := (Option.some.inj ho).symm
          have HK := Aside0.mk hK
          clear hK ho
          rw [if_pos (by rfl)]
          have v0 := h.a0 d0
          have v1 := h.a1 d1
          have f5 : l 5 = false := by cases e : l 5 with | false => rfl | true => exact absurd (hcl 5 e 2 (by kernel_rfl)) (by rw [hl]; decide)
          have f9 : l 9 = false := by cases e : l 9 with | false => rfl | true => exact absurd (hcl 9 e 5 (by kernel_rfl)) (by rw [f5]; decide)
          have f13 : l 13 = false := by cases e : l 13 with | false => rfl | true => exact absurd (hcl 13 e 9 (by kernel_rfl)) (by rw [f9]; decide)
          have f14 : l 14 = false := by cases e : l 14 with | false => rfl | true => exact absurd (hcl 14 e 2 (by kernel_rfl)) (by rw [hl]; decide)
          have f16 : l 16 = false := by cases e : l 16 with | false => rfl | true => exact absurd (hcl 16 e 14 (by kernel_rfl)) (by rw [f14]; decide)
          have E0 := h.p.c2 hl f5 f9 f13
          go_wp2_with (go_at_call 31; refine (rd_int H0.out E0 (by first | exact hd4 | (have := hd4; omega))).mono ?_; rintro e wa ⟨va, rfl, L, En', hk⟩)
          refine HK.out _ _ ⟨va, by first | rfl | simp [upd, *], h.call 2 va (by decide) (Pg.p2 f5 f9 f13 En' hk L) hk f14 f16⟩
        · obtain ⟨bs, bad, E⟩ := h.p.env
          refine wpOp_step ho (fun K hK => ?_)
          obtain rfl := (Option.some.inj ho).symm
          have HK := Aside0.mk hK
          clear hK ho
          rw [if_pos (by rfl)]
          have c6 := E.c6
          go_simp
          refine HK.out _ _ ⟨_, by first | rfl | simp [upd, *], h.still 3 _ (by decide) ⟨fun e => absurd e (by decide), fun e => absurd e (by decide), fun _ => rfl, fun e => absurd e (by decide), fun e => absurd e (by decide), fun e => absurd e (by decide), fun e => absurd e (by decide), fun e => absurd e (by decide), fun e => absurd e (by decide), fun e => absurd e (by decide), fun e => absurd e (by decide)⟩⟩
        · obtain ⟨bs, bad, E⟩ := h.p.env
          refine wpOp_step ho (fun K hK => ?_)
          obtain rfl := (Option.some.inj ho).symm
          have HK := Aside0.mk hK
          clear hK ho
          rw [if_pos (by rfl)]
          have c7 := E.c7
          go_simp
          refine HK.out _ _ ⟨_, by first | rfl | simp [upd, *], h.still 4 _ (by decide) ⟨fun e => absurd e (by decide), fun e => absurd e (by decide), fun e => absurd e (by decide), fun _ => rfl, fun e => absurd e (by decide), fun e => absurd e (by decide), fun e => absurd e (by decide), fun e => absurd e (by decide), fun e => absurd e (by decide), fun e => absurd e (by decide), fun e => absurd e (by decide)⟩⟩
        · have d3 := hd 3 (by kernel_rfl)
          have d4 := hd 4 (by kernel_rfl)
          have d2 := hd 2 (by kernel_rfl)
          obtain ⟨bs, bad, E⟩ := h.p.env
          refine wpOp_step ho (fun K hK => ?_)
          obtain rfl := (Option.some.inj ho).symm
          have HK := Aside0.mk hK
          clear hK ho
          rw [if_pos (by rfl)]
          have v3 := h.a3 d3
          have v4 := h.a4 d4
          have f9 : l 9 = false := by cases e : l 9 with | false => rfl | true => exact absurd (hcl 9 e 5 (by kernel_rfl)) (by rw [hl]; decide)
          have f13 : l 13 = false := by cases e : l 13 with | false => rfl | true => exact absurd (hcl 13 e 9 (by kernel_rfl)) (by rw [f9]; decide)
          have f14 : l 14 = false := by cases e : l 14 with | false => rfl | true => exact absurd (hcl 14 e 5 (by kernel_rfl)) (by rw [hl]; decide)
          have f16 : l 16 = false := by cases e : l 16 with | false => rfl | true => exact absurd (hcl 16 e 14 (by kernel_rfl)) (by rw [f14]; decide)
          obtain ⟨E0, _⟩ := h.p.c5 d2 hl f9 f13
          go_wp2_with (go_at_call 31; refine (rd_int H1.out E0 (by first | exact hd4 | (have := hd4; omega))).mono ?_; rintro e wa ⟨va, rfl, L, En', hk⟩)
          refine HK.out _ _ ⟨va, by first | rfl | simp [upd, *], h.call 5 va (by decide) (Pg.p5 h.p d2 hl f9 f13 En' hk L) hk f14 f16⟩
        · obtain ⟨bs, bad, E⟩ := h.p.env
          refine wpOp_step ho (fun K hK => ?_)
          obtain rfl := (Option.some.inj ho).symm
          have HK := Aside0.mk hK
          clear hK ho
          rw [if_pos (by rfl)]
          have c6 := E.c6
          go_simp
          refine HK.out _ _ ⟨_, by first | rfl | simp [upd, *], h.still 6 _ (by decide) ⟨fun e => absurd e (by decide), fun e => absurd e (by decide), fun e => absurd e (by decide), fun e => absurd e (by decide), fun _ => rfl, fun e => absurd e (by decide), fun e => absurd e (by decide), fun e => absurd e (by decide), fun e => absurd e (by decide), fun e => absurd e (by decide), fun e => absurd e (by decide)⟩⟩
        · obtain ⟨bs, bad, E⟩ := h.p.env
          refine wpOp_step ho (fun K hK => ?_)
          obtain rfl := (Option.some.inj ho).symm
          have HK := Aside0.mk hK
          clear hK ho
          rw [if_pos (by rfl)]
          have c6 := E.c6
          go_simp
          refine HK.out _ _ ⟨_, by first | rfl | simp [upd, *], h.still 7 _ (by decide) ⟨fun e => absurd e (by decide), fun e => absurd e (by decide), fun e => absurd e (by decide), fun e => absurd e (by decide), fun e => absurd e (by decide), fun _ => rfl, fun e => absurd e (by decide), fun e => absurd e (by decide), fun e => absurd e (by decide), fun e => absurd e (by decide), fun e => absurd e (by decide)⟩⟩
        · have d7 := hd 7 (by kernel_rfl)
          obtain ⟨bs, bad, E⟩ := h.p.env
          refine wpOp_step ho (fun K hK => ?_)
          obtain rfl := (Option.some.inj ho).symm
          have HK := Aside0.mk hK
          clear hK ho
          rw [if_pos (by rfl)]
          have v7 := h.a7 d7
          go_simp
          refine HK.out _ _ ⟨_, by first | rfl | simp [upd, *], h.still 8 _ (by decide) ⟨fun e => absurd e (by decide), fun e => absurd e (by decide), fun e => absurd e (by decide), fun e => absurd e (by decide), fun e => absurd e (by decide), fun e => absurd e (by decide), fun _ => rfl, fun e => absurd e (by decide), fun e => absurd e (by decide), fun e => absurd e (by decide), fun e => absurd e (by decide)⟩⟩
        · have d6 := hd 6 (by kernel_rfl)
          have d8 := hd 8 (by kernel_rfl)
          have d5 := hd 5 (by kernel_rfl)
          obtain ⟨bs, bad, E⟩ := h.p.env
          refine wpOp_step ho (fun K hK => ?_)
          obtain rfl := (Option.some.inj ho).symm
          have HK := Aside0.mk hK
          clear hK ho
          rw [if_pos (by rfl)]
          have v6 := h.a6 d6
          have v8 := h.a8 d8
          have f13 : l 13 = false := by cases e : l 13 with | false => rfl | true => exact absurd (hcl 13 e 9 (by kernel_rfl)) (by rw [hl]; decide)
          have f14 : l 14 = false := by cases e : l 14 with | false => rfl | true => exact absurd (hcl 14 e 9 (by kernel_rfl)) (by rw [hl]; decide)
          have f16 : l 16 = false := by cases e : l 16 with | false => rfl | true => exact absurd (hcl 16 e 14 (by kernel_rfl)) (by rw [f14]; decide)
          obtain ⟨E0, _⟩ := h.p.c9 d5 hl f13
          go_wp2_with (go_at_call 32; refine (rd_int64 H2.out E0 (by first | exact hd4 | (have := hd4; omega))).mono ?_; rintro e wa ⟨va, rfl, L, En', hk⟩)
          refine HK.out _ _ ⟨va, by first | rfl | simp [upd, *], h.call 9 va (by decide) (Pg.p9 h.p d5 hl f13 En' hk L) hk f14 f16⟩
        · obtain ⟨bs, bad, E⟩ := h.p.env
          refine wpOp_step ho (fun K hK => ?_)
          obtain rfl := (Option.some.inj ho).symm
          have HK := Aside0.mk hK
          clear hK ho
          rw [if_pos (by rfl)]
          have c6 := E.c6
          go_simp
          refine HK.out _ _ ⟨_, by first | rfl | simp [upd, *], h.still 10 _ (by decide) ⟨fun e => absurd e (by decide), fun e => absurd e (by decide), fun e => absurd e (by decide), fun e => absurd e (by decide), fun e => absurd e (by decide), fun e => absurd e (by decide), fun e => absurd e (by decide), fun _ => rfl, fun e => absurd e (by decide), fun e => absurd e (by decide), fun e => absurd e (by decide)⟩⟩
        · obtain ⟨bs, bad, E⟩ := h.p.env
          refine wpOp_step ho (fun K hK => ?_)
          obtain rfl := (Option.some.inj ho).symm
          have HK := Aside0.mk hK
          clear hK ho
          rw [if_pos (by rfl)]
          have c6 := E.c6
          go_simp
          refine HK.out _ _ ⟨_, by first | rfl | simp [upd, *], h.still 11 _ (by decide) ⟨fun e => absurd e (by decide), fun e => absurd e (by decide), fun e => absurd e (by decide), fun e => absurd e (by decide), fun e => absurd e (by decide), fun e => absurd e (by decide), fun e => absurd e (by decide), fun e => absurd e (by decide), fun _ => rfl, fun e => absurd e (by decide), fun e => absurd e (by decide)⟩⟩
        · have d11 := hd 11 (by kernel_rfl)
          obtain ⟨bs, bad, E⟩ := h.p.env
          refine wpOp_step ho (fun K hK => ?_)
          obtain rfl := (Option.some.inj ho).symm
          have HK := Aside0.mk hK
          clear hK ho
          rw [if_pos (by rfl)]
          have v11 := h.a11 d11
          go_simp
          refine HK.out _ _ ⟨_, by first | rfl | simp [upd, *], h.still 12 _ (by decide) ⟨fun e => absurd e (by decide), fun e => absurd e (by decide), fun e => absurd e (by decide), fun e => absurd e (by decide), fun e => absurd e (by decide), fun e => absurd e (by decide), fun e => absurd e (by decide), fun e => absurd e (by decide), fun e => absurd e (by decide), fun _ => rfl, fun e => absurd e (by decide)⟩⟩
        · have d10 := hd 10 (by kernel_rfl)
          have d12 := hd 12 (by kernel_rfl)
          have d9 := hd 9 (by kernel_rfl)
          obtain ⟨bs, bad, E⟩ := h.p.env
          refine wpOp_step ho (fun K hK => ?_)
          obtain rfl := (Option.some.inj ho).symm
          have HK := Aside0.mk hK
          clear hK ho
          rw [if_pos (by rfl)]
          have v10 := h.a10 d10
          have v12 := h.a12 d12
          have f14 : l 14 = false := by cases e : l 14 with | false => rfl | true => exact absurd (hcl 14 e 13 (by kernel_rfl)) (by rw [hl]; decide)
          have f16 : l 16 = false := by cases e : l 16 with | false => rfl | true => exact absurd (hcl 16 e 14 (by kernel_rfl)) (by rw [f14]; decide)
          obtain ⟨E0, _⟩ := h.p.c13 d9 hl
          go_wp2_with (go_at_call 32; refine (rd_int64 H3.out E0 (by first | exact hd4 | (have := hd4; omega))).mono ?_; rintro e wa ⟨va, rfl, L, En', hk⟩)
          refine HK.out _ _ ⟨va, by first | rfl | simp [upd, *], h.call 13 va (by decide) (Pg.p13 h.p d9 hl En' hk L) hk f14 f16⟩
        · have d2 := hd 2 (by kernel_rfl)
          have d5 := hd 5 (by kernel_rfl)
          have d9 := hd 9 (by kernel_rfl)
          have d13 := hd 13 (by kernel_rfl)
          obtain ⟨bs, bad, E⟩ := h.p.env
          refine wpOp_step ho (fun K hK => ?_)
          obtain rfl := (Option.some.inj ho).symm
          have HK := Aside0.mk hK
          clear hK ho
          rw [if_pos (by rfl)]
          obtain ⟨_, n0, n1, n2, n3, n4, _, _, _, _, _, L0, L1, L2, L3⟩ := h.p.fin d13
          obtain ⟨AA0, cc0, ev0⟩ := Kd.R_slice L0
          obtain ⟨AA1, cc1, ev1⟩ := Kd.R_slice L1
          obtain ⟨AA2, cc2, ev2⟩ := Kd.R_slice L2
          obtain ⟨AA3, cc3, ev3⟩ := Kd.R_slice L3
          go_simp
          refine HK.out _ _ ⟨.agg #[.slice AA0 x0.length cc0, .slice AA1 x1.length cc1, .slice AA2 x2.length cc2, .slice AA3 x3.length cc3, .int .i64 0, .int .i64 0, .slice none 0 0, .slice none 0 0, .slice none 0 0, .slice none 0 0], by first | rfl | simp [upd, *], h.still 14 _ (by decide) ⟨fun e => absurd e (by decide), fun e => absurd e (by decide), fun e => absurd e (by decide), fun e => absurd e (by decide), fun e => absurd e (by decide), fun e => absurd e (by decide), fun e => absurd e (by decide), fun e => absurd e (by decide), fun e => absurd e (by decide), fun e => absurd e (by decide), fun _ => by rw [ev0, ev1, ev2, ev3]⟩⟩
        · obtain ⟨bs, bad, E⟩ := h.p.env
          refine wpOp_step ho (fun K hK => ?_)
          obtain rfl := (Option.some.inj ho).symm
          have HK := Aside0.mk hK
          clear hK ho
          rw [if_pos (by rfl)]
          have f16 : l 16 = false := by cases e : l 16 with | false => rfl | true => exact absurd (hcl 16 e 15 (by kernel_rfl)) (by rw [hl]; decide)
          go_simp
          refine HK.out _ _ ⟨_, by first | rfl | simp [upd, *], h.alloc f16⟩
        · have d15 := hd 15 (by kernel_rfl)
          have d14 := hd 14 (by kernel_rfl)
          have d13 := hd 13 (by kernel_rfl)
          obtain ⟨bs, bad, E⟩ := h.p.env
          refine wpOp_step ho (fun K hK => ?_)
          obtain rfl := (Option.some.inj ho).symm
          have HK := Aside0.mk hK
          clear hK ho
          rw [if_pos (by rfl)]
          obtain ⟨_, n0, n1, n2, n3, n4, _, _, _, _, _, L0, L1, L2, L3⟩ := h.p.fin d13
          obtain ⟨AA0, cc0, ev0⟩ := Kd.R_slice L0
          obtain ⟨AA1, cc1, ev1⟩ := Kd.R_slice L1
          obtain ⟨AA2, cc2, ev2⟩ := Kd.R_slice L2
          obtain ⟨AA3, cc3, ev3⟩ := Kd.R_slice L3
          have v14 := h.a14 d14
          obtain ⟨g8, v15, lB, lw, ne2, f8⟩ := h.a15 d15
          rw [hl] at f8
          refine wp_store_row 28 _ _ rfl g8 _ v15 v14 28 zero28 f8 (by kernel_rfl) rfl (by rw [ev0, ev1, ev2, ev3]; kernel_rfl) ?_
          refine HK.out _ _ ⟨undef, by first | rfl | simp [upd, *], h.store d15 hl (fun g8' e => by rw [v15] at e; injection e with e; injection e with e; injection e with e; subst e; exact ⟨⟨Nat.le_of_eq (size_setRow _ _ _).symm, fun k hk hne => setRow_other _ _ _ _ hne⟩, below_row E.b lw _, setRow_heap _ _ _ _ _ _ f8⟩)⟩
      case fin =>
        clear E0 EW cw6 cw7 yw6 yw7 c6 c7 y6 y7 HS0
        intro l vs W hall h
        obtain ⟨g8, v15, lB, lw, ne2, f8⟩ := h.a15 (hall 15 (by decide))
        rw [hall 16 (by decide)] at f8
        obtain ⟨En', n0, n1, n2, n3, n4, k0, k1, k2, k3, k4, L0, L1, L2, L3⟩ := h.p.fin (hall 13 (by decide))
        have HF := Aside0.mk (show Got4 w wB W (⟨w.heap.size, w.heap.size + 1 + 1, w.heap.size + 1 + 1 + 1, g7⟩ : Blk) g8 b3 q3 ⟨vs 2, vs 5, vs 9, vs 13, x0, x1, x2, x3⟩ 0 0 from ⟨En', f8, lB, lw, ne2, n0, n1, n2, n3, n4, k0, k1, k2, k3, k4, L0, L1, L2, L3⟩)
        rw [v15]
        clear hall h v15 lB lw ne2 f8 En' k0 k1 k2 k3 k4 L0 L1 L2 L3
        go_step
        go_step
        go_meet
        case rel => exact ⟨g8, _, rfl, ⟨rfl, rfl, rfl, rfl⟩, HF⟩
    case rest =>
      obtain ⟨g8, C, rfl, HX, HG⟩ := hcut
      clear E0 EW cw6 cw7 yw6 yw7 c6 c7 y6 y7 HS0
      go_upto_region 7 with (fail)
      go_cut [44] (fun v44 we => Aside0 (Got4 w wB we (⟨w.heap.size, w.heap.size + 1 + 1, w.heap.size + 1 + 1 + 1, g7⟩ : Blk) g8 b5 q5 C x4 x5))
      case first =>
        have E0 := HG.out.env.below (below_drew1 (Below.refl _ wc))
        have K8 := HG.out.k8
        have LS := HG.out.ls.below (below_drew1 (Below.refl _ wc))
        refine wp_region_inv (by kernel_rfl) (by kernel_rfl) (fun vs => { tmps := List.toArray ((Value.slice A0 l0.length c0) :: undef :: (Value.pointer (some ⟨w.heap.size, 0, none⟩)) :: (Value.bool false) :: (Value.slice (cutA A0 c0) (l0.length - 4) (c0 - 4)) :: (Value.bool true) :: (Value.pointer (some ⟨w.heap.size + 1 + 1 + 1, 0, none⟩)) :: (Value.pointer (some ⟨g7, 0, none⟩)) :: (Value.pointer (some ⟨g8, 0, none⟩)) :: undef :: undef :: u11 :: u12 :: u13 :: u14 :: u15 :: u16 :: u17 :: u18 :: u19 :: u20 :: u21 :: u22 :: u23 :: u24 :: u25 :: u26 :: u27 :: u28 :: u29 :: u30 :: u31 :: u32 :: u33 :: u34 :: u35 :: u36 :: u37 :: u38 :: u39 :: (vs 0) :: (vs 1) :: (vs 2) :: (vs 3) :: (vs 4) :: (vs 6) :: undef :: undef :: u48 :: u49 :: u50 :: u51 :: u52 :: u53 :: u54 :: u55 :: u56 :: u57 :: u58 :: u59 :: u60 :: u61 :: u62 :: u63 :: u64 :: u65 :: u66 :: u67 :: u68 :: []), defers := [] }) (fun l vs W => I7 w wB (⟨w.heap.size, w.heap.size + 1 + 1, w.heap.size + 1 + 1 + 1, g7⟩ : Blk) (⟨b3, q3, x4, b4, q4, x5, b5, q5⟩ : D7) C g8 l vs W) ?step ?fin (fun i => match i with | 0 => u40 | 1 => u41 | 2 => u42 | 3 => u43 | 4 => u44 | 6 => u45 | _ => undef) rfl ?start
        case start => exact ⟨E0, K8, LS, nofun, nofun, nofun, nofun, nofun, nofun⟩
        case step =>
          clear E0 K8 LS HX
          intro i o ho l vs W h hl hd hcl
          have hi : i < 8 := (Array.getElem?_eq_some_iff.1 ho).1
          rcases (by omega : i = 0 ∨ i = 1 ∨ i = 2 ∨ i = 3 ∨ i = 4 ∨ i = 5 ∨ i = 6 ∨ i = 7) with rfl | rfl | rfl | rfl | rfl | rfl | rfl | rfl
          · obtain ⟨bs, bad, E⟩ := h.p.env
            refine wpOp_step ho (fun K hK => ?_)
            obtain rfl := (Option.some.inj ho).symm
            have HK := Aside0.mk hK
            clear hK ho
            rw [if_pos (by rfl)]
            have c7 := E.c7
            go_simp
            refine HK.out _ _ ⟨_, by first | rfl | simp [upd, *], h.still 0 _ (by decide) ⟨fun _ => rfl, fun e => absurd e (by decide), fun e => absurd e (by decide), fun e => absurd e (by decide)⟩⟩
          · have d0 := hd 0 (by kernel_rfl)
            obtain ⟨bs, bad, E⟩ := h.p.env
            refine wpOp_step ho (fun K hK => ?_)
            obtain rfl := (Option.some.inj ho).symm
            have HK := Aside0.mk hK
            clear hK ho
            rw [if_pos (by rfl)]
            have v0 := h.a0 d0
            have f3 : l 3 = false := by cases e : l 3 with | false => rfl | true => exact absurd (hcl 3 e 1 (by kernel_rfl)) (by rw [hl]; decide)
            have E0 := h.p.c1 hl f3
            go_wp2_with (go_at_call 29; refine (rd_small H4.out E0).mono ?_; rintro e wa ⟨rfl, En', hk⟩)
            refine HK.out _ _ ⟨.int .i64 x4, by first | rfl | simp [upd, *], h.call 1 _ (by decide) (Pg7.p1 f3 En') hk ⟨fun _ => rfl, fun e => absurd e (by decide)⟩⟩
          · obtain ⟨bs, bad, E⟩ := h.p.env
            refine wpOp_step ho (fun K hK => ?_)
            obtain rfl := (Option.some.inj ho).symm
            have HK := Aside0.mk hK
            clear hK ho
            rw [if_pos (by rfl)]
            have c7 := E.c7
            go_simp
            refine HK.out _ _ ⟨_, by first | rfl | simp [upd, *], h.still 2 _ (by decide) ⟨fun e => absurd e (by decide), fun _ => rfl, fun e => absurd e (by decide), fun e => absurd e (by decide)⟩⟩
          · have d2 := hd 2 (by kernel_rfl)
            have d1 := hd 1 (by kernel_rfl)
            obtain ⟨bs, bad, E⟩ := h.p.env
            refine wpOp_step ho (fun K hK => ?_)
            obtain rfl := (Option.some.inj ho).symm
            have HK := Aside0.mk hK
            clear hK ho
            rw [if_pos (by rfl)]
            have v2 := h.a2 d2
            have E0 := h.p.c3 d1 hl
            go_wp2_with (go_at_call 29; refine (rd_small H5.out E0).mono ?_; rintro e wa ⟨rfl, En', hk⟩)
            refine HK.out _ _ ⟨.int .i64 x5, by first | rfl | simp [upd, *], h.call 3 _ (by decide) (Pg7.p3 En') hk ⟨fun e => absurd e (by decide), fun _ => rfl⟩⟩
          · obtain ⟨bs, bad, E⟩ := h.p.env
            refine wpOp_step ho (fun K hK => ?_)
            obtain rfl := (Option.some.inj ho).symm
            have HK := Aside0.mk hK
            clear hK ho
            rw [if_pos (by rfl)]
            go_simp
            refine HK.out _ _ ⟨_, by first | rfl | simp [upd, *], h.still 4 _ (by decide) ⟨fun e => absurd e (by decide), fun e => absurd e (by decide), fun _ => rfl, fun e => absurd e (by decide)⟩⟩
          · have d4 := hd 4 (by kernel_rfl)
            have d1 := hd 1 (by kernel_rfl)
            have d3 := hd 3 (by kernel_rfl)
            obtain ⟨bs, bad, E⟩ := h.p.env
            refine wpOp_step ho (fun K hK => ?_)
            obtain rfl := (Option.some.inj ho).symm
            have HK := Aside0.mk hK
            clear hK ho
            rw [if_pos (by rfl)]
            have v4 := h.a4 d4
            have v1 := h.a1 d1
            have k8 := h.k8
            have c8 : W.cell? ⟨g8, 4, none⟩ = some (.int .i64 _) := (blk_cell k8 4).trans rfl
            have f8 := blk_frozen k8 4
            go_simp
            refine HK.out _ _ ⟨undef, by first | rfl | simp [upd, *], h.store 5 4 x4 undef (by simp) HG.out.lB HG.out.lw HG.out.ne2⟩
          · obtain ⟨bs, bad, E⟩ := h.p.env
            refine wpOp_step ho (fun K hK => ?_)
            obtain rfl := (Option.some.inj ho).symm
            have HK := Aside0.mk hK
            clear hK ho
            rw [if_pos (by rfl)]
            go_simp
            refine HK.out _ _ ⟨_, by first | rfl | simp [upd, *], h.still 6 _ (by decide) ⟨fun e => absurd e (by decide), fun e => absurd e (by decide), fun e => absurd e (by decide), fun _ => rfl⟩⟩
          · have d6 := hd 6 (by kernel_rfl)
            have d3 := hd 3 (by kernel_rfl)
            have d5 := hd 5 (by kernel_rfl)
            obtain ⟨bs, bad, E⟩ := h.p.env
            refine wpOp_step ho (fun K hK => ?_)
            obtain rfl := (Option.some.inj ho).symm
            have HK := Aside0.mk hK
            clear hK ho
            rw [if_pos (by rfl)]
            have v6 := h.a6 d6
            have v3 := h.a3 d3
            have k8 := h.k8
            have c8 : W.cell? ⟨g8, 5, none⟩ = some (.int .i64 _) := (blk_cell k8 5).trans rfl
            have f8 := blk_frozen k8 5
            go_simp
            refine HK.out _ _ ⟨undef, by first | rfl | simp [upd, *], h.store 7 5 x5 undef (by simp) HG.out.lB HG.out.lw HG.out.ne2⟩
        case fin =>
          clear E0 K8 LS HX
          intro l vs W hall h
          have k8 := h.k8
          rw [hall 5 (by decide), hall 7 (by decide)] at k8
          have HF := Aside0.mk (show Got4 w wB W (⟨w.heap.size, w.heap.size + 1 + 1, w.heap.size + 1 + 1 + 1, g7⟩ : Blk) g8 b5 q5 C x4 x5 from ⟨h.p.fin (hall 3 (by decide)), k8, HG.out.lB, HG.out.lw, HG.out.ne2, h.ls⟩)
          clear hall h k8 HG
          go_step
          go_step
          go_meet
          case rel => exact HF
      case rest =>
        have HG := Aside0.mk (G9.start hcut.out)
        clear hcut H0 H1 H2 H3 H4 H5 H6 H7 H8 H9
        have hd6 : (l0.drop 4).length ≤ 1000000 := by rw [List.length_drop]; omega
        have hb5 : b5.length ≤ 1000000 := by omega
        have HL := Aside0.mk (show C.x0.length ≤ 1000000 ∧ C.x1.length ≤ 1000000 ∧ C.x2.length ≤ 1000000 ∧ C.x3.length ≤ 1000000 ∧ (pX b5 q5 0).length ≤ 1000000 by
          have := pX_le b5 q5 0
          rw [HX.out.1, HX.out.2.1, HX.out.2.2.1, HX.out.2.2.2]
          omega)
        clear m0 m1 m2 m3 m4 m5 m6 m7 m8
        go_wp2_with (go_at_call 33; refine (cpieces_any g8 _).mono ?_; rintro e wp ⟨rfl, hb8⟩; have HG1 := Aside0.mk (HG.out.below hb8); clear hb8)
        go_loopw [10, 47] (fun v10 i wr => ∃ k : Nat, k ≤ 4 ∧ i = .int .i64 k ∧ Aside0 (G9 w wB wr (⟨w.heap.size, w.heap.size + 1 + 1, w.heap.size + 1 + 1 + 1, g7⟩ : Blk) g8 C x4 x5 b5 q5 k)) (fun _ i _ => 4 - (intOf i).toNat)
        case atStart => exact ⟨0, by omega, rfl, HG1⟩
        case round =>
          clear HG HG1
          obtain ⟨k, hk, rfl, HG⟩ := hrel
          by_cases hk4 : k < 4
          · have c6 := HG.out.env.c6
            have HC := Aside0.mk (rd_ins (rfl : readF insF (pS b5 q5 k).1 (pS b5 q5 k).2 = (_, _, _)) HG.out.env (Nat.le_trans (pS_le b5 q5 k) (by omega)))
            have kx0 := pieces_index0 g8
            have kx1 := pieces_index1 g8
            have kx2 := pieces_index2 g8
            have kx3 := pieces_index3 g8
            rcases (by omega : k = 0 ∨ k = 1 ∨ k = 2 ∨ k = 3) with rfl | rfl | rfl | rfl
            · go_wp2_with (go_at_call 34; refine HC.out.mono ?_; rintro e wa ⟨va, rfl, L, En', hk⟩; obtain ⟨AA, cc, rfl⟩ := Kd.R_slice L; obtain ⟨⟨uu, hcu⟩, hfu, hG'⟩ := HG.out.next (by decide) L En' hk; have c6a := En'.c6; simp only [Nat.reduceAdd] at hcu hfu hG'; have HGn := Aside0.mk hG'; clear hG' L En' hk)
              go_roundw
              case rel => exact ⟨1, by decide, by go_num, HGn⟩
              case measure => simp [intOf]
            · go_wp2_with (go_at_call 34; refine HC.out.mono ?_; rintro e wa ⟨va, rfl, L, En', hk⟩; obtain ⟨AA, cc, rfl⟩ := Kd.R_slice L; obtain ⟨⟨uu, hcu⟩, hfu, hG'⟩ := HG.out.next (by decide) L En' hk; have c6a := En'.c6; simp only [Nat.reduceAdd] at hcu hfu hG'; have HGn := Aside0.mk hG'; clear hG' L En' hk)
              go_roundw
              case rel => exact ⟨2, by decide, by go_num, HGn⟩
              case measure => simp [intOf]
            · go_wp2_with (go_at_call 34; refine HC.out.mono ?_; rintro e wa ⟨va, rfl, L, En', hk⟩; obtain ⟨AA, cc, rfl⟩ := Kd.R_slice L; obtain ⟨⟨uu, hcu⟩, hfu, hG'⟩ := HG.out.next (by decide) L En' hk; have c6a := En'.c6; simp only [Nat.reduceAdd] at hcu hfu hG'; have HGn := Aside0.mk hG'; clear hG' L En' hk)
              go_roundw
              case rel => exact ⟨3, by decide, by go_num, HGn⟩
              case measure => simp [intOf]
            · go_wp2_with (go_at_call 34; refine HC.out.mono ?_; rintro e wa ⟨va, rfl, L, En', hk⟩; obtain ⟨AA, cc, rfl⟩ := Kd.R_slice L; obtain ⟨⟨uu, hcu⟩, hfu, hG'⟩ := HG.out.next (by decide) L En' hk; have c6a := En'.c6; simp only [Nat.reduceAdd] at hcu hfu hG'; have HGn := Aside0.mk hG'; clear hG' L En' hk)
              go_roundw
              case rel => exact ⟨4, by decide, by go_num, HGn⟩
              case measure => simp [intOf]
          · obtain rfl : k = 4 := by omega
            have c6 := HG.out.env.c6
            obtain ⟨Ar, cr, hr1, hr2, hr3⟩ := HG.out.env.r.out
            have hc1 : wr.cell? ⟨w.heap.size + 1 + 1, 1, none⟩ = some (.bool (pS b5 q5 4).2) := (blk_cell hr1 1).trans rfl
            clear hr1 hr2 hr3
            obtain ⟨bad, hbad⟩ : ∃ bad, (pS b5 q5 4).2 = bad := ⟨_, rfl⟩
            rw [hbad] at hc1
            have HTb := Aside0.mk hbad
            clear hbad
            have HW := Aside0.mk HG.out.env.b
            cases bad with
            | true =>
              have k2 := HG.out.env.k2
              have z0 := (blk_cell k2 0).trans rfl
              have f0 := blk_frozen k2 0
              have z1 := (blk_cell k2 1).trans rfl
              have f1 := blk_frozen k2 1
              have z2 := (blk_cell k2 2).trans rfl
              have f2 := blk_frozen k2 2
              have z3 := (blk_cell k2 3).trans rfl
              have f3 := blk_frozen k2 3
              have z4 := (blk_cell k2 4).trans rfl
              have f4 := blk_frozen k2 4
              have z5 := (blk_cell k2 5).trans rfl
              have f5 := blk_frozen k2 5
              have z6 := (blk_cell k2 6).trans rfl
              have f6 := blk_frozen k2 6
              have z7 := (blk_cell k2 7).trans rfl
              have f7 := blk_frozen k2 7
              have z8 := (blk_cell k2 8).trans rfl
              have f8 := blk_frozen k2 8
              have z9 := (blk_cell k2 9).trans rfl
              have f9 := blk_frozen k2 9
              have HK2 := Aside0.mk k2
              clear k2
              go_wp2_with fail
              have hT := HT.out
              rw [if_pos HTb.out] at hT
              rw [← hT]
              exact bodyPost_ret (results_list (rs := [.cell 2 28, .tmp 3]) rfl (by simp) (.cell w.heap.size 28 _ (0, 0) _ rfl (ten_heap HK2.out) Try.underlying28 rfl (by kernel_rfl) (.tmp .nil))) rfl (noObj_post (ten_below HW.out) rfl)
            | false =>
              have k2 := HG.out.env.k2
              obtain ⟨n0, n1, n2, n3, n4, o1, o2, o3, o4, o5, L0, L1, L2, L3⟩ := HG.out.ls
              obtain ⟨pv, k8, lo, hi, hp, ha⟩ := HG.out.ps
              have L6 := (hp 0 (by decide)).2
              have L7 := (hp 1 (by decide)).2
              have L8 := (hp 2 (by decide)).2
              have L9 := (hp 3 (by decide)).2
              obtain ⟨B0, d0, e0⟩ := Kd.R_slice L0
              obtain ⟨B1, d1, e1⟩ := Kd.R_slice L1
              obtain ⟨B2, d2, e2⟩ := Kd.R_slice L2
              obtain ⟨B3, d3, e3⟩ := Kd.R_slice L3
              obtain ⟨B6, d6, e6⟩ := Kd.R_slice L6
              obtain ⟨B7, d7, e7⟩ := Kd.R_slice L7
              obtain ⟨B8, d8, e8⟩ := Kd.R_slice L8
              obtain ⟨B9, d9, e9⟩ := Kd.R_slice L9
              have M0 := L0
              rw [e0] at M0
              have N0 := Aside0.mk M0
              clear M0
              have M1 := L1
              rw [e1] at M1
              have N1 := Aside0.mk M1
              clear M1
              have M2 := L2
              rw [e2] at M2
              have N2 := Aside0.mk M2
              clear M2
              have M3 := L3
              rw [e3] at M3
              have N3 := Aside0.mk M3
              clear M3
              have M6 := L6
              rw [e6] at M6
              have N6 := Aside0.mk M6
              clear M6
              have M7 := L7
              rw [e7] at M7
              have N7 := Aside0.mk M7
              clear M7
              have M8 := L8
              rw [e8] at M8
              have N8 := Aside0.mk M8
              clear M8
              have M9 := L9
              rw [e9] at M9
              have N9 := Aside0.mk M9
              clear M9
              have R0 := L0
              rw [e0] at R0
              have R0 := Kd.R_reads' R0
              have R1 := L1
              rw [e1] at R1
              have R1 := Kd.R_reads' R1
              have R2 := L2
              rw [e2] at R2
              have R2 := Kd.R_reads' R2
              have R3 := L3
              rw [e3] at R3
              have R3 := Kd.R_reads' R3
              have R6 := L6
              rw [e6] at R6
              have R6 := Kd.R_reads' R6
              have R7 := L7
              rw [e7] at R7
              have R7 := Kd.R_reads' R7
              have R8 := L8
              rw [e8] at R8
              have R8 := Kd.R_reads' R8
              have R9 := L9
              rw [e9] at R9
              have R9 := Kd.R_reads' R9
              rw [e0, e1, e2, e3, show pc pv 4 0 = _ from e6, show pc pv 4 1 = _ from e7, show pc pv 4 2 = _ from e8, show pc pv 4 3 = _ from e9] at k8
              have z0 := (blk_cell k8 0).trans rfl
              have z1 := (blk_cell k8 1).trans rfl
              have z2 := (blk_cell k8 2).trans rfl
              have z3 := (blk_cell k8 3).trans rfl
              have z4 := (blk_cell k8 4).trans rfl
              have z5 := (blk_cell k8 5).trans rfl
              have z6 := (blk_cell k8 6).trans rfl
              have z7 := (blk_cell k8 7).trans rfl
              have z8 := (blk_cell k8 8).trans rfl
              have z9 := (blk_cell k8 9).trans rfl
              have kb := code_Bytes.calls B0 d0 C.x0 B1 d1 C.x1 B2 d2 C.x2 B3 d3 C.x3 x4 x5 B6 d6 (pX b5 q5 0) B7 d7 (pX b5 q5 1) B8 d8 (pX b5 q5 2) B9 d9 (pX b5 q5 3) (bytesB C.x0 C.x1 C.x2 C.x3 x4 x5 (pX b5 q5 0) (pX b5 q5 1) (pX b5 q5 2) (pX b5 q5 3)) wr R0.2.2 R0.2.1 R1.2.2 R1.2.1 R2.2.2 R2.2.1 R3.2.2 R3.2.1 R6.2.2 R6.2.1 R7.2.2 R7.2.1 R8.2.2 R8.2.1 R9.2.2 R9.2.1 (code_Bytes_f_some HL.out.1 HL.out.2.1 HL.out.2.2.1 HL.out.2.2.2.1 HL.out.2.2.2.2 (Nat.le_trans (pX_le b5 q5 1) hb5) (Nat.le_trans (pX_le b5 q5 2) hb5) (Nat.le_trans (pX_le b5 q5 3) hb5))
              have KB := Aside0.mk kb
              clear kb R0 R1 R2 R3 R6 R7 R8 R9 L0 L1 L2 L3 L6 L7 L8 L9 hp ha
              have HB := Aside0.mk HG.out.env.b
              have HKB := Aside0.mk k8
              have HK2 := Aside0.mk k2
              clear k8 k2 e0 e1 e2 e3 e6 e7 e8 e9
              obtain ⟨same, hs⟩ : ∃ s, sameB (bytesB C.x0 C.x1 C.x2 C.x3 x4 x5 (pX b5 q5 0) (pX b5 q5 1) (pX b5 q5 2) (pX b5 q5 3)) l0 = s := ⟨_, rfl⟩
              have HS := Aside0.mk hs
              clear hs
              cases same with
              | true =>
                go_wp2_with (first | (go_at_call 13; refine KB.out.mono ?_; rintro e wa ⟨va, rfl, hRa, hBa⟩; obtain ⟨Bv, dv, rfl⟩ := Kd.R_slice hRa; have KQ := bequal_any Bv A0 _ _ dv c0 _ _ wa (Kd.R_reads' hRa).2.2 (Kd.C_below HR.out (HB.out.trans (hBa.mono HB.out.size))); rw [HS.out] at KQ; have k8a := blk_below HKB.out hBa; have k2a := blk_below HK2.out hBa; have y0 := (blk_cell k2a 0).trans rfl; have f0 := blk_frozen k2a 0; have y1 := (blk_cell k2a 1).trans rfl; have f1 := blk_frozen k2a 1; have y2 := (blk_cell k2a 2).trans rfl; have f2 := blk_frozen k2a 2; have y3 := (blk_cell k2a 3).trans rfl; have f3 := blk_frozen k2a 3; have y4 := (blk_cell k2a 4).trans rfl; have f4 := blk_frozen k2a 4; have y5 := (blk_cell k2a 5).trans rfl; have f5 := blk_frozen k2a 5; have y6 := (blk_cell k2a 6).trans rfl; have f6 := blk_frozen k2a 6; have y7 := (blk_cell k2a 7).trans rfl; have f7 := blk_frozen k2a 7; have y8 := (blk_cell k2a 8).trans rfl; have f8 := blk_frozen k2a 8; have y9 := (blk_cell k2a 9).trans rfl; have f9 := blk_frozen k2a 9; have x0c := (blk_cell k8a 0).trans rfl; have x1c := (blk_cell k8a 1).trans rfl; have x2c := (blk_cell k8a 2).trans rfl; have x3c := (blk_cell k8a 3).trans rfl; have x4c := (blk_cell k8a 4).trans rfl; have x5c := (blk_cell k8a 5).trans rfl; have x6c := (blk_cell k8a 6).trans rfl; have x7c := (blk_cell k8a 7).trans rfl; have x8c := (blk_cell k8a 8).trans rfl; have x9c := (blk_cell k8a 9).trans rfl) | (go_at_call 36; refine KQ.mono ?_; rintro e wb ⟨rfl, rfl⟩))
                have hT := HT.out
                rw [if_neg (by rw [HTb.out]; decide)] at hT
                have hs := HS.out
                rw [HX.out.1, HX.out.2.1, HX.out.2.2.1, HX.out.2.2.2] at hs
                rw [if_pos hs] at hT
                rw [← hT]
                refine bodyPost_ret (results_list (rs := [.cell 2 28, .tmp 3]) rfl (by simp) (.cell w.heap.size 28 _ (0, 0) _ rfl (ten_heap k2a) Try.underlying28 rfl (by kernel_rfl) (.tmp .nil))) rfl ?_
                have P0 := ten_R (x0 := .slice B0 C.x0.length d0) (x1 := .slice B1 C.x1.length d1) (x2 := .slice B2 C.x2.length d2) (x3 := .slice B3 C.x3.length d3) (x4 := .int .i64 x4) (x5 := .int .i64 x5) (x6 := .slice B6 (pX b5 q5 0).length d6) (x7 := .slice B7 (pX b5 q5 1).length d7) (x8 := .slice B8 (pX b5 q5 2).length d8) (x9 := .slice B9 (pX b5 q5 3).length d9) rfl (by decide) N0.out hBa k2a
                have P1 := ten_R (x0 := .slice B0 C.x0.length d0) (x1 := .slice B1 C.x1.length d1) (x2 := .slice B2 C.x2.length d2) (x3 := .slice B3 C.x3.length d3) (x4 := .int .i64 x4) (x5 := .int .i64 x5) (x6 := .slice B6 (pX b5 q5 0).length d6) (x7 := .slice B7 (pX b5 q5 1).length d7) (x8 := .slice B8 (pX b5 q5 2).length d8) (x9 := .slice B9 (pX b5 q5 3).length d9) rfl (by decide) N1.out hBa k2a
                have P2 := ten_R (x0 := .slice B0 C.x0.length d0) (x1 := .slice B1 C.x1.length d1) (x2 := .slice B2 C.x2.length d2) (x3 := .slice B3 C.x3.length d3) (x4 := .int .i64 x4) (x5 := .int .i64 x5) (x6 := .slice B6 (pX b5 q5 0).length d6) (x7 := .slice B7 (pX b5 q5 1).length d7) (x8 := .slice B8 (pX b5 q5 2).length d8) (x9 := .slice B9 (pX b5 q5 3).length d9) rfl (by decide) N2.out hBa k2a
                have P3 := ten_R (x0 := .slice B0 C.x0.length d0) (x1 := .slice B1 C.x1.length d1) (x2 := .slice B2 C.x2.length d2) (x3 := .slice B3 C.x3.length d3) (x4 := .int .i64 x4) (x5 := .int .i64 x5) (x6 := .slice B6 (pX b5 q5 0).length d6) (x7 := .slice B7 (pX b5 q5 1).length d7) (x8 := .slice B8 (pX b5 q5 2).length d8) (x9 := .slice B9 (pX b5 q5 3).length d9) rfl (by decide) N3.out hBa k2a
                have P6 := ten_R (x0 := .slice B0 C.x0.length d0) (x1 := .slice B1 C.x1.length d1) (x2 := .slice B2 C.x2.length d2) (x3 := .slice B3 C.x3.length d3) (x4 := .int .i64 x4) (x5 := .int .i64 x5) (x6 := .slice B6 (pX b5 q5 0).length d6) (x7 := .slice B7 (pX b5 q5 1).length d7) (x8 := .slice B8 (pX b5 q5 2).length d8) (x9 := .slice B9 (pX b5 q5 3).length d9) rfl (by decide) N6.out hBa k2a
                have P7 := ten_R (x0 := .slice B0 C.x0.length d0) (x1 := .slice B1 C.x1.length d1) (x2 := .slice B2 C.x2.length d2) (x3 := .slice B3 C.x3.length d3) (x4 := .int .i64 x4) (x5 := .int .i64 x5) (x6 := .slice B6 (pX b5 q5 0).length d6) (x7 := .slice B7 (pX b5 q5 1).length d7) (x8 := .slice B8 (pX b5 q5 2).length d8) (x9 := .slice B9 (pX b5 q5 3).length d9) rfl (by decide) N7.out hBa k2a
                have P8 := ten_R (x0 := .slice B0 C.x0.length d0) (x1 := .slice B1 C.x1.length d1) (x2 := .slice B2 C.x2.length d2) (x3 := .slice B3 C.x3.length d3) (x4 := .int .i64 x4) (x5 := .int .i64 x5) (x6 := .slice B6 (pX b5 q5 0).length d6) (x7 := .slice B7 (pX b5 q5 1).length d7) (x8 := .slice B8 (pX b5 q5 2).length d8) (x9 := .slice B9 (pX b5 q5 3).length d9) rfl (by decide) N8.out hBa k2a
                have P9 := ten_R (x0 := .slice B0 C.x0.length d0) (x1 := .slice B1 C.x1.length d1) (x2 := .slice B2 C.x2.length d2) (x3 := .slice B3 C.x3.length d3) (x4 := .int .i64 x4) (x5 := .int .i64 x5) (x6 := .slice B6 (pX b5 q5 0).length d6) (x7 := .slice B7 (pX b5 q5 1).length d7) (x8 := .slice B8 (pX b5 q5 2).length d8) (x9 := .slice B9 (pX b5 q5 3).length d9) rfl (by decide) N9.out hBa k2a
                have Q0 := HX.out.1
                have Q1 := HX.out.2.1
                have Q2 := HX.out.2.2.1
                have Q3 := HX.out.2.2.2
                exact ⟨_, _, _, _, _, _, _, _, rfl, Q0 ▸ P0, Q1 ▸ P1, Q2 ▸ P2, Q3 ▸ P3, P6, P7, P8, P9, ten_below (HB.out.trans (hBa.mono HB.out.size))⟩
              | false =>
                go_wp2_with (first | (go_at_call 13; refine KB.out.mono ?_; rintro e wa ⟨va, rfl, hRa, hBa⟩; obtain ⟨Bv, dv, rfl⟩ := Kd.R_slice hRa; have KQ := bequal_any Bv A0 _ _ dv c0 _ _ wa (Kd.R_reads' hRa).2.2 (Kd.C_below HR.out (HB.out.trans (hBa.mono HB.out.size))); rw [HS.out] at KQ; have k2a := blk_below HK2.out hBa; have y0 := (blk_cell k2a 0).trans rfl; have f0 := blk_frozen k2a 0; have y1 := (blk_cell k2a 1).trans rfl; have f1 := blk_frozen k2a 1; have y2 := (blk_cell k2a 2).trans rfl; have f2 := blk_frozen k2a 2; have y3 := (blk_cell k2a 3).trans rfl; have f3 := blk_frozen k2a 3; have y4 := (blk_cell k2a 4).trans rfl; have f4 := blk_frozen k2a 4; have y5 := (blk_cell k2a 5).trans rfl; have f5 := blk_frozen k2a 5; have y6 := (blk_cell k2a 6).trans rfl; have f6 := blk_frozen k2a 6; have y7 := (blk_cell k2a 7).trans rfl; have f7 := blk_frozen k2a 7; have y8 := (blk_cell k2a 8).trans rfl; have f8 := blk_frozen k2a 8; have y9 := (blk_cell k2a 9).trans rfl; have f9 := blk_frozen k2a 9) | (go_at_call 36; refine KQ.mono ?_; rintro e wb ⟨rfl, rfl⟩))
                have hT := HT.out
                rw [if_neg (by rw [HTb.out]; decide)] at hT
                have hs := HS.out
                rw [HX.out.1, HX.out.2.1, HX.out.2.2.1, HX.out.2.2.2] at hs
                rw [if_neg (by rw [hs]; decide)] at hT
                rw [← hT]
                exact bodyPost_ret (results_list (rs := [.cell 2 28, .tmp 3]) rfl (by simp) (.cell w.heap.size 28 _ (0, 0) _ rfl (ten_heap k2a) Try.underlying28 rfl (by kernel_rfl) (.tmp .nil))) rfl (noObj_post (ten_below (HB.out.trans (hBa.mono HB.out.size))) rfl)
#print axioms object_yes
end Go.Proofs.Ytccolpkjgjjipaa.K
