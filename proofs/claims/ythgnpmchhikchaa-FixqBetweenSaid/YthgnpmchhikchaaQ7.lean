-- written by myprint.py (wip/tools) out of the translation
import Derived.Test.YthgnpmchhikchaaQ0
import Derived.Test.YthgnpmchhikchaaQ3
import Derived.Test.YthgnpmchhikchaaQ4
import Derived.Test.YthgnpmchhikchaaQ5
import Derived.Test.YthgnpmchhikchaaQ6
namespace Go.Proofs.Ythgnpmchhikchaa.Q
open Go.RowKit Go.Proofs.YthgnpmchhikchaaW.PrintWords Go.Proofs.YthgnpmchhikchaaW.PrintLast Go.Proofs.YthgnpmchhikchaaW.PrintMore
attribute [local go_sem] max2_int min2_int max_two min_two max_three min_three max_four min_four   -- for this text's walks alone
set_option linter.unusedVariables false
set_option linter.unusedSimpArgs false

/-! ### astrolabelaw01_FixqLaws: function 5 -/
def astrolabelaw01_FixqLaws.j0 : Nat → Int → Int → Int → Int → Bool → Option (Bool)
  | 0, _, _, _, _, _ => none
  | k + 1, x0, x1, x5, x6, x90 => if x90 = true then (some false) else (if x6 = 0 then ((fixq_Sub.f x5 x1).bind fun bt247 => (if bt247.1 = x0 then (some (bt247.2 == 0)) else (some false))) else (some true))
def astrolabelaw01_FixqLaws.f (k : Nat) (a0 : Int) (a1 : Int) : Option (Bool) := (astrolabelaw01_alive.f k).bind fun t234 => (if t234 = true then ((fixq_Add.f a0 a1).bind fun bt235 => ((fixq_Add.f a1 a0).bind fun bt237 => ((fixq_Mul.f k a0 a1).bind fun bt239 => ((fixq_Mul.f k a1 a0).bind fun bt241 => ((fixq_Mul.f k a0 4294967296).bind fun bt243 => ((fixq_Div.f k a0 4294967296).bind fun bt245 => (if bt235.1 = bt237.1 then (if bt235.2 = bt237.2 then (if bt239.1 = bt241.1 then (if bt239.2 = bt241.2 then (if bt243.1 = a0 then (if bt243.2 = 0 then (if bt245.1 = a0 then (astrolabelaw01_FixqLaws.j0 k a0 a1 bt235.1 bt235.2 (bt245.2 != 0)) else (astrolabelaw01_FixqLaws.j0 k a0 a1 bt235.1 bt235.2 true)) else (astrolabelaw01_FixqLaws.j0 k a0 a1 bt235.1 bt235.2 true)) else (astrolabelaw01_FixqLaws.j0 k a0 a1 bt235.1 bt235.2 true)) else (astrolabelaw01_FixqLaws.j0 k a0 a1 bt235.1 bt235.2 true)) else (astrolabelaw01_FixqLaws.j0 k a0 a1 bt235.1 bt235.2 true)) else (astrolabelaw01_FixqLaws.j0 k a0 a1 bt235.1 bt235.2 true)) else (astrolabelaw01_FixqLaws.j0 k a0 a1 bt235.1 bt235.2 true)))))))) else (some false))
theorem astrolabelaw01_FixqLaws.mono_l : ∀ k, (∀ y0 y1 y2 y3 y4, LeO (astrolabelaw01_FixqLaws.j0 k y0 y1 y2 y3 y4) (astrolabelaw01_FixqLaws.j0 (k + 1) y0 y1 y2 y3 y4))
  | 0 => fun _ _ _ _ _ r h => by simp [astrolabelaw01_FixqLaws.j0] at h
  | k + 1 => by
    have ih0 := astrolabelaw01_FixqLaws.mono_l k
    · intro y0 y1 y2 y3 y4
      unfold astrolabelaw01_FixqLaws.j0
      repeat' first
      | (with_reducible exact ih0 _ _ _ _ _)
      | (with_reducible exact astrolabelaw01_alive.mono _)
      | (with_reducible exact fixq_Div.mono _ _ _)
      | (with_reducible exact fixq_Mul.mono _ _ _)
      | (with_reducible exact LeO.refl _)
      | (with_reducible exact LeO.none _)
      | (with_reducible refine LeO.ite ?_ ?_)
      | (with_reducible refine LeO.bind ?_ (fun _ => ?_))
      | exact ih0 _ _ _ _ _
      | exact astrolabelaw01_alive.mono _
      | exact fixq_Div.mono _ _ _
      | exact fixq_Mul.mono _ _ _
      | exact LeO.none _
      | refine LeO.ite ?_ ?_
      | refine LeO.bind ?_ (fun _ => ?_)
theorem astrolabelaw01_FixqLaws.mono : ∀ a0 a1 k, LeO (astrolabelaw01_FixqLaws.f k a0 a1) (astrolabelaw01_FixqLaws.f (k + 1) a0 a1) := by
  intro a0 a1 k
  have ih0 := astrolabelaw01_FixqLaws.mono_l k
  unfold astrolabelaw01_FixqLaws.f
  repeat' first
      | (with_reducible exact ih0 _ _ _ _ _)
      | (with_reducible exact astrolabelaw01_alive.mono _)
      | (with_reducible exact fixq_Div.mono _ _ _)
      | (with_reducible exact fixq_Mul.mono _ _ _)
      | (with_reducible exact LeO.refl _)
      | (with_reducible exact LeO.none _)
      | (with_reducible refine LeO.ite ?_ ?_)
      | (with_reducible refine LeO.bind ?_ (fun _ => ?_))
      | exact ih0 _ _ _ _ _
      | exact astrolabelaw01_alive.mono _
      | exact fixq_Div.mono _ _ _
      | exact fixq_Mul.mono _ _ _
      | exact LeO.none _
      | refine LeO.ite ?_ ?_
      | refine LeO.bind ?_ (fun _ => ?_)
set_option maxHeartbeats 8000000 in
set_option maxRecDepth 100000 in
theorem astrolabelaw01_FixqLaws.calls (k : Nat) (a0 : Int) (a1 : Int) (r : Bool) (w : World) (h : astrolabelaw01_FixqLaws.f k a0 a1 = some r) :
    Calls Try.prog 5 #[.int .i64 a0, .int .i64 a1] w fun e w' => e = .returned (.bool r) ∧ Below w.heap.size w w' := by
  have HB := Aside0.mk (Below.refl w.heap.size w)
  have H : ((astrolabelaw01_alive.f k).bind fun t234 => (if t234 = true then ((fixq_Add.f a0 a1).bind fun bt235 => ((fixq_Add.f a1 a0).bind fun bt237 => ((fixq_Mul.f k a0 a1).bind fun bt239 => ((fixq_Mul.f k a1 a0).bind fun bt241 => ((fixq_Mul.f k a0 4294967296).bind fun bt243 => ((fixq_Div.f k a0 4294967296).bind fun bt245 => (if bt235.1 = bt237.1 then (if bt235.2 = bt237.2 then (if bt239.1 = bt241.1 then (if bt239.2 = bt241.2 then (if bt243.1 = a0 then (if bt243.2 = 0 then (if bt245.1 = a0 then (astrolabelaw01_FixqLaws.j0 k a0 a1 bt235.1 bt235.2 (bt245.2 != 0)) else (astrolabelaw01_FixqLaws.j0 k a0 a1 bt235.1 bt235.2 true)) else (astrolabelaw01_FixqLaws.j0 k a0 a1 bt235.1 bt235.2 true)) else (astrolabelaw01_FixqLaws.j0 k a0 a1 bt235.1 bt235.2 true)) else (astrolabelaw01_FixqLaws.j0 k a0 a1 bt235.1 bt235.2 true)) else (astrolabelaw01_FixqLaws.j0 k a0 a1 bt235.1 bt235.2 true)) else (astrolabelaw01_FixqLaws.j0 k a0 a1 bt235.1 bt235.2 true)) else (astrolabelaw01_FixqLaws.j0 k a0 a1 bt235.1 bt235.2 true)))))))) else (some false))) = some r := h
  clear h
  replace H := Option.bind_eq_some_iff.mp H
  obtain ⟨t234, A30, H⟩ := H
  replace H : (if t234 = true then ((fixq_Add.f a0 a1).bind fun bt235 => ((fixq_Add.f a1 a0).bind fun bt237 => ((fixq_Mul.f k a0 a1).bind fun bt239 => ((fixq_Mul.f k a1 a0).bind fun bt241 => ((fixq_Mul.f k a0 4294967296).bind fun bt243 => ((fixq_Div.f k a0 4294967296).bind fun bt245 => (if bt235.1 = bt237.1 then (if bt235.2 = bt237.2 then (if bt239.1 = bt241.1 then (if bt239.2 = bt241.2 then (if bt243.1 = a0 then (if bt243.2 = 0 then (if bt245.1 = a0 then (astrolabelaw01_FixqLaws.j0 k a0 a1 bt235.1 bt235.2 (bt245.2 != 0)) else (astrolabelaw01_FixqLaws.j0 k a0 a1 bt235.1 bt235.2 true)) else (astrolabelaw01_FixqLaws.j0 k a0 a1 bt235.1 bt235.2 true)) else (astrolabelaw01_FixqLaws.j0 k a0 a1 bt235.1 bt235.2 true)) else (astrolabelaw01_FixqLaws.j0 k a0 a1 bt235.1 bt235.2 true)) else (astrolabelaw01_FixqLaws.j0 k a0 a1 bt235.1 bt235.2 true)) else (astrolabelaw01_FixqLaws.j0 k a0 a1 bt235.1 bt235.2 true)) else (astrolabelaw01_FixqLaws.j0 k a0 a1 bt235.1 bt235.2 true)))))))) else (some false)) = some r := H
  have A3 := Aside0.mk A30
  clear A30
  by_cases c4 : t234 = true
  · subst c4
    have H1 : ((fixq_Add.f a0 a1).bind fun bt235 => ((fixq_Add.f a1 a0).bind fun bt237 => ((fixq_Mul.f k a0 a1).bind fun bt239 => ((fixq_Mul.f k a1 a0).bind fun bt241 => ((fixq_Mul.f k a0 4294967296).bind fun bt243 => ((fixq_Div.f k a0 4294967296).bind fun bt245 => (if bt235.1 = bt237.1 then (if bt235.2 = bt237.2 then (if bt239.1 = bt241.1 then (if bt239.2 = bt241.2 then (if bt243.1 = a0 then (if bt243.2 = 0 then (if bt245.1 = a0 then (astrolabelaw01_FixqLaws.j0 k a0 a1 bt235.1 bt235.2 (bt245.2 != 0)) else (astrolabelaw01_FixqLaws.j0 k a0 a1 bt235.1 bt235.2 true)) else (astrolabelaw01_FixqLaws.j0 k a0 a1 bt235.1 bt235.2 true)) else (astrolabelaw01_FixqLaws.j0 k a0 a1 bt235.1 bt235.2 true)) else (astrolabelaw01_FixqLaws.j0 k a0 a1 bt235.1 bt235.2 true)) else (astrolabelaw01_FixqLaws.j0 k a0 a1 bt235.1 bt235.2 true)) else (astrolabelaw01_FixqLaws.j0 k a0 a1 bt235.1 bt235.2 true)) else (astrolabelaw01_FixqLaws.j0 k a0 a1 bt235.1 bt235.2 true)))))))) = some r := by rw [if_pos rfl] at H; exact H
    clear H
    have H := H1
    clear H1
    replace H := Option.bind_eq_some_iff.mp H
    obtain ⟨⟨t235, t236⟩, A50, H⟩ := H
    replace H : ((fixq_Add.f a1 a0).bind fun bt237 => ((fixq_Mul.f k a0 a1).bind fun bt239 => ((fixq_Mul.f k a1 a0).bind fun bt241 => ((fixq_Mul.f k a0 4294967296).bind fun bt243 => ((fixq_Div.f k a0 4294967296).bind fun bt245 => (if t235 = bt237.1 then (if t236 = bt237.2 then (if bt239.1 = bt241.1 then (if bt239.2 = bt241.2 then (if bt243.1 = a0 then (if bt243.2 = 0 then (if bt245.1 = a0 then (astrolabelaw01_FixqLaws.j0 k a0 a1 t235 t236 (bt245.2 != 0)) else (astrolabelaw01_FixqLaws.j0 k a0 a1 t235 t236 true)) else (astrolabelaw01_FixqLaws.j0 k a0 a1 t235 t236 true)) else (astrolabelaw01_FixqLaws.j0 k a0 a1 t235 t236 true)) else (astrolabelaw01_FixqLaws.j0 k a0 a1 t235 t236 true)) else (astrolabelaw01_FixqLaws.j0 k a0 a1 t235 t236 true)) else (astrolabelaw01_FixqLaws.j0 k a0 a1 t235 t236 true)) else (astrolabelaw01_FixqLaws.j0 k a0 a1 t235 t236 true))))))) = some r := H
    have A5 := Aside0.mk A50
    clear A50
    replace H := Option.bind_eq_some_iff.mp H
    obtain ⟨⟨t237, t238⟩, A60, H⟩ := H
    replace H : ((fixq_Mul.f k a0 a1).bind fun bt239 => ((fixq_Mul.f k a1 a0).bind fun bt241 => ((fixq_Mul.f k a0 4294967296).bind fun bt243 => ((fixq_Div.f k a0 4294967296).bind fun bt245 => (if t235 = t237 then (if t236 = t238 then (if bt239.1 = bt241.1 then (if bt239.2 = bt241.2 then (if bt243.1 = a0 then (if bt243.2 = 0 then (if bt245.1 = a0 then (astrolabelaw01_FixqLaws.j0 k a0 a1 t235 t236 (bt245.2 != 0)) else (astrolabelaw01_FixqLaws.j0 k a0 a1 t235 t236 true)) else (astrolabelaw01_FixqLaws.j0 k a0 a1 t235 t236 true)) else (astrolabelaw01_FixqLaws.j0 k a0 a1 t235 t236 true)) else (astrolabelaw01_FixqLaws.j0 k a0 a1 t235 t236 true)) else (astrolabelaw01_FixqLaws.j0 k a0 a1 t235 t236 true)) else (astrolabelaw01_FixqLaws.j0 k a0 a1 t235 t236 true)) else (astrolabelaw01_FixqLaws.j0 k a0 a1 t235 t236 true)))))) = some r := H
    have A6 := Aside0.mk A60
    clear A60
    replace H := Option.bind_eq_some_iff.mp H
    obtain ⟨⟨t239, t240⟩, A70, H⟩ := H
    replace H : ((fixq_Mul.f k a1 a0).bind fun bt241 => ((fixq_Mul.f k a0 4294967296).bind fun bt243 => ((fixq_Div.f k a0 4294967296).bind fun bt245 => (if t235 = t237 then (if t236 = t238 then (if t239 = bt241.1 then (if t240 = bt241.2 then (if bt243.1 = a0 then (if bt243.2 = 0 then (if bt245.1 = a0 then (astrolabelaw01_FixqLaws.j0 k a0 a1 t235 t236 (bt245.2 != 0)) else (astrolabelaw01_FixqLaws.j0 k a0 a1 t235 t236 true)) else (astrolabelaw01_FixqLaws.j0 k a0 a1 t235 t236 true)) else (astrolabelaw01_FixqLaws.j0 k a0 a1 t235 t236 true)) else (astrolabelaw01_FixqLaws.j0 k a0 a1 t235 t236 true)) else (astrolabelaw01_FixqLaws.j0 k a0 a1 t235 t236 true)) else (astrolabelaw01_FixqLaws.j0 k a0 a1 t235 t236 true)) else (astrolabelaw01_FixqLaws.j0 k a0 a1 t235 t236 true))))) = some r := H
    have A7 := Aside0.mk A70
    clear A70
    replace H := Option.bind_eq_some_iff.mp H
    obtain ⟨⟨t241, t242⟩, A80, H⟩ := H
    replace H : ((fixq_Mul.f k a0 4294967296).bind fun bt243 => ((fixq_Div.f k a0 4294967296).bind fun bt245 => (if t235 = t237 then (if t236 = t238 then (if t239 = t241 then (if t240 = t242 then (if bt243.1 = a0 then (if bt243.2 = 0 then (if bt245.1 = a0 then (astrolabelaw01_FixqLaws.j0 k a0 a1 t235 t236 (bt245.2 != 0)) else (astrolabelaw01_FixqLaws.j0 k a0 a1 t235 t236 true)) else (astrolabelaw01_FixqLaws.j0 k a0 a1 t235 t236 true)) else (astrolabelaw01_FixqLaws.j0 k a0 a1 t235 t236 true)) else (astrolabelaw01_FixqLaws.j0 k a0 a1 t235 t236 true)) else (astrolabelaw01_FixqLaws.j0 k a0 a1 t235 t236 true)) else (astrolabelaw01_FixqLaws.j0 k a0 a1 t235 t236 true)) else (astrolabelaw01_FixqLaws.j0 k a0 a1 t235 t236 true)))) = some r := H
    have A8 := Aside0.mk A80
    clear A80
    replace H := Option.bind_eq_some_iff.mp H
    obtain ⟨⟨t243, t244⟩, A90, H⟩ := H
    replace H : ((fixq_Div.f k a0 4294967296).bind fun bt245 => (if t235 = t237 then (if t236 = t238 then (if t239 = t241 then (if t240 = t242 then (if t243 = a0 then (if t244 = 0 then (if bt245.1 = a0 then (astrolabelaw01_FixqLaws.j0 k a0 a1 t235 t236 (bt245.2 != 0)) else (astrolabelaw01_FixqLaws.j0 k a0 a1 t235 t236 true)) else (astrolabelaw01_FixqLaws.j0 k a0 a1 t235 t236 true)) else (astrolabelaw01_FixqLaws.j0 k a0 a1 t235 t236 true)) else (astrolabelaw01_FixqLaws.j0 k a0 a1 t235 t236 true)) else (astrolabelaw01_FixqLaws.j0 k a0 a1 t235 t236 true)) else (astrolabelaw01_FixqLaws.j0 k a0 a1 t235 t236 true)) else (astrolabelaw01_FixqLaws.j0 k a0 a1 t235 t236 true))) = some r := H
    have A9 := Aside0.mk A90
    clear A90
    replace H := Option.bind_eq_some_iff.mp H
    obtain ⟨⟨t245, t246⟩, A100, H⟩ := H
    replace H : (if t235 = t237 then (if t236 = t238 then (if t239 = t241 then (if t240 = t242 then (if t243 = a0 then (if t244 = 0 then (if t245 = a0 then (astrolabelaw01_FixqLaws.j0 k a0 a1 t235 t236 (t246 != 0)) else (astrolabelaw01_FixqLaws.j0 k a0 a1 t235 t236 true)) else (astrolabelaw01_FixqLaws.j0 k a0 a1 t235 t236 true)) else (astrolabelaw01_FixqLaws.j0 k a0 a1 t235 t236 true)) else (astrolabelaw01_FixqLaws.j0 k a0 a1 t235 t236 true)) else (astrolabelaw01_FixqLaws.j0 k a0 a1 t235 t236 true)) else (astrolabelaw01_FixqLaws.j0 k a0 a1 t235 t236 true)) else (astrolabelaw01_FixqLaws.j0 k a0 a1 t235 t236 true)) = some r := H
    have A10 := Aside0.mk A100
    clear A100
    have HC11 := Aside0.mk H
    clear H
    go_enter Try.func5, Try.ntmps5
    go_upto_region 9 with (first | ((with_reducible refine gate_callee (f := 10) rfl ?_); refine goesL_ (some 19) rfl rfl Try.func10 (by kernel_rfl) rfl #[] rfl (by (try simp only [List.map_toArray, List.map_cons, List.map_nil]); first | done | rfl | (simp only [List.length_drop, List.length_take]; rfl)) ?_; (with_reducible refine (astrolabelaw01_alive.calls k  true _ A3.out).mono ?_); rintro e w12 ⟨rfl, hb⟩; refine ⟨_, rfl, ?_⟩; have n0_ := Aside0.mk (below_step (by repeat (first | (with_reducible first | exact HB.out | apply below_alloc | apply pw_below_drewN | apply below_drew1) | exact HB.out)) hb); clear HB; have HB := n0_; clear n0_; (try clear hb); (try clear hb2); (try clear hk); (try clear hi)) | ((with_reducible refine gate_callee (f := 16) rfl ?_); refine goesL_ (some 24) rfl rfl Try.func16 (by kernel_rfl) rfl #[.int .i64 a0, .int .i64 a1] rfl (by (try simp only [List.map_toArray, List.map_cons, List.map_nil]); first | done | rfl | (simp only [List.length_drop, List.length_take]; rfl)) ?_; (with_reducible refine (fixq_Add.calls a0 a1 t235 t236 _ A5.out).mono ?_); rintro e w' ⟨rfl, ⟨nd, rfl⟩⟩; refine ⟨_, rfl, ?_⟩) | ((with_reducible refine gate_callee (f := 16) rfl ?_); refine goesL_ (some 30) rfl rfl Try.func16 (by kernel_rfl) rfl #[.int .i64 a1, .int .i64 a0] rfl (by (try simp only [List.map_toArray, List.map_cons, List.map_nil]); first | done | rfl | (simp only [List.length_drop, List.length_take]; rfl)) ?_; (with_reducible refine (fixq_Add.calls a1 a0 t237 t238 _ A6.out).mono ?_); rintro e w' ⟨rfl, ⟨nd, rfl⟩⟩; refine ⟨_, rfl, ?_⟩) | ((with_reducible refine gate_callee (f := 19) rfl ?_); refine goesL_ (some 36) rfl rfl Try.func19 (by kernel_rfl) rfl #[.int .i64 a0, .int .i64 a1] rfl (by (try simp only [List.map_toArray, List.map_cons, List.map_nil]); first | done | rfl | (simp only [List.length_drop, List.length_take]; rfl)) ?_; (with_reducible refine (fixq_Mul.calls k a0 a1 t239 t240 _ A7.out).mono ?_); rintro e w' ⟨rfl, ⟨nd, rfl⟩⟩; refine ⟨_, rfl, ?_⟩) | ((with_reducible refine gate_callee (f := 19) rfl ?_); refine goesL_ (some 42) rfl rfl Try.func19 (by kernel_rfl) rfl #[.int .i64 a1, .int .i64 a0] rfl (by (try simp only [List.map_toArray, List.map_cons, List.map_nil]); first | done | rfl | (simp only [List.length_drop, List.length_take]; rfl)) ?_; (with_reducible refine (fixq_Mul.calls k a1 a0 t241 t242 _ A8.out).mono ?_); rintro e w' ⟨rfl, ⟨nd, rfl⟩⟩; refine ⟨_, rfl, ?_⟩) | ((with_reducible refine gate_callee (f := 19) rfl ?_); refine goesL_ (some 47) rfl rfl Try.func19 (by kernel_rfl) rfl #[.int .i64 a0, .int .i64 4294967296] rfl (by (try simp only [List.map_toArray, List.map_cons, List.map_nil]); first | done | rfl | (simp only [List.length_drop, List.length_take]; rfl)) ?_; (with_reducible refine (fixq_Mul.calls k a0 4294967296 t243 t244 _ A9.out).mono ?_); rintro e w' ⟨rfl, ⟨nd, rfl⟩⟩; refine ⟨_, rfl, ?_⟩) | ((with_reducible refine gate_callee (f := 18) rfl ?_); refine goesL_ (some 52) rfl rfl Try.func18 (by kernel_rfl) rfl #[.int .i64 a0, .int .i64 4294967296] rfl (by (try simp only [List.map_toArray, List.map_cons, List.map_nil]); first | done | rfl | (simp only [List.length_drop, List.length_take]; rfl)) ?_; (with_reducible refine (fixq_Div.calls k a0 4294967296 t245 t246 _ A10.out).mono ?_); rintro e w' ⟨rfl, ⟨nd, rfl⟩⟩; refine ⟨_, rfl, ?_⟩))
    (try simp only [Act.put, List.setIfInBounds_toArray, List.set_cons_zero, List.set_cons_succ])
    go_cut [90] (fun v90 wc => ∃ (kq : Nat) (x90_10 : Bool), v90 = .bool x90_10 ∧ Aside0 (astrolabelaw01_FixqLaws.j0 kq a0 a1 t235 t236 x90_10 = some r) ∧ Aside0 (kq ≤ k) ∧ Aside0 (Below w.heap.size w wc))
    case first =>
      have H := HC11.out
      clear HC11
      by_cases c13 : t235 = t237
      · rw [if_pos c13] at H
        have c13b0 : (t235 == t237) = true := beq_iff_eq.mpr c13
        have c13b1 : (t235 != t237) = false := bne_eq_false_iff_eq.mpr c13
        clear c13
        (first | rw [c13b0] | (simp only [i64_w, i32_w]; rw [c13b0]) | skip)
        by_cases c14 : t236 = t238
        · rw [if_pos c14] at H
          have c14b0 : (t236 == t238) = true := beq_iff_eq.mpr c14
          have c14b1 : (t236 != t238) = false := bne_eq_false_iff_eq.mpr c14
          clear c14
          by_cases c15 : t239 = t241
          · rw [if_pos c15] at H
            have c15b0 : (t239 == t241) = true := beq_iff_eq.mpr c15
            have c15b1 : (t239 != t241) = false := bne_eq_false_iff_eq.mpr c15
            clear c15
            by_cases c16 : t240 = t242
            · rw [if_pos c16] at H
              have c16b0 : (t240 == t242) = true := beq_iff_eq.mpr c16
              have c16b1 : (t240 != t242) = false := bne_eq_false_iff_eq.mpr c16
              clear c16
              by_cases c17 : t243 = a0
              · rw [if_pos c17] at H
                have c17b0 : (t243 == a0) = true := beq_iff_eq.mpr c17
                have c17b1 : (t243 != a0) = false := bne_eq_false_iff_eq.mpr c17
                clear c17
                by_cases c18 : t244 = 0
                · rw [if_pos c18] at H
                  have c18b0 : (t244 == 0) = true := beq_iff_eq.mpr c18
                  have c18b1 : (t244 != 0) = false := bne_eq_false_iff_eq.mpr c18
                  clear c18
                  by_cases c19 : t245 = a0
                  · rw [if_pos c19] at H
                    have c19b0 : (t245 == a0) = true := beq_iff_eq.mpr c19
                    have c19b1 : (t245 != a0) = false := bne_eq_false_iff_eq.mpr c19
                    clear c19
                    have H' := Aside0.mk H
                    clear H
                    go_wp2
                    go_meet
                    case rel => exact ⟨_, ((t246 != 0)), (by first | rfl | (simp; done) | (simp [*]; done)), H', ⟨by first | omega | exact Nat.le_refl _⟩, ⟨by repeat (first | (with_reducible first | exact HB.out | apply below_alloc | apply pw_below_drewN | apply below_drew1) | exact HB.out)⟩⟩
                  · rw [if_neg c19] at H
                    have c19b0 : (t245 == a0) = false := beq_eq_false_iff_ne.mpr c19
                    have c19b1 : (t245 != a0) = true := bne_iff_ne.mpr c19
                    have H' := Aside0.mk H
                    clear H
                    go_wp2
                    go_meet
                    case rel => exact ⟨_, (true), (by first | rfl | (simp; done) | (simp [*]; done)), H', ⟨by first | omega | exact Nat.le_refl _⟩, ⟨by repeat (first | (with_reducible first | exact HB.out | apply below_alloc | apply pw_below_drewN | apply below_drew1) | exact HB.out)⟩⟩
                · rw [if_neg c18] at H
                  have c18b0 : (t244 == 0) = false := beq_eq_false_iff_ne.mpr c18
                  have c18b1 : (t244 != 0) = true := bne_iff_ne.mpr c18
                  have H' := Aside0.mk H
                  clear H
                  go_wp2
                  go_meet
                  case rel => exact ⟨_, (true), (by first | rfl | (simp; done) | (simp [*]; done)), H', ⟨by first | omega | exact Nat.le_refl _⟩, ⟨by repeat (first | (with_reducible first | exact HB.out | apply below_alloc | apply pw_below_drewN | apply below_drew1) | exact HB.out)⟩⟩
              · rw [if_neg c17] at H
                have c17b0 : (t243 == a0) = false := beq_eq_false_iff_ne.mpr c17
                have c17b1 : (t243 != a0) = true := bne_iff_ne.mpr c17
                have H' := Aside0.mk H
                clear H
                go_wp2
                go_meet
                case rel => exact ⟨_, (true), (by first | rfl | (simp; done) | (simp [*]; done)), H', ⟨by first | omega | exact Nat.le_refl _⟩, ⟨by repeat (first | (with_reducible first | exact HB.out | apply below_alloc | apply pw_below_drewN | apply below_drew1) | exact HB.out)⟩⟩
            · rw [if_neg c16] at H
              have c16b0 : (t240 == t242) = false := beq_eq_false_iff_ne.mpr c16
              have c16b1 : (t240 != t242) = true := bne_iff_ne.mpr c16
              have H' := Aside0.mk H
              clear H
              go_wp2
              go_meet
              case rel => exact ⟨_, (true), (by first | rfl | (simp; done) | (simp [*]; done)), H', ⟨by first | omega | exact Nat.le_refl _⟩, ⟨by repeat (first | (with_reducible first | exact HB.out | apply below_alloc | apply pw_below_drewN | apply below_drew1) | exact HB.out)⟩⟩
          · rw [if_neg c15] at H
            have c15b0 : (t239 == t241) = false := beq_eq_false_iff_ne.mpr c15
            have c15b1 : (t239 != t241) = true := bne_iff_ne.mpr c15
            have H' := Aside0.mk H
            clear H
            go_wp2
            go_meet
            case rel => exact ⟨_, (true), (by first | rfl | (simp; done) | (simp [*]; done)), H', ⟨by first | omega | exact Nat.le_refl _⟩, ⟨by repeat (first | (with_reducible first | exact HB.out | apply below_alloc | apply pw_below_drewN | apply below_drew1) | exact HB.out)⟩⟩
        · rw [if_neg c14] at H
          have c14b0 : (t236 == t238) = false := beq_eq_false_iff_ne.mpr c14
          have c14b1 : (t236 != t238) = true := bne_iff_ne.mpr c14
          have H' := Aside0.mk H
          clear H
          go_wp2
          go_meet
          case rel => exact ⟨_, (true), (by first | rfl | (simp; done) | (simp [*]; done)), H', ⟨by first | omega | exact Nat.le_refl _⟩, ⟨by repeat (first | (with_reducible first | exact HB.out | apply below_alloc | apply pw_below_drewN | apply below_drew1) | exact HB.out)⟩⟩
      · rw [if_neg c13] at H
        have c13b0 : (t235 == t237) = false := beq_eq_false_iff_ne.mpr c13
        have c13b1 : (t235 != t237) = true := bne_iff_ne.mpr c13
        (first | rw [c13b0] | (simp only [i64_w, i32_w]; rw [c13b0]) | skip)
        have H' := Aside0.mk H
        clear H
        go_wp2
        go_meet
        case rel => exact ⟨_, (true), (by first | rfl | (simp; done) | (simp [*]; done)), H', ⟨by first | omega | exact Nat.le_refl _⟩, ⟨by repeat (first | (with_reducible first | exact HB.out | apply below_alloc | apply pw_below_drewN | apply below_drew1) | exact HB.out)⟩⟩
    case rest =>
      clear HC11
      try clear c1
      try clear p2
      try clear c4
      try clear c5
      try clear c10
      try clear c13
      try clear c13b0
      try clear c13b1
      try clear c14
      try clear c14b0
      try clear c14b1
      try clear c15
      try clear c15b0
      try clear c15b1
      try clear c16
      try clear c16b0
      try clear c16b1
      try clear c17
      try clear c17b0
      try clear c17b1
      try clear c18
      try clear c18b0
      try clear c18b1
      try clear c19
      try clear c19b0
      try clear c19b1
      obtain ⟨kq, x90_10, rfl, HA, HJ10, HB⟩ := hcut
      cases kq with
      | zero => exact absurd HA.out (by simp [astrolabelaw01_FixqLaws.j0])
      | succ kj10 =>
        have H := HA.out
        clear HA
        simp only [astrolabelaw01_FixqLaws.j0] at H
        by_cases c20 : x90_10 = true
        · subst c20
          have H1 : (some false) = some r := by rw [if_pos rfl] at H; exact H
          clear H
          have H := H1
          clear H1
          obtain rfl := Option.some.inj H
          go_wp2
          go_ret
          exact ⟨by first | rfl | (simp [errW_none, errW_some] <;> rfl) | (simp [*, errW_none, errW_some] <;> rfl), by repeat (first | (with_reducible first | exact HB.out | apply below_alloc | apply pw_below_drewN | apply below_drew1) | exact HB.out)⟩
        · replace c20 := Bool.eq_false_iff.mpr c20
          subst c20
          have H1 : (if t236 = 0 then ((fixq_Sub.f t235 a1).bind fun bt247 => (if bt247.1 = a0 then (some (bt247.2 == 0)) else (some false))) else (some true)) = some r := by rw [if_neg (show ¬ (false = true) by decide)] at H; exact H
          clear H
          have H := H1
          clear H1
          by_cases c21 : t236 = 0
          · rw [if_pos c21] at H
            have c21b0 : (t236 == 0) = true := beq_iff_eq.mpr c21
            have c21b1 : (t236 != 0) = false := bne_eq_false_iff_eq.mpr c21
            clear c21
            replace H := Option.bind_eq_some_iff.mp H
            obtain ⟨⟨t247, t248⟩, A220, H⟩ := H
            replace H : (if t247 = a0 then (some (t248 == 0)) else (some false)) = some r := H
            have A22 := Aside0.mk A220
            clear A220
            by_cases c23 : t247 = a0
            · rw [if_pos c23] at H
              have c23b0 : (t247 == a0) = true := beq_iff_eq.mpr c23
              have c23b1 : (t247 != a0) = false := bne_eq_false_iff_eq.mpr c23
              clear c23
              obtain rfl := Option.some.inj H
              go_wp2_with (first | ((with_reducible refine gate_callee (f := 20) rfl ?_); refine goesL_ (some 96) rfl rfl Try.func20 (by kernel_rfl) rfl #[.int .i64 t235, .int .i64 a1] rfl (by (try simp only [List.map_toArray, List.map_cons, List.map_nil]); first | done | rfl | (simp only [List.length_drop, List.length_take]; rfl)) ?_; (with_reducible refine (fixq_Sub.calls t235 a1 t247 t248 _ A22.out).mono ?_); rintro e w' ⟨rfl, ⟨nd, rfl⟩⟩; refine ⟨_, rfl, ?_⟩))
              go_ret
              exact ⟨by first | rfl | (simp [errW_none, errW_some] <;> rfl) | (simp [*, errW_none, errW_some] <;> rfl), by repeat (first | (with_reducible first | exact HB.out | apply below_alloc | apply pw_below_drewN | apply below_drew1) | exact HB.out)⟩
            · rw [if_neg c23] at H
              have c23b0 : (t247 == a0) = false := beq_eq_false_iff_ne.mpr c23
              have c23b1 : (t247 != a0) = true := bne_iff_ne.mpr c23
              obtain rfl := Option.some.inj H
              go_wp2_with (first | ((with_reducible refine gate_callee (f := 20) rfl ?_); refine goesL_ (some 96) rfl rfl Try.func20 (by kernel_rfl) rfl #[.int .i64 t235, .int .i64 a1] rfl (by (try simp only [List.map_toArray, List.map_cons, List.map_nil]); first | done | rfl | (simp only [List.length_drop, List.length_take]; rfl)) ?_; (with_reducible refine (fixq_Sub.calls t235 a1 t247 t248 _ A22.out).mono ?_); rintro e w' ⟨rfl, ⟨nd, rfl⟩⟩; refine ⟨_, rfl, ?_⟩))
              go_ret
              exact ⟨by first | rfl | (simp [errW_none, errW_some] <;> rfl) | (simp [*, errW_none, errW_some] <;> rfl), by repeat (first | (with_reducible first | exact HB.out | apply below_alloc | apply pw_below_drewN | apply below_drew1) | exact HB.out)⟩
          · rw [if_neg c21] at H
            have c21b0 : (t236 == 0) = false := beq_eq_false_iff_ne.mpr c21
            have c21b1 : (t236 != 0) = true := bne_iff_ne.mpr c21
            obtain rfl := Option.some.inj H
            go_wp2
            go_ret
            exact ⟨by first | rfl | (simp [errW_none, errW_some] <;> rfl) | (simp [*, errW_none, errW_some] <;> rfl), by repeat (first | (with_reducible first | exact HB.out | apply below_alloc | apply pw_below_drewN | apply below_drew1) | exact HB.out)⟩
  · replace c4 := Bool.eq_false_iff.mpr c4
    subst c4
    have H1 : (some false) = some r := by rw [if_neg (show ¬ (false = true) by decide)] at H; exact H
    clear H
    have H := H1
    clear H1
    obtain rfl := Option.some.inj H
    go_enter Try.func5, Try.ntmps5
    go_wp2_with (first | ((with_reducible refine gate_callee (f := 10) rfl ?_); refine goesL_ (some 19) rfl rfl Try.func10 (by kernel_rfl) rfl #[] rfl (by (try simp only [List.map_toArray, List.map_cons, List.map_nil]); first | done | rfl | (simp only [List.length_drop, List.length_take]; rfl)) ?_; (with_reducible refine (astrolabelaw01_alive.calls k  false _ A3.out).mono ?_); rintro e w24 ⟨rfl, hb⟩; refine ⟨_, rfl, ?_⟩; have n0_ := Aside0.mk (below_step (by repeat (first | (with_reducible first | exact HB.out | apply below_alloc | apply pw_below_drewN | apply below_drew1) | exact HB.out)) hb); clear HB; have HB := n0_; clear n0_; (try clear hb); (try clear hb2); (try clear hk); (try clear hi)))
    go_ret
    exact ⟨by first | rfl | (simp [errW_none, errW_some] <;> rfl) | (simp [*, errW_none, errW_some] <;> rfl), by repeat (first | (with_reducible first | exact HB.out | apply below_alloc | apply pw_below_drewN | apply below_drew1) | exact HB.out)⟩

/-- THE ONE PURE STATEMENT of astrolabelaw01_FixqLaws: yours. -/
def astrolabelaw01_FixqLaws.Pure : Prop := ∀ (a0 : Int) (a1 : Int), (Lit.int .i64 a0).wf = true → (Lit.int .i64 a1).wf = true → ∃ k, astrolabelaw01_FixqLaws.f k a0 a1 = some true
theorem astrolabelaw01_FixqLaws.walk (P : astrolabelaw01_FixqLaws.Pure) (a0 : Int) (a1 : Int) (w : World) (w0 : (Lit.int .i64 a0).wf = true) (w1 : (Lit.int .i64 a1).wf = true) :
    Calls Try.prog 5 #[.int .i64 a0, .int .i64 a1] w fun e w' => e = .returned (.bool true) ∧ Below w.heap.size w w' := by
  obtain ⟨k, h⟩ := P a0 a1 w0 w1
  refine (astrolabelaw01_FixqLaws.calls k a0 a1 true w h).mono ?_
  rintro e w' ⟨rfl, hd⟩
  exact ⟨rfl, hd⟩

/-! ### fixq_Neg: function 21 -/
def fixq_Neg.f (a0 : Int) : Option (Int × Int) := (fixq_Sub.f 0 a0).bind fun bt249 => (some (bt249.1, bt249.2))
set_option maxHeartbeats 8000000 in
set_option maxRecDepth 100000 in
theorem fixq_Neg.calls (a0 : Int) (r1 : Int) (r2 : Int) (w : World) (h : fixq_Neg.f a0 = some (r1, r2)) :
    Calls Try.prog 21 #[.int .i64 a0] w fun e w' => e = .returned (.tuple #[.int .i64 r1, .int .i64 r2]) ∧ Drawn0 w w' := by
  have H : ((fixq_Sub.f 0 a0).bind fun bt249 => (some (bt249.1, bt249.2))) = some (r1, r2) := h
  clear h
  replace H := Option.bind_eq_some_iff.mp H
  obtain ⟨⟨t249, t250⟩, A20, H⟩ := H
  replace H : (some (t249, t250)) = some (r1, r2) := H
  have A2 := Aside0.mk A20
  clear A20
  simp only [Option.some.injEq, Prod.mk.injEq] at H
  obtain ⟨rfl, rfl⟩ := H
  go_enter Try.func21, Try.ntmps21
  go_wp2_with (first | ((with_reducible refine gate_callee (f := 20) rfl ?_); refine goesL_ (some 5) rfl rfl Try.func20 (by kernel_rfl) rfl #[.int .i64 0, .int .i64 a0] rfl (by (try simp only [List.map_toArray, List.map_cons, List.map_nil]); first | done | rfl | (simp only [List.length_drop, List.length_take]; rfl)) ?_; (with_reducible refine (fixq_Sub.calls 0 a0 t249 t250 _ A2.out).mono ?_); rintro e w' ⟨rfl, ⟨nd, rfl⟩⟩; refine ⟨_, rfl, ?_⟩))
  go_ret2
  exact ⟨by first | rfl | (simp; done) | (simp [*]; done), by repeat (first | exact Drawn0.refl _ | apply Drawn0.step)⟩

/-! ### astrolaberef01_Held: function 24 -/
mutual
def astrolaberef01_Held.j0 : Nat → List Bool → Int → Bool → List Bool → Bool → Option (Int × Int)
  | 0, _, _, _, _, _ => none
  | k + 1, x4, x6, x23, x252000, x252001 => if x23 = true then (some ((-9223372036854775808), 0)) else (if x6 ≥ 0 then (if x252001 = true then (some ((-9223372036854775808), 1)) else (some (9223372036854775807, 1))) else (astrolaberef01_Held.l0 k x4 0 (wrap64 ((x4.length : Int) - 1)) x252000 x252001))
def astrolaberef01_Held.l0 : Nat → List Bool → Int → Int → List Bool → Bool → Option (Int × Int)
  | 0, _, _, _, _, _ => none
  | k + 1, x4, x7, x8, x252000, x252001 => if x8 ≥ 0 then (if 0 ≤ x8 then (if x8 < (x4.length : Int) then (if rdOf false x4 x8 = true then (astrolaberef01_Held.l0 k x4 (wrap64 ((wrap64 (2 * x7)) + 1)) (wrap64 (x8 - 1)) x252000 x252001) else (astrolaberef01_Held.l0 k x4 (wrap64 (2 * x7)) (wrap64 (x8 - 1)) x252000 x252001)) else (none)) else (none)) else (if x252001 = true then (some (wrap64 (-x7), 0)) else (some (x7, 0)))
end
def astrolaberef01_Held.f (k : Nat) (l0_0 : List Bool) (a0_1 : Bool) : Option (Int × Int) := (astrolaberef01_trim.f k l0_0).bind fun t252 => (if 64 ≤ 281474976710656 then ((some (List.replicate 64 false : List Bool)).bind fun y255 => (if 63 < (y255.length : Int) then ((astrolaberef01_Cmp.f k t252 (y255.set (63 : Int).toNat true)).bind fun t259 => (if a0_1 = true then (astrolaberef01_Held.j0 k t252 t259 (t259 == 0) l0_0 a0_1) else (astrolaberef01_Held.j0 k t252 t259 false l0_0 a0_1))) else (none))) else (none))
theorem astrolaberef01_Held.mono_l : ∀ k, (∀ y0 y1 y2 y3 y4, LeO (astrolaberef01_Held.j0 k y0 y1 y2 y3 y4) (astrolaberef01_Held.j0 (k + 1) y0 y1 y2 y3 y4)) ∧ (∀ y0 y1 y2 y3 y4, LeO (astrolaberef01_Held.l0 k y0 y1 y2 y3 y4) (astrolaberef01_Held.l0 (k + 1) y0 y1 y2 y3 y4))
  | 0 => ⟨fun _ _ _ _ _ r h => by simp [astrolaberef01_Held.j0] at h, fun _ _ _ _ _ r h => by simp [astrolaberef01_Held.l0] at h⟩
  | k + 1 => by
    obtain ⟨ih0, ih1⟩ := astrolaberef01_Held.mono_l k
    refine ⟨?_, ?_⟩
    · intro y0 y1 y2 y3 y4
      unfold astrolaberef01_Held.j0
      repeat' first
      | (with_reducible exact ih0 _ _ _ _ _)
      | (with_reducible exact ih1 _ _ _ _ _)
      | (with_reducible exact astrolaberef01_Cmp.mono _ _ _)
      | (with_reducible exact astrolaberef01_trim.mono _ _)
      | (with_reducible exact LeO.refl _)
      | (with_reducible exact LeO.none _)
      | (with_reducible refine LeO.ite ?_ ?_)
      | (with_reducible refine LeO.bind ?_ (fun _ => ?_))
      | exact ih0 _ _ _ _ _
      | exact ih1 _ _ _ _ _
      | exact astrolaberef01_Cmp.mono _ _ _
      | exact astrolaberef01_trim.mono _ _
      | exact LeO.none _
      | refine LeO.ite ?_ ?_
      | refine LeO.bind ?_ (fun _ => ?_)
    · intro y0 y1 y2 y3 y4
      unfold astrolaberef01_Held.l0
      repeat' first
      | (with_reducible exact ih0 _ _ _ _ _)
      | (with_reducible exact ih1 _ _ _ _ _)
      | (with_reducible exact astrolaberef01_Cmp.mono _ _ _)
      | (with_reducible exact astrolaberef01_trim.mono _ _)
      | (with_reducible exact LeO.refl _)
      | (with_reducible exact LeO.none _)
      | (with_reducible refine LeO.ite ?_ ?_)
      | (with_reducible refine LeO.bind ?_ (fun _ => ?_))
      | exact ih0 _ _ _ _ _
      | exact ih1 _ _ _ _ _
      | exact astrolaberef01_Cmp.mono _ _ _
      | exact astrolaberef01_trim.mono _ _
      | exact LeO.none _
      | refine LeO.ite ?_ ?_
      | refine LeO.bind ?_ (fun _ => ?_)
theorem astrolaberef01_Held.mono : ∀ a0 a1 k, LeO (astrolaberef01_Held.f k a0 a1) (astrolaberef01_Held.f (k + 1) a0 a1) := by
  intro a0 a1 k
  obtain ⟨ih0, ih1⟩ := astrolaberef01_Held.mono_l k
  unfold astrolaberef01_Held.f
  repeat' first
      | (with_reducible exact ih0 _ _ _ _ _)
      | (with_reducible exact ih1 _ _ _ _ _)
      | (with_reducible exact astrolaberef01_Cmp.mono _ _ _)
      | (with_reducible exact astrolaberef01_trim.mono _ _)
      | (with_reducible exact LeO.refl _)
      | (with_reducible exact LeO.none _)
      | (with_reducible refine LeO.ite ?_ ?_)
      | (with_reducible refine LeO.bind ?_ (fun _ => ?_))
      | exact ih0 _ _ _ _ _
      | exact ih1 _ _ _ _ _
      | exact astrolaberef01_Cmp.mono _ _ _
      | exact astrolaberef01_trim.mono _ _
      | exact LeO.none _
      | refine LeO.ite ?_ ?_
      | refine LeO.bind ?_ (fun _ => ?_)
set_option maxHeartbeats 8000000 in
set_option maxRecDepth 100000 in
theorem astrolaberef01_Held.calls (k : Nat) (A0_0 : Option Addr) (c0_0 : Nat) (l0_0 : List Bool) (a0_1 : Bool) (r1 : Int) (r2 : Int) (w : World) (hr0_0 : Kd.C Kd.bool w A0_0 l0_0.length l0_0) (hc0_0 : l0_0.length ≤ c0_0) (h : astrolaberef01_Held.f k l0_0 a0_1 = some (r1, r2)) :
    Calls Try.prog 24 #[.agg #[.slice A0_0 l0_0.length c0_0, .bool a0_1]] w fun e w' => e = .returned (.tuple #[.int .i64 r1, .int .i64 r2]) ∧ Below w.heap.size w w' := by
  have hu27 := Try.underlying27
  have HR0_0 := Aside0.mk hr0_0
  have HC0_0 := Aside0.mk hc0_0
  clear hr0_0 hc0_0
  have HB := Aside0.mk (Below.refl w.heap.size w)
  have H : ((astrolaberef01_trim.f k l0_0).bind fun t252 => (if 64 ≤ 281474976710656 then ((some (List.replicate 64 false : List Bool)).bind fun y255 => (if 63 < (y255.length : Int) then ((astrolaberef01_Cmp.f k t252 (y255.set (63 : Int).toNat true)).bind fun t259 => (if a0_1 = true then (astrolaberef01_Held.j0 k t252 t259 (t259 == 0) l0_0 a0_1) else (astrolaberef01_Held.j0 k t252 t259 false l0_0 a0_1))) else (none))) else (none))) = some (r1, r2) := h
  clear h
  replace H := Option.bind_eq_some_iff.mp H
  obtain ⟨t252, A20, H⟩ := H
  replace H : (if 64 ≤ 281474976710656 then ((some (List.replicate 64 false : List Bool)).bind fun y255 => (if 63 < (y255.length : Int) then ((astrolaberef01_Cmp.f k t252 (y255.set (63 : Int).toNat true)).bind fun t259 => (if a0_1 = true then (astrolaberef01_Held.j0 k t252 t259 (t259 == 0) l0_0 a0_1) else (astrolaberef01_Held.j0 k t252 t259 false l0_0 a0_1))) else (none))) else (none)) = some (r1, r2) := H
  have A2 := Aside0.mk A20
  clear A20
  by_cases c3 : 64 ≤ 281474976710656
  · rw [if_pos c3] at H
    have c3b0 := eq_true c3
    have c3b1 : decide (64 ≤ 281474976710656) = true := decide_eq_true c3
    clear c3
    obtain ⟨y255, hy255⟩ : ∃ y_ : List Bool, y_ = (List.replicate 64 false) := ⟨_, rfl⟩
    replace H : (if 63 < (y255.length : Int) then ((astrolaberef01_Cmp.f k t252 (y255.set (63 : Int).toNat true)).bind fun t259 => (if a0_1 = true then (astrolaberef01_Held.j0 k t252 t259 (t259 == 0) l0_0 a0_1) else (astrolaberef01_Held.j0 k t252 t259 false l0_0 a0_1))) else (none)) = some (r1, r2) := by first | (rw [hy255]; with_reducible exact H) | (have H2_ := (Option.bind_some _ _).symm.trans H; rw [hy255]; with_reducible exact H2_) | (have H2_ := (Option.bind_some _ _).symm.trans H; with_reducible exact H2_) | with_reducible exact H | (rw [hy255]; exact H) | exact H
    have Ny255 := Aside0.mk hy255
    clear hy255
    by_cases c4 : 63 < (y255.length : Int)
    · rw [if_pos c4] at H
      have c4b0 : decide (63 < (y255.length : Int)) = true := decide_eq_true c4
      have c4b1 : decide (63 < y255.length) = true := decide_eq_true (by omega)
      clear c4
      obtain ⟨y258, hy258⟩ : ∃ y_ : List Bool, y_ = (y255.set (63 : Int).toNat true) := ⟨_, rfl⟩
      replace H : ((astrolaberef01_Cmp.f k t252 y258).bind fun t259 => (if a0_1 = true then (astrolaberef01_Held.j0 k t252 t259 (t259 == 0) l0_0 a0_1) else (astrolaberef01_Held.j0 k t252 t259 false l0_0 a0_1))) = some (r1, r2) := by first | (rw [hy258]; with_reducible exact H) | (have H2_ := (Option.bind_some _ _).symm.trans H; rw [hy258]; with_reducible exact H2_) | (have H2_ := (Option.bind_some _ _).symm.trans H; with_reducible exact H2_) | with_reducible exact H | (rw [hy258]; exact H) | exact H
      have Ny258 := Aside0.mk hy258
      clear hy258
      replace H := Option.bind_eq_some_iff.mp H
      obtain ⟨t259, A60, H⟩ := H
      replace H : (if a0_1 = true then (astrolaberef01_Held.j0 k t252 t259 (t259 == 0) l0_0 a0_1) else (astrolaberef01_Held.j0 k t252 t259 false l0_0 a0_1)) = some (r1, r2) := H
      have A6 := Aside0.mk A60
      clear A60
      have HC7 := Aside0.mk H
      clear H
      go_enter Try.func24, Try.ntmps24
      go_upto_region 5 with (first | ((with_reducible refine gate_dst (N := 1) rfl ?_); refine box_event ?hg (N := 1) ?hd (cs := #[.slice A0_0 l0_0.length c0_0, .bool a0_1]) (t := 27) ?hr ?_; (case hd => rfl); (case hg => rfl); (case hr => first | (go_simp; done) | (go_simp; rfl)); intro gb251 hg w8 hbox hb; have n0_ := Aside0.mk (below_step (by repeat (first | (with_reducible first | exact HB.out | apply below_alloc | apply pw_below_drewN | apply below_drew1) | exact HB.out)) hb); have n1_ := Aside0.mk (hbox); have n2_ := Aside0.mk ((by rw [hg]; exact (below_size (by repeat (first | (with_reducible first | exact HB.out | apply below_alloc | apply pw_below_drewN | apply below_drew1) | exact HB.out))) : w.heap.size ≤ gb251)); have n3_ := Aside0.mk ((by rw [hg]; exact (below_size (by repeat (first | (with_reducible first | exact HB.out | apply below_alloc | apply pw_below_drewN | apply below_drew1) | exact HB.out))) : w.heap.size ≤ gb251)); clear HB; have HB := n0_; have BK251 := n1_; have GW251 := n2_; have GE251 := n3_; clear n0_ n1_ n2_ n3_; clear hb hbox hg; have hcz9_0 : w8.cell? ⟨gb251, 0, none⟩ = some (.slice A0_0 l0_0.length c0_0) := (blk_cell BK251.out 0).trans rfl; have hcz9_1 : w8.cell? ⟨gb251, 1, none⟩ = some (.bool a0_1) := (blk_cell BK251.out 1).trans rfl; have hfz9_0 := blk_frozen BK251.out 0; have hfz9_1 := blk_frozen BK251.out 1) | ((with_reducible refine gate_callee (f := 32) rfl ?_); refine goesL_ (some 11) rfl rfl Try.func32 (by kernel_rfl) rfl #[.slice A0_0 l0_0.length c0_0] rfl (by (try simp only [List.map_toArray, List.map_cons, List.map_nil]); first | done | rfl | (simp only [List.length_drop, List.length_take]; rfl)) ?_; (with_reducible refine (astrolaberef01_trim.calls k (fun k_ => k_ < w.heap.size) _ _ l0_0 t252 _ ?side1 A2.out).mono ?_); (case side1 => exact Kd.V_mk HC0_0.out (Kd.F_below (Kd.C_F Kd.heap_bool HR0_0.out) (by repeat (first | (with_reducible first | exact HB.out | apply below_alloc | apply pw_below_drewN | apply below_drew1 | refine below_set ?_ GE251.out) | exact HB.out)))); rintro e w10 ⟨v253, rfl, ho0, hb⟩; refine ⟨_, rfl, ?_⟩; have n0_ := Aside0.mk (Kd.V_lower (Kd.V_mono (ok' := fun k_ => k_ ≠ gb251) ho0 (fun k_ hk_ => Or.elim hk_ (fun hs_ => fun e_ => Nat.not_le.2 hs_ (by rw [e_]; exact GW251.out)) (fun hn_ => (Kd.freshB (g := gb251) (o := .cells #[.slice A0_0 l0_0.length c0_0, .bool a0_1] 27 (0, 0)) (by (with_reducible repeat (first | refine blk_drewN ?_ _ | refine blk_drew ?_ | refine blk_alloc ?_ _)); exact BK251.out) k_ hn_)))) (below_size (by repeat (first | (with_reducible first | exact HB.out | apply below_alloc | apply pw_below_drewN | apply below_drew1 | refine below_set ?_ GE251.out) | exact HB.out)))); have n1_ := Aside0.mk (blk_below (g := gb251) (o := .cells #[.slice A0_0 l0_0.length c0_0, .bool a0_1] 27 (0, 0)) (by (with_reducible repeat (first | refine blk_drewN ?_ _ | refine blk_drew ?_ | refine blk_alloc ?_ _)); exact BK251.out) hb); have n2_ := Aside0.mk (below_step (by repeat (first | (with_reducible first | exact HB.out | apply below_alloc | apply pw_below_drewN | apply below_drew1 | refine below_set ?_ GE251.out) | exact HB.out)) hb); clear BK251; clear HB; have HO254 := n0_; have BK251 := n1_; have HB := n2_; clear n0_ n1_ n2_; (try clear hb); (try clear hb2); (try clear hk); (try clear hi); (try clear ho0)) | ((with_reducible refine gate_dst (N := 12) rfl ?_); refine Kd.R_make Kd.bool _ 4 rfl (N := 12) rfl 25 _ _ rfl 64 rfl rfl Try.underlying25 (.bool false) 1 info4 rfl (by decide) (by omega) false (ok := fun _ => True) (okp := fun _ => True) rfl (fun _ hk => hk) trivial (by omega) (by omega) (Below.refl _ _) (Nat.le_refl _) ?_; intro v256 w11 ho12 hb hg_ hnew_; clear hg_ hnew_; (first | rw [← Ny255.out] at ho12 | (simp only [Int.reduceToNat] at ho12; rw [← Ny255.out] at ho12)); have n0_ := Aside0.mk (Kd.V_elder' (by (with_reducible repeat (first | apply Kd.V_alloc | apply Kd.V_drewN | apply Kd.V_drew)); exact HO254.out) (Kd.R_base ho12) hb); have n1_ := Aside0.mk (Kd.R_lower ho12 (below_size (by repeat (first | (with_reducible first | exact HB.out | apply below_alloc | apply pw_below_drewN | apply below_drew1 | refine below_set ?_ GE251.out) | exact HB.out)))); have n2_ := Aside0.mk (blk_below (g := gb251) (o := .cells #[.slice A0_0 l0_0.length c0_0, .bool a0_1] 27 (0, 0)) (by (with_reducible repeat (first | refine blk_drewN ?_ _ | refine blk_drew ?_ | refine blk_alloc ?_ _)); exact BK251.out) hb); have n3_ := Aside0.mk (below_step (by repeat (first | (with_reducible first | exact HB.out | apply below_alloc | apply pw_below_drewN | apply below_drew1 | refine below_set ?_ GE251.out) | exact HB.out)) hb); clear HO254; clear BK251; clear HB; have HO254 := n0_; have HO257 := n1_; have BK251 := n2_; have HB := n3_; clear n0_ n1_ n2_ n3_; clear hb ho12; have p5 : 0 ≤ (63 : Int) := (by omega); have q5 : (63 : Int) < ((y255.length : Int) : Int) := of_decide_eq_true (by first | (with_reducible assumption) | assumption); have qi5 : (63 < y255.length) = True := eq_true (by omega); obtain ⟨go5, co5, eo5, gb5, gl5, cl5, HG5⟩ := Kd.R_form HO257.out (by omega); (first | cases eo5 | (injection eo5 with ea_ en_ ec_; (first | subst ea_ | (injection ea_ with ea_; subst ea_)); subst ec_; clear en_)); have GB5 := Aside0.mk gb5; have GG5 := Aside0.mk HG5; clear gb5 gl5 HG5; obtain ⟨hx5_0, hf5_0⟩ := Kd.R_celln false HO257.out (63 : Int) p5 q5; (try rw [show ((63 : Int)).toNat = 63 from rfl] at hx5_0); (try simp only [Nat.reduceMul, Nat.zero_mul, Nat.zero_add, Nat.reduceAdd] at hx5_0); (try rw [show ((63 : Int)).toNat = 63 from rfl] at hf5_0); (try simp only [Nat.reduceMul, Nat.zero_mul, Nat.zero_add, Nat.reduceAdd] at hf5_0); replace p5 := eq_true p5; replace q5 := eq_true q5; obtain ⟨hy13_, hz13_⟩ := Kd.R_celln false HO257.out (63 : Int) (by omega) (of_decide_eq_true (by first | (with_reducible assumption) | assumption)); (try simp only [Int.reduceToNat, Int.toNat_zero, Int.toNat_ofNat, Nat.reduceMul, Nat.zero_mul, Nat.zero_add] at hy13_ hz13_); (try rw [show ((63 : Int)).toNat = 63 from rfl] at hy13_); (try rw [show ((63 : Int)).toNat = 63 from rfl] at hz13_); have HP13 := Kd.R_putg HO257.out (63 : Int) true) | ((with_reducible refine gate_store (t := 4) (p := 14) rfl ?_); refine store_event (t := 4) (p := 14) (v := ?vo_w14) (w1 := (w11.setCell ⟨go5, (63 : Int).toNat, none⟩ (.bool true))) ?hg ?ho ?hn ?hr ?_; (case ho => rfl); (case hg => rfl); (case hn => rfl); (case hr => first | (go_simp; done) | (go_simp; rfl)); intro w14 hw; have hg : w11.grownBy w14 (some go5) := (by rw [hw]; exact HP13.2); have hp_ : Kd.R Kd.bool 4 w14 w.heap.size (fun _ => True) (.slice (some ⟨go5, 0, none⟩) y255.length co5) y258 := (by rw [hw, Ny258.out]; exact HP13.1); clear HP13; have n0_ := Aside0.mk (blk_grown (g := gb251) (o := .cells #[.slice A0_0 l0_0.length c0_0, .bool a0_1] 27 (0, 0)) (by (with_reducible repeat (first | refine blk_drewN ?_ _ | refine blk_drew ?_ | refine blk_alloc ?_ _)); exact BK251.out) hg (Kd.R_ne HO257.out BK251.out (by decide))); have n1_ := Aside0.mk (Kd.V_afterv (v := (.slice (some ⟨go5, 0, none⟩) y255.length co5)) (v1 := (.slice (some ⟨go5, 0, none⟩) y255.length co5)) (ok := (fun k_ => k_ ≠ gb251)) (by (with_reducible repeat (first | apply Kd.V_alloc | apply Kd.V_drewN | apply Kd.V_drew)); exact HO254.out) hg (.inl rfl)); have n2_ := Aside0.mk (hp_); have n3_ := Aside0.mk ((by rw [hw]; exact below_set (HB.out) GB5.out : Below w.heap.size w w14)); clear BK251; clear HO254; clear HO257; clear HB; have BK251 := n0_; have HO254 := n1_; have HO257 := n2_; have HB := n3_; clear n0_ n1_ n2_ n3_; clear hg hw hp_; obtain ⟨Ao15, co15, eo15⟩ := Kd.V_slice HO254.out; subst eo15) | ((with_reducible refine gate_callee (f := 14) rfl ?_); refine goesL_ (some 17) rfl rfl Try.func14 (by kernel_rfl) rfl #[.slice Ao15 t252.length co15, .slice (some ⟨go5, 0, none⟩) y258.length co5] rfl (by (try simp only [List.map_toArray, List.map_cons, List.map_nil]); first | done | (rw [show y258.length = y255.length from (Kd.R_reads' HO257.out).1.symm] <;> rfl) | rfl | (simp only [List.length_drop, List.length_take]; rfl)) ?_; (with_reducible refine (astrolaberef01_Cmp.calls k _ _ t252 _ _ y258 t259 _ ?side1 ?side2 ?side3 ?side4 A6.out).mono ?_); (case side1 => repeat (first | exact (Kd.V_reads' HO254.out).2.2 | (with_reducible refine Kd.C_alloc ?_ _) | (with_reducible refine Kd.C_drewN ?_ _) | (with_reducible refine Kd.C_drew ?_))); (case side2 => exact (Kd.V_reads' HO254.out).2.1); (case side3 => repeat (first | exact (Kd.R_reads' HO257.out).2.2 | (with_reducible refine Kd.C_alloc ?_ _) | (with_reducible refine Kd.C_drewN ?_ _) | (with_reducible refine Kd.C_drew ?_))); (case side4 => rw [show y258.length = y255.length from (Kd.R_reads' HO257.out).1.symm]; exact (Kd.R_reads' HO257.out).2.1); rintro e w16 ⟨rfl, hb⟩; refine ⟨_, rfl, ?_⟩; have n0_ := Aside0.mk (Kd.V_below (by (with_reducible repeat (first | apply Kd.V_alloc | apply Kd.V_drewN | apply Kd.V_drew)); exact HO254.out) hb); have n1_ := Aside0.mk (Kd.R_below (by (with_reducible repeat (first | apply Kd.R_alloc | apply Kd.R_drewN | apply Kd.R_drew)); exact HO257.out) hb); have n2_ := Aside0.mk (blk_below (g := gb251) (o := .cells #[.slice A0_0 l0_0.length c0_0, .bool a0_1] 27 (0, 0)) (by (with_reducible repeat (first | refine blk_drewN ?_ _ | refine blk_drew ?_ | refine blk_alloc ?_ _)); exact BK251.out) hb); have n3_ := Aside0.mk (below_step (by repeat (first | (with_reducible first | exact HB.out | apply below_alloc | apply pw_below_drewN | apply below_drew1 | refine below_set ?_ GE251.out) | exact HB.out)) hb); clear HO254; clear HO257; clear BK251; clear HB; have HO254 := n0_; have HO257 := n1_; have BK251 := n2_; have HB := n3_; clear n0_ n1_ n2_ n3_; (try clear hb); (try clear hb2); (try clear hk); (try clear hi)))
      (try simp only [Act.put, List.setIfInBounds_toArray, List.set_cons_zero, List.set_cons_succ])
      go_cut [23] (fun v23 wc => ∃ (kq : Nat) (x23_6 : Bool), v23 = .bool x23_6 ∧ Aside0 (astrolaberef01_Held.j0 kq t252 t259 x23_6 l0_0 a0_1 = some (r1, r2)) ∧ Aside0 (kq ≤ k) ∧ Aside0 (Kd.V Kd.bool 4 wc w.heap.size (fun k_ => k_ ≠ gb251) (.slice Ao15 t252.length co15) t252) ∧ Aside0 (wc.heap[gb251]? = some (.cells #[(.slice A0_0 l0_0.length c0_0), .bool a0_1] 27 (0, 0))) ∧ Aside0 (Below w.heap.size w wc))
      case first =>
        have H := HC7.out
        clear HC7
        by_cases c17 : a0_1 = true
        · subst c17
          have H1 : (astrolaberef01_Held.j0 k t252 t259 (t259 == 0) l0_0 true) = some (r1, r2) := by rw [if_pos rfl] at H; exact H
          clear H
          have H := H1
          clear H1
          have H' := Aside0.mk H
          clear H
          have hcz18_0 : w16.cell? ⟨gb251, 0, none⟩ = some (.slice A0_0 l0_0.length c0_0) := (blk_cell BK251.out 0).trans rfl
          have hcz18_1 : w16.cell? ⟨gb251, 1, none⟩ = some (.bool true) := (blk_cell BK251.out 1).trans rfl
          have hfz18_0 := blk_frozen BK251.out 0
          have hfz18_1 := blk_frozen BK251.out 1
          go_wp2
          go_meet
          case rel => exact ⟨_, ((t259 == 0)), (by first | rfl | (simp; done) | (simp [*]; done)), H', ⟨by first | omega | exact Nat.le_refl _⟩, ⟨by (with_reducible repeat (first | apply Kd.V_alloc | apply Kd.V_drewN | apply Kd.V_drew)); exact Kd.V_mono HO254.out (fun _ hk => hk.1)⟩, ⟨by (with_reducible repeat (first | refine blk_drewN ?_ _ | refine blk_drew ?_ | refine blk_alloc ?_ _)); exact BK251.out⟩, ⟨by repeat (first | (with_reducible first | exact HB.out | apply below_alloc | apply pw_below_drewN | apply below_drew1 | refine below_set ?_ GE251.out) | exact HB.out)⟩⟩
        · replace c17 := Bool.eq_false_iff.mpr c17
          subst c17
          have H1 : (astrolaberef01_Held.j0 k t252 t259 false l0_0 false) = some (r1, r2) := by rw [if_neg (show ¬ (false = true) by decide)] at H; exact H
          clear H
          have H := H1
          clear H1
          have H' := Aside0.mk H
          clear H
          have hcz19_0 : w16.cell? ⟨gb251, 0, none⟩ = some (.slice A0_0 l0_0.length c0_0) := (blk_cell BK251.out 0).trans rfl
          have hcz19_1 : w16.cell? ⟨gb251, 1, none⟩ = some (.bool false) := (blk_cell BK251.out 1).trans rfl
          have hfz19_0 := blk_frozen BK251.out 0
          have hfz19_1 := blk_frozen BK251.out 1
          go_wp2
          go_meet
          case rel => exact ⟨_, (false), (by first | rfl | (simp; done) | (simp [*]; done)), H', ⟨by first | omega | exact Nat.le_refl _⟩, ⟨by (with_reducible repeat (first | apply Kd.V_alloc | apply Kd.V_drewN | apply Kd.V_drew)); exact Kd.V_mono HO254.out (fun _ hk => hk.1)⟩, ⟨by (with_reducible repeat (first | refine blk_drewN ?_ _ | refine blk_drew ?_ | refine blk_alloc ?_ _)); exact BK251.out⟩, ⟨by repeat (first | (with_reducible first | exact HB.out | apply below_alloc | apply pw_below_drewN | apply below_drew1 | refine below_set ?_ GE251.out) | exact HB.out)⟩⟩
      case rest =>
        clear HC7
        try clear c1
        try clear c2
        try clear p2
        try clear c3
        try clear c3b0
        try clear c3b1
        try clear c4
        try clear c4b0
        try clear c4b1
        try clear p5
        try clear q5
        try clear hx5
        try clear qi5
        try clear hf5
        try clear c14
        try clear c17
        try clear hcz18_0
        try clear hcz18_1
        try clear hcz19_0
        try clear hcz19_1
        try clear hcz9_0
        try clear hcz9_1
        try clear hfz18_0
        try clear hfz18_1
        try clear hfz19_0
        try clear hfz19_1
        try clear hfz9_0
        try clear hfz9_1
        try clear hx5_0
        try clear p5
        try clear q5
        obtain ⟨kq, x23_6, rfl, HA, HJ6, HO_4, BK251, HB⟩ := hcut
        cases kq with
        | zero => exact absurd HA.out (by simp [astrolaberef01_Held.j0])
        | succ kj6 =>
          have H := HA.out
          clear HA
          simp only [astrolaberef01_Held.j0] at H
          by_cases c20 : x23_6 = true
          · subst c20
            have H1 : (some ((-9223372036854775808), 0)) = some (r1, r2) := by rw [if_pos rfl] at H; exact H
            clear H
            have H := H1
            clear H1
            simp only [Option.some.injEq, Prod.mk.injEq] at H
            obtain ⟨rfl, rfl⟩ := H
            go_wp2
            go_ret2
            exact ⟨by first | rfl | (simp [errW_none, errW_some] <;> rfl) | (simp [*, errW_none, errW_some] <;> rfl), by repeat (first | (with_reducible first | exact HB.out | apply below_alloc | apply pw_below_drewN | apply below_drew1 | refine below_set ?_ GE251.out) | exact HB.out)⟩
          · replace c20 := Bool.eq_false_iff.mpr c20
            subst c20
            have H1 : (if t259 ≥ 0 then (if a0_1 = true then (some ((-9223372036854775808), 1)) else (some (9223372036854775807, 1))) else (astrolaberef01_Held.l0 kj6 t252 0 (wrap64 ((t252.length : Int) - 1)) l0_0 a0_1)) = some (r1, r2) := by rw [if_neg (show ¬ (false = true) by decide)] at H; exact H
            clear H
            have H := H1
            clear H1
            by_cases c21 : t259 ≥ 0
            · rw [if_pos c21] at H
              have c21b0 : decide (0 ≤ t259) = true := decide_eq_true c21
              clear c21
              by_cases c22 : a0_1 = true
              · subst c22
                have H1 : (some ((-9223372036854775808), 1)) = some (r1, r2) := by rw [if_pos rfl] at H; exact H
                clear H
                have H := H1
                clear H1
                simp only [Option.some.injEq, Prod.mk.injEq] at H
                obtain ⟨rfl, rfl⟩ := H
                have hcz23_0 : wc.cell? ⟨gb251, 0, none⟩ = some (.slice A0_0 l0_0.length c0_0) := (blk_cell BK251.out 0).trans rfl
                have hcz23_1 : wc.cell? ⟨gb251, 1, none⟩ = some (.bool true) := (blk_cell BK251.out 1).trans rfl
                have hfz23_0 := blk_frozen BK251.out 0
                have hfz23_1 := blk_frozen BK251.out 1
                go_wp2
                go_ret2
                exact ⟨by first | rfl | (simp [errW_none, errW_some] <;> rfl) | (simp [*, errW_none, errW_some] <;> rfl), by repeat (first | (with_reducible first | exact HB.out | apply below_alloc | apply pw_below_drewN | apply below_drew1 | refine below_set ?_ GE251.out) | exact HB.out)⟩
              · replace c22 := Bool.eq_false_iff.mpr c22
                subst c22
                have H1 : (some (9223372036854775807, 1)) = some (r1, r2) := by rw [if_neg (show ¬ (false = true) by decide)] at H; exact H
                clear H
                have H := H1
                clear H1
                simp only [Option.some.injEq, Prod.mk.injEq] at H
                obtain ⟨rfl, rfl⟩ := H
                have hcz24_0 : wc.cell? ⟨gb251, 0, none⟩ = some (.slice A0_0 l0_0.length c0_0) := (blk_cell BK251.out 0).trans rfl
                have hcz24_1 : wc.cell? ⟨gb251, 1, none⟩ = some (.bool false) := (blk_cell BK251.out 1).trans rfl
                have hfz24_0 := blk_frozen BK251.out 0
                have hfz24_1 := blk_frozen BK251.out 1
                go_wp2
                go_ret2
                exact ⟨by first | rfl | (simp [errW_none, errW_some] <;> rfl) | (simp [*, errW_none, errW_some] <;> rfl), by repeat (first | (with_reducible first | exact HB.out | apply below_alloc | apply pw_below_drewN | apply below_drew1 | refine below_set ?_ GE251.out) | exact HB.out)⟩
            · rw [if_neg c21] at H
              have c21b0 : decide (0 ≤ t259) = false := decide_eq_false c21
              clear c21
              have H' := Aside0.mk H
              clear H
              go_wp2
              go_loopg [7, 8] kj6 (fun kq v7 v8 w' => ∃ (x7_2 : Int) (x8_2 : Int), v7 = .int .i64 x7_2 ∧ v8 = .int .i64 x8_2 ∧ Aside0 (astrolaberef01_Held.l0 kq t252 x7_2 x8_2 l0_0 a0_1 = some (r1, r2)) ∧ Aside0 (kq ≤ kj6) ∧ Aside0 (Kd.V Kd.bool 4 w' w.heap.size (fun k_ => k_ ≠ gb251) (.slice Ao15 t252.length co15) t252) ∧ Aside0 (w'.heap[gb251]? = some (.cells #[(.slice A0_0 l0_0.length c0_0), .bool a0_1] 27 (0, 0))) ∧ Aside0 (Below w.heap.size w w'))
              case atStart => exact ⟨(0), (wrap64 ((t252.length : Int) - 1)), (by first | rfl | (simp; done) | (simp [*]; done)), (by first | rfl | (simp; done) | (simp [*]; done)), H', ⟨Nat.le_refl _⟩, ⟨by (with_reducible repeat (first | apply Kd.V_alloc | apply Kd.V_drewN | apply Kd.V_drew)); exact HO_4.out⟩, ⟨by (with_reducible repeat (first | refine blk_drewN ?_ _ | refine blk_drew ?_ | refine blk_alloc ?_ _)); exact BK251.out⟩, ⟨by repeat (first | (with_reducible first | exact HB.out | apply below_alloc | apply pw_below_drewN | apply below_drew1 | refine below_set ?_ GE251.out) | exact HB.out)⟩⟩
              case round =>
                clear H'
                try clear c1
                try clear c2
                try clear p2
                try clear c3
                try clear c3b0
                try clear c3b1
                try clear c4
                try clear c4b0
                try clear c4b1
                try clear p5
                try clear q5
                try clear hx5
                try clear qi5
                try clear hf5
                try clear p6
                try clear c14
                try clear c17
                try clear c20
                try clear c21
                try clear c21b0
                try clear c22
                try clear c24
                try clear hcz18_0
                try clear hcz18_1
                try clear hcz19_0
                try clear hcz19_1
                try clear hcz23_0
                try clear hcz23_1
                try clear hcz24_0
                try clear hcz24_1
                try clear hcz9_0
                try clear hcz9_1
                try clear hfz18_0
                try clear hfz18_1
                try clear hfz19_0
                try clear hfz19_1
                try clear hfz23_0
                try clear hfz23_1
                try clear hfz24_0
                try clear hfz24_1
                try clear hfz9_0
                try clear hfz9_1
                try clear hx5_0
                try clear p2
                try clear p5
                try clear q5
                obtain ⟨x7_2, x8_2, rfl, rfl, HA, HK2, HO_4, BK251, HB⟩ := hrel
                cases gk with
                | zero => exact absurd HA.out (by simp [astrolaberef01_Held.l0])
                | succ k2 =>
                  have H := HA.out
                  clear HA
                  simp only [astrolaberef01_Held.l0] at H
                  by_cases c25 : x8_2 ≥ 0
                  · rw [if_pos c25] at H
                    have c25b0 : decide (0 ≤ x8_2) = true := decide_eq_true c25
                    clear c25
                    by_cases c26 : 0 ≤ x8_2
                    · rw [if_pos c26] at H
                      have c26b0 : decide (0 ≤ x8_2) = true := decide_eq_true c26
                      clear c26
                      by_cases c27 : x8_2 < (t252.length : Int)
                      · rw [if_pos c27] at H
                        have c27b0 : decide (x8_2 < (t252.length : Int)) = true := decide_eq_true c27
                        clear c27
                        obtain ⟨bq28, hbq28⟩ : ∃ b_ : Bool, b_ = (rdOf false t252 x8_2) := ⟨_, rfl⟩
                        replace H : (if bq28 = true then (astrolaberef01_Held.l0 k2 t252 (wrap64 ((wrap64 (2 * x7_2)) + 1)) (wrap64 (x8_2 - 1)) l0_0 a0_1) else (astrolaberef01_Held.l0 k2 t252 (wrap64 (2 * x7_2)) (wrap64 (x8_2 - 1)) l0_0 a0_1)) = some (r1, r2) := by rw [← hbq28] at H; exact H
                        have Nbq28 := Aside0.mk hbq28
                        clear hbq28
                        by_cases c29 : bq28 = true
                        · subst c29
                          have H1 : (astrolaberef01_Held.l0 k2 t252 (wrap64 ((wrap64 (2 * x7_2)) + 1)) (wrap64 (x8_2 - 1)) l0_0 a0_1) = some (r1, r2) := by rw [if_pos rfl] at H; exact H
                          clear H
                          have H := H1
                          clear H1
                          have H' := Aside0.mk H
                          clear H
                          have p260 : 0 ≤ (x8_2 : Int) := of_decide_eq_true (by first | (with_reducible assumption) | assumption)
                          have q260 : x8_2 < (t252.length : Int) := of_decide_eq_true (by first | (with_reducible assumption) | assumption)
                          obtain ⟨ad260, e260, hx260_0⟩ := Kd.at_bool (Kd.V_reads' HO_4.out).2.2 x8_2 p260 q260
                          (try rw [← Nbq28.out] at hx260_0)
                          cases e260
                          replace p260 := eq_true p260
                          replace q260 := eq_true q260
                          go_wp2
                          go_roundg k2
                          case measure => have := HJ6.out; have := HK2.out; omega
                          case rel => exact ⟨(wrap64 ((wrap64 (2 * x7_2)) + 1)), (wrap64 (x8_2 - 1)), (by first | rfl | (simp; done) | (simp [*]; done)), (by first | rfl | (simp; done) | (simp [*]; done)), H', ⟨by have := HJ6.out; have := HK2.out; omega⟩, ⟨by (with_reducible repeat (first | apply Kd.V_alloc | apply Kd.V_drewN | apply Kd.V_drew)); exact HO_4.out⟩, ⟨by (with_reducible repeat (first | refine blk_drewN ?_ _ | refine blk_drew ?_ | refine blk_alloc ?_ _)); exact BK251.out⟩, ⟨by repeat (first | (with_reducible first | exact HB.out | apply below_alloc | apply pw_below_drewN | apply below_drew1 | refine below_set ?_ GE251.out) | exact HB.out)⟩⟩
                        · replace c29 := Bool.eq_false_iff.mpr c29
                          subst c29
                          have H1 : (astrolaberef01_Held.l0 k2 t252 (wrap64 (2 * x7_2)) (wrap64 (x8_2 - 1)) l0_0 a0_1) = some (r1, r2) := by rw [if_neg (show ¬ (false = true) by decide)] at H; exact H
                          clear H
                          have H := H1
                          clear H1
                          have H' := Aside0.mk H
                          clear H
                          have p260 : 0 ≤ (x8_2 : Int) := of_decide_eq_true (by first | (with_reducible assumption) | assumption)
                          have q260 : x8_2 < (t252.length : Int) := of_decide_eq_true (by first | (with_reducible assumption) | assumption)
                          obtain ⟨ad260, e260, hx260_0⟩ := Kd.at_bool (Kd.V_reads' HO_4.out).2.2 x8_2 p260 q260
                          (try rw [← Nbq28.out] at hx260_0)
                          cases e260
                          replace p260 := eq_true p260
                          replace q260 := eq_true q260
                          go_wp2
                          go_roundg k2
                          case measure => have := HJ6.out; have := HK2.out; omega
                          case rel => exact ⟨(wrap64 (2 * x7_2)), (wrap64 (x8_2 - 1)), (by first | rfl | (simp; done) | (simp [*]; done)), (by first | rfl | (simp; done) | (simp [*]; done)), H', ⟨by have := HJ6.out; have := HK2.out; omega⟩, ⟨by (with_reducible repeat (first | apply Kd.V_alloc | apply Kd.V_drewN | apply Kd.V_drew)); exact HO_4.out⟩, ⟨by (with_reducible repeat (first | refine blk_drewN ?_ _ | refine blk_drew ?_ | refine blk_alloc ?_ _)); exact BK251.out⟩, ⟨by repeat (first | (with_reducible first | exact HB.out | apply below_alloc | apply pw_below_drewN | apply below_drew1 | refine below_set ?_ GE251.out) | exact HB.out)⟩⟩
                      · rw [if_neg c27] at H
                        exact absurd H (by simp)
                    · rw [if_neg c26] at H
                      exact absurd H (by simp)
                  · rw [if_neg c25] at H
                    have c25b0 : decide (0 ≤ x8_2) = false := decide_eq_false c25
                    clear c25
                    by_cases c30 : a0_1 = true
                    · subst c30
                      have H1 : (some (wrap64 (-x7_2), 0)) = some (r1, r2) := by rw [if_pos rfl] at H; exact H
                      clear H
                      have H := H1
                      clear H1
                      simp only [Option.some.injEq, Prod.mk.injEq] at H
                      obtain ⟨rfl, rfl⟩ := H
                      have hcz31_0 : wr.cell? ⟨gb251, 0, none⟩ = some (.slice A0_0 l0_0.length c0_0) := (blk_cell BK251.out 0).trans rfl
                      have hcz31_1 : wr.cell? ⟨gb251, 1, none⟩ = some (.bool true) := (blk_cell BK251.out 1).trans rfl
                      have hfz31_0 := blk_frozen BK251.out 0
                      have hfz31_1 := blk_frozen BK251.out 1
                      go_wp2
                      go_ret2
                      exact ⟨by first | rfl | (simp [errW_none, errW_some] <;> rfl) | (simp [*, errW_none, errW_some] <;> rfl), by repeat (first | (with_reducible first | exact HB.out | apply below_alloc | apply pw_below_drewN | apply below_drew1 | refine below_set ?_ GE251.out) | exact HB.out)⟩
                    · replace c30 := Bool.eq_false_iff.mpr c30
                      subst c30
                      have H1 : (some (x7_2, 0)) = some (r1, r2) := by rw [if_neg (show ¬ (false = true) by decide)] at H; exact H
                      clear H
                      have H := H1
                      clear H1
                      simp only [Option.some.injEq, Prod.mk.injEq] at H
                      obtain ⟨rfl, rfl⟩ := H
                      have hcz32_0 : wr.cell? ⟨gb251, 0, none⟩ = some (.slice A0_0 l0_0.length c0_0) := (blk_cell BK251.out 0).trans rfl
                      have hcz32_1 : wr.cell? ⟨gb251, 1, none⟩ = some (.bool false) := (blk_cell BK251.out 1).trans rfl
                      have hfz32_0 := blk_frozen BK251.out 0
                      have hfz32_1 := blk_frozen BK251.out 1
                      go_wp2
                      go_ret2
                      exact ⟨by first | rfl | (simp [errW_none, errW_some] <;> rfl) | (simp [*, errW_none, errW_some] <;> rfl), by repeat (first | (with_reducible first | exact HB.out | apply below_alloc | apply pw_below_drewN | apply below_drew1 | refine below_set ?_ GE251.out) | exact HB.out)⟩
    · rw [if_neg c4] at H
      exact absurd H (by simp)
  · rw [if_neg c3] at H
    exact absurd H (by simp)

end Go.Proofs.Ythgnpmchhikchaa.Q
