/- Machines: words, small parts, what a run works on. -/
import Derived.Test.YtgalkkolbobmbaaGreatV0
import Derived.OneCell
/- Words for machines: what a call may change; a call through a function value. -/
namespace Go.Proofs.YtgalkkolbobmbaaGreat.V
open Go.RowKit Go.Proofs.YtgalkkolbobmbaaGreatW.PrintWords Go.Proofs.YtgalkkolbobmbaaGreatW.PrintLast Go.Proofs.YtgalkkolbobmbaaGreatW.PrintMore
set_option linter.unusedVariables false
set_option linter.unusedSimpArgs false

/-- Of what was there, only the blocks of S may have changed. -/
structure Chg (S : Nat → Prop) (w W : World) : Prop where
  os : W.os = w.os
  tape : W.tape = w.tape
  output : W.output = w.output
  size : w.heap.size ≤ W.heap.size
  block : ∀ k, k < w.heap.size → ¬ S k → W.heap[k]? = w.heap[k]?
section
variable {S S2 : Nat → Prop} {w W W2 : World}
theorem Chg.refl (S : Nat → Prop) (w : World) : Chg S w w := ⟨rfl, rfl, rfl, Nat.le_refl _, fun _ _ _ => rfl⟩
theorem Chg.then_ (h : Chg S w W) (k : Chg S2 W W2) (hs : ∀ i, S2 i → S i ∨ w.heap.size ≤ i) : Chg S w W2 :=
  ⟨k.os.trans h.os, k.tape.trans h.tape, k.output.trans h.output, Nat.le_trans h.size k.size, fun i hi hn => (k.block i (Nat.lt_of_lt_of_le hi h.size) (fun hk => (hs i hk).elim hn (fun h' => by omega))).trans (h.block i hi hn)⟩
theorem Chg.of_below (h : Below w.heap.size w W) (S : Nat → Prop) : Chg S w W := ⟨h.os, h.tape, h.output, h.size, fun i hi _ => h.block i hi⟩
theorem Chg.below (h : Chg S w W) (k : Below W.heap.size W W2) : Chg S w W2 := h.then_ (Chg.of_below k (fun _ => False)) (fun _ hk => hk.elim)
theorem Chg.alloc (h : Chg S w W) (o : Obj) : Chg S w (W.alloc o) := h.below (below_alloc (Below.refl _ _) o)
theorem Chg.drew (h : Chg S w W) : Chg S w W.drew := h.below (below_drew1 (Below.refl _ _))
theorem Chg.drewN (h : Chg S w W) (m : Nat) : Chg S w (W.drewN m) := h.below (pw_below_drewN (Below.refl _ _) m)
theorem Chg.setCell (h : Chg S w W) {p : Addr} (hp : S p.block ∨ w.heap.size ≤ p.block) (u : Value) : Chg S w (W.setCell p u) :=
  h.then_ (S2 := fun k => k = p.block) ⟨rfl, rfl, rfl, by simp, fun k _ hk => heap_setCell_other W p k u (fun e => hk e)⟩ (fun i hi => by rw [hi]; exact hp)
theorem Chg.mono (h : Chg S w W) (hs : ∀ k, S k → S2 k) : Chg S2 w W := ⟨h.os, h.tape, h.output, h.size, fun i hi hn => h.block i hi (fun hk => hn (hs i hk))⟩
theorem Chg.grown {g : Nat} (h : Chg (fun k => k = g) w W) : w.grownBy W (some g) := ⟨h.os, h.tape, h.output, h.size, fun k hk hn => h.block k hk (fun e => hn (by rw [e]))⟩
theorem Chg.to_below (h : Chg S w W) {n : Nat} (hn : n ≤ w.heap.size) (hs : ∀ k, S k → n ≤ k) {w0 : World} (h0 : Below n w0 w) : Below n w0 W :=
  h0.trans ⟨h.os, h.tape, h.output, h.size, fun k hk => h.block k (by omega) (fun hs' => absurd (hs k hs') (by omega))⟩
end
/-- A call through a function value, in a region that draws. -/
theorem goesV_ {P : Program} {ops : Array Oper} {Q : Exit → Act → World → Prop} {oi : Oper} {N : Option Tmp} {a : Act} {w : World} {K : Act → World → Prop} {f : FuncId} {fn : Func} {xs : Array Operand} {ts : Array TypeId} {x : Operand} {cap : Array Value}
    (hf : P.funcs[f]? = some fn) (hname : (fn.name == "runtime.NumGoroutine") = false) (hb : fn.body.isSome = true) (args : Array Value) (hw : Region.wanted oi (yielded ops a.tmps) = true) (hN : oi.dst = N)
    (hx : a.eval x = .func (.func f) #[] cap) (hop : oi.op = .call { callee := .value x, args := xs, argTypes := ts }) (hargs : xs.map a.eval = args)
    (h : Calls P f (args ++ cap) w fun e w' => ∃ v, e = .returned v ∧ K (a.put N v) w') : if Region.wanted oi (yielded ops a.tmps) = true then Oper.wp P oi a w K Q else K (a.put N undef) w := by
  refine call_ f (args ++ cap) hw hN ?_ h
  have he := enters_ hf hname hb (args ++ cap) w
  unfold execOp
  simp [hop, resolve, Deferred.ofValue, invoke, hx, hargs, he]
end Go.Proofs.YtgalkkolbobmbaaGreat.V
/- A machine's small parts: what a register holds, what an instruction loads. -/
namespace Go.Proofs.YtgalkkolbobmbaaGreat.V
open Go.RowKit Go.Proofs.YtgalkkolbobmbaaGreatW.PrintWords Go.Proofs.YtgalkkolbobmbaaGreatW.PrintLast Go.Proofs.YtgalkkolbobmbaaGreatW.PrintMore
set_option linter.unusedVariables false
set_option linter.unusedSimpArgs false
attribute [local go_sem] max2_int min2_int max_two min_two max_three min_three max_four min_four

/-- The number that a register holds; a high one: the last. -/
def atV (regs : List Int) (n : Int) : Option Int := if 0 ≤ n then some (rd regs (if (regs.length : Int) - 1 < n then (regs.length : Int) - 1 else n)) else none
set_option maxHeartbeats 1000000 in
set_option maxRecDepth 100000 in
theorem at_any (Gr : Nat) (A : Option Addr) (c : Nat) (regs : List Int) (n r : Int) (w : World) (h : atV regs n = some r) (h0 : 0 < regs.length) (hm : regs.length ≤ 281474976710656)
    (hb : w.heap[Gr]? = some (.cells #[.slice A regs.length c] 23 (0, 0))) (hc : Kd.C (Kd.int .i64) w A regs.length regs) :
    Calls Tryz.prog 129 #[.int .i64 n, .pointer (some ⟨Gr, 0, none⟩)] w fun e w' => e = .returned (.int .i64 r) ∧ w' = w := by
  unfold atV at h
  by_cases hn : 0 ≤ n
  · rw [if_pos hn] at h
    obtain rfl := Option.some.inj h
    clear h
    have hcb := cell_of_one hb
    clear hb
    by_cases hlt : (regs.length : Int) - 1 < n
    · rw [if_pos hlt]
      obtain ⟨ad, rfl, hcell⟩ := Kd.at_int hc ((regs.length : Int) - 1) (by omega) (by omega)
      have e1 : ((regs.length : Int) - 1).toNat = regs.length - 1 := by omega
      rw [e1] at hcell
      go_enter Tryz.func129, Tryz.ntmps129
      go_wp2
      go_ret
      exact ⟨rfl, rfl⟩
    · rw [if_neg hlt]
      obtain ⟨ad, rfl, hcell⟩ := Kd.at_int hc n (by omega) (by omega)
      go_enter Tryz.func129, Tryz.ntmps129
      go_wp2
      go_ret
      exact ⟨rfl, rfl⟩
  · rw [if_neg hn] at h
    exact absurd h (by simp)
def truthV (b : Bool) : Int := if b = true then 1 else 0
theorem truth_any (b : Bool) (w : World) : Calls Tryz.prog 115 #[.bool b] w fun e w' => e = .returned (.int .i64 (truthV b)) ∧ w' = w := by
  cases b with
  | true =>
    go_enter Tryz.func115, Tryz.ntmps115
    go_wp2
    go_ret
    exact ⟨rfl, rfl⟩
  | false =>
    go_enter Tryz.func115, Tryz.ntmps115
    go_wp2
    go_ret
    exact ⟨rfl, rfl⟩
/-- What an instruction makes that isn't of registers; false: it is. -/
def loadV (inn st mem : List Int) (raised : List Bool) (x : S49) : Option (Int × Bool) :=
  if x.f0 = 1 then some (x.f5, true) else if x.f0 = 2 then (if 0 ≤ x.f2 ∧ x.f2 < (inn.length : Int) then some (rd inn x.f2, true) else none)
  else if x.f0 = 3 then (if 0 ≤ x.f2 ∧ x.f2 < (st.length : Int) then some (rd st x.f2, true) else none)
  else if x.f0 = 4 then (if 0 ≤ x.f2 ∧ x.f2 < (mem.length : Int) then some (rd mem x.f2, true) else none)
  else if x.f0 = 5 then (if 0 ≤ x.f2 ∧ x.f2 < (raised.length : Int) then some (truthV (rdOf false raised x.f2), true) else none)
  else some (0, false)
def ld_T : Bool × List (List Nat × List Nat) := (true, [([], []), ([0], [0]), ([1], [1]), ([2], [2]), ([], []), ([4], [4]), ([3, 5], [3, 5]), ([6], [6]), ([7], [7]), ([8, 8, 0, 1, 2, 3, 4, 5, 6, 7, 8], [8]), ([9, 0, 1, 2, 3, 4, 5, 6, 7, 8, 9], [])])
def ld_B : List Nat := [0, 1, 3, 7, 0, 16, 63, 127, 255, 511, 1023]
theorem ld_tab : rtab .any (opsOf Tryz.f130 11) = ld_T := by kernel_rfl
theorem ld_bits : waitsOk ld_T.2 ld_B = true := by kernel_rfl
set_option maxHeartbeats 4000000 in
set_option maxRecDepth 100000 in
theorem load_any (g : Nat) (A0 A1 A2 A3 : Option Addr) (c0 c1 c2 c3 : Nat) (v4 v5 v6 : Value) (inn st mem : List Int) (raised : List Bool) (op d a b c v r1 : Int) (r2 : Bool) (w : World) (h : loadV inn st mem raised ⟨op, d, a, b, c, v⟩ = some (r1, r2))
    (hb : w.heap[g]? = some (.cells #[.slice A0 inn.length c0, .slice A1 st.length c1, .slice A2 mem.length c2, .slice A3 raised.length c3, v4, v5, v6] 121 (0, 0)))
    (h0 : Kd.C (Kd.int .i64) w A0 inn.length inn) (h1 : Kd.C (Kd.int .i64) w A1 st.length st) (h2 : Kd.C (Kd.int .i64) w A2 mem.length mem) (h3 : Kd.C Kd.bool w A3 raised.length raised) :
    Calls Tryz.prog 130 #[.pointer (some ⟨g, 0, none⟩), .agg #[.int .i64 op, .int .i64 d, .int .i64 a, .int .i64 b, .int .i64 c, .int .i64 v]] w fun e w' => e = .returned (.tuple #[.int .i64 r1, .bool r2]) ∧ Below w.heap.size w w' := by
  have hu49 := Tryz.underlying49
  have HB := Aside0.mk hb
  have H0 := Aside0.mk h0
  have H1 := Aside0.mk h1
  have H2 := Aside0.mk h2
  have H3 := Aside0.mk h3
  clear hb h0 h1 h2 h3
  unfold loadV at h
  dsimp only at h
  by_cases e1 : op = 1
  · subst e1
    simp only [if_true, Option.some.injEq, Prod.mk.injEq] at h
    obtain ⟨rfl, rfl⟩ := h
    go_enter Tryz.func130, Tryz.ntmps130
    go_wp2_with (first | ((with_reducible refine gate_dst (N := 3) rfl ?_); refine box_event ?hg (N := 3) ?hd (cs := #[.int .i64 1, .int .i64 d, .int .i64 a, .int .i64 b, .int .i64 c, .int .i64 v]) (t := 49) ?hr ?_; (case hd => rfl); (case hg => rfl); (case hr => first | (go_simp; done) | (go_simp; rfl)); intro gb hg w4 hbox hb4; have HBX := Aside0.mk hbox; have HB4 := Aside0.mk hb4; clear hb4 hbox hg; have k0 : w4.cell? ⟨gb, 0, none⟩ = some (.int .i64 1) := (blk_cell HBX.out 0).trans rfl; have k2 : w4.cell? ⟨gb, 2, none⟩ = some (.int .i64 a) := (blk_cell HBX.out 2).trans rfl; have k5 : w4.cell? ⟨gb, 5, none⟩ = some (.int .i64 v) := (blk_cell HBX.out 5).trans rfl))
    go_ret2
    exact ⟨rfl, HB4.out⟩
  · by_cases e2 : op = 2
    · subst e2
      rw [if_neg (show ¬ ((2 : Int) = 1) by decide), if_pos rfl] at h
      by_cases cc : 0 ≤ a ∧ a < (inn.length : Int)
      · rw [if_pos cc, Option.some.injEq, Prod.mk.injEq] at h
        obtain ⟨rfl, rfl⟩ := h
        obtain ⟨p, q⟩ := cc
        obtain ⟨ad, e0, hx⟩ := Kd.at_int H0.out a p q
        subst e0
        have HX := Aside0.mk hx
        clear hx
        have p1 := eq_true p
        have q1 := eq_true q
        clear p q
        go_enter Tryz.func130, Tryz.ntmps130
        go_wp2_with (first | ((with_reducible refine gate_dst (N := 3) rfl ?_); refine box_event ?hg (N := 3) ?hd (cs := #[.int .i64 2, .int .i64 d, .int .i64 a, .int .i64 b, .int .i64 c, .int .i64 v]) (t := 49) ?hr ?_; (case hd => rfl); (case hg => rfl); (case hr => first | (go_simp; done) | (go_simp; rfl)); intro gb hg w4 hbox hb4; have HBX := Aside0.mk hbox; have HB4 := Aside0.mk hb4; clear hb4 hbox hg; have k0 : w4.cell? ⟨gb, 0, none⟩ = some (.int .i64 2) := (blk_cell HBX.out 0).trans rfl; have k2 : w4.cell? ⟨gb, 2, none⟩ = some (.int .i64 a) := (blk_cell HBX.out 2).trans rfl; have k5 : w4.cell? ⟨gb, 5, none⟩ = some (.int .i64 v) := (blk_cell HBX.out 5).trans rfl; have kg : w4.cell? ⟨g, 0, none⟩ = some (.slice (some ad) inn.length c0) := (blk_cell ((HB4.out.block g (blk_lt HB.out)).trans HB.out) 0).trans rfl; have kx := (HB4.out.cell (World.block_lt_of_cell? w _ HX.out)).trans HX.out))
        go_quiet (fail)
        go_wp2
        go_ret2
        exact ⟨rfl, pw_below_drewN HB4.out _⟩
      · rw [if_neg cc] at h
        exact absurd h (by simp)
    · by_cases e3 : op = 3
      · subst e3
        rw [if_neg (show ¬ ((3 : Int) = 1) by decide), if_neg (show ¬ ((3 : Int) = 2) by decide), if_pos rfl] at h
        by_cases cc : 0 ≤ a ∧ a < (st.length : Int)
        · rw [if_pos cc, Option.some.injEq, Prod.mk.injEq] at h
          obtain ⟨rfl, rfl⟩ := h
          obtain ⟨p, q⟩ := cc
          obtain ⟨ad, e0, hx⟩ := Kd.at_int H1.out a p q
          subst e0
          have HX := Aside0.mk hx
          clear hx
          have p1 := eq_true p
          have q1 := eq_true q
          clear p q
          go_enter Tryz.func130, Tryz.ntmps130
          go_wp2_with (first | ((with_reducible refine gate_dst (N := 3) rfl ?_); refine box_event ?hg (N := 3) ?hd (cs := #[.int .i64 3, .int .i64 d, .int .i64 a, .int .i64 b, .int .i64 c, .int .i64 v]) (t := 49) ?hr ?_; (case hd => rfl); (case hg => rfl); (case hr => first | (go_simp; done) | (go_simp; rfl)); intro gb hg w4 hbox hb4; have HBX := Aside0.mk hbox; have HB4 := Aside0.mk hb4; clear hb4 hbox hg; have k0 : w4.cell? ⟨gb, 0, none⟩ = some (.int .i64 3) := (blk_cell HBX.out 0).trans rfl; have k2 : w4.cell? ⟨gb, 2, none⟩ = some (.int .i64 a) := (blk_cell HBX.out 2).trans rfl; have k5 : w4.cell? ⟨gb, 5, none⟩ = some (.int .i64 v) := (blk_cell HBX.out 5).trans rfl; have kg : w4.cell? ⟨g, 1, none⟩ = some (.slice (some ad) st.length c1) := (blk_cell ((HB4.out.block g (blk_lt HB.out)).trans HB.out) 1).trans rfl; have kx := (HB4.out.cell (World.block_lt_of_cell? w _ HX.out)).trans HX.out))
          go_quiet (fail)
          go_wp2
          go_ret2
          exact ⟨rfl, pw_below_drewN HB4.out _⟩
        · rw [if_neg cc] at h
          exact absurd h (by simp)
      · by_cases e4 : op = 4
        · subst e4
          rw [if_neg (show ¬ ((4 : Int) = 1) by decide), if_neg (show ¬ ((4 : Int) = 2) by decide), if_neg (show ¬ ((4 : Int) = 3) by decide), if_pos rfl] at h
          by_cases cc : 0 ≤ a ∧ a < (mem.length : Int)
          · rw [if_pos cc, Option.some.injEq, Prod.mk.injEq] at h
            obtain ⟨rfl, rfl⟩ := h
            obtain ⟨p, q⟩ := cc
            obtain ⟨ad, e0, hx⟩ := Kd.at_int H2.out a p q
            subst e0
            have HX := Aside0.mk hx
            clear hx
            have p1 := eq_true p
            have q1 := eq_true q
            clear p q
            go_enter Tryz.func130, Tryz.ntmps130
            go_wp2_with (first | ((with_reducible refine gate_dst (N := 3) rfl ?_); refine box_event ?hg (N := 3) ?hd (cs := #[.int .i64 4, .int .i64 d, .int .i64 a, .int .i64 b, .int .i64 c, .int .i64 v]) (t := 49) ?hr ?_; (case hd => rfl); (case hg => rfl); (case hr => first | (go_simp; done) | (go_simp; rfl)); intro gb hg w4 hbox hb4; have HBX := Aside0.mk hbox; have HB4 := Aside0.mk hb4; clear hb4 hbox hg; have k0 : w4.cell? ⟨gb, 0, none⟩ = some (.int .i64 4) := (blk_cell HBX.out 0).trans rfl; have k2 : w4.cell? ⟨gb, 2, none⟩ = some (.int .i64 a) := (blk_cell HBX.out 2).trans rfl; have k5 : w4.cell? ⟨gb, 5, none⟩ = some (.int .i64 v) := (blk_cell HBX.out 5).trans rfl; have kg : w4.cell? ⟨g, 2, none⟩ = some (.slice (some ad) mem.length c2) := (blk_cell ((HB4.out.block g (blk_lt HB.out)).trans HB.out) 2).trans rfl; have kx := (HB4.out.cell (World.block_lt_of_cell? w _ HX.out)).trans HX.out))
            go_quiet (fail)
            go_wp2
            go_ret2
            exact ⟨rfl, pw_below_drewN HB4.out _⟩
          · rw [if_neg cc] at h
            exact absurd h (by simp)
        · by_cases e5 : op = 5
          · subst e5
            rw [if_neg (show ¬ ((5 : Int) = 1) by decide), if_neg (show ¬ ((5 : Int) = 2) by decide), if_neg (show ¬ ((5 : Int) = 3) by decide), if_neg (show ¬ ((5 : Int) = 4) by decide), if_pos rfl] at h
            by_cases cc : 0 ≤ a ∧ a < (raised.length : Int)
            · rw [if_pos cc, Option.some.injEq, Prod.mk.injEq] at h
              obtain ⟨rfl, rfl⟩ := h
              obtain ⟨p, q⟩ := cc
              obtain ⟨ad, e0, hx⟩ := Kd.at_bool H3.out a p q
              subst e0
              obtain ⟨tb, htb⟩ : ∃ z, rdOf false raised a = z := ⟨_, rfl⟩
              rw [htb] at hx ⊢
              clear htb
              have HX := Aside0.mk hx
              clear hx
              have p1 := eq_true p
              have q1 := eq_true q
              clear p q
              go_enter Tryz.func130, Tryz.ntmps130
              go_wp2_with (first | ((with_reducible refine gate_dst (N := 3) rfl ?_); refine box_event ?hg (N := 3) ?hd (cs := #[.int .i64 5, .int .i64 d, .int .i64 a, .int .i64 b, .int .i64 c, .int .i64 v]) (t := 49) ?hr ?_; (case hd => rfl); (case hg => rfl); (case hr => first | (go_simp; done) | (go_simp; rfl)); intro gb hg w4 hbox hb4; have HBX := Aside0.mk hbox; have HB4 := Aside0.mk hb4; clear hb4 hbox hg; have k0 : w4.cell? ⟨gb, 0, none⟩ = some (.int .i64 5) := (blk_cell HBX.out 0).trans rfl; have k2 : w4.cell? ⟨gb, 2, none⟩ = some (.int .i64 a) := (blk_cell HBX.out 2).trans rfl; have k5 : w4.cell? ⟨gb, 5, none⟩ = some (.int .i64 v) := (blk_cell HBX.out 5).trans rfl; have kg : w4.cell? ⟨g, 3, none⟩ = some (.slice (some ad) raised.length c3) := (blk_cell ((HB4.out.block g (blk_lt HB.out)).trans HB.out) 3).trans rfl; have kx := (HB4.out.cell (World.block_lt_of_cell? w _ HX.out)).trans HX.out))
              refine start_ (n := 11) (S := fun w' => w'.cell? ⟨gb, 2, none⟩ = some (.int .i64 a) ∧ w'.cell? ⟨g, 3, none⟩ = some (.slice (some ad) raised.length c3) ∧ w'.cell? (ad.add a.toNat) = some (.bool tb)) (ds := []) #[false, false, false, false, false, false, false, false, false, false, false] (by kernel_rfl) rfl rfl ⟨k2, kg, kx⟩ (fun hHeld => ?_); refine with_tabW ld_tab ld_bits (fun HT_ HW_ => ?_)
              refine pure_ (i := 0) (N := some 44) (v := ?_) (a' := ?_) #[true, false, false, false, false, false, false, false, false, false, false] rfl rfl (any_of HT_.out (by kernel_rfl)) (fun _ _ _ h => h) (Or.inl ⟨by rfl, ?_⟩) ?_ ?_
              rotate_left
              · intro w'
                go_simp
                with_reducible rfl
              rotate_left
              · simp only [Act.put, List.setIfInBounds_toArray, List.set_cons_zero, List.set_cons_succ, i64_w, i32_w]
                rfl
              refine pure_ (i := 1) (N := some 45) (v := ?_) (a' := ?_) #[true, true, false, false, false, false, false, false, false, false, false] rfl rfl (any_of HT_.out (by kernel_rfl)) (fun _ _ _ h => h) (Or.inl ⟨by rfl, ?_⟩) ?_ ?_
              rotate_left
              · intro w'
                go_simp
                with_reducible rfl
              rotate_left
              · simp only [Act.put, List.setIfInBounds_toArray, List.set_cons_zero, List.set_cons_succ, i64_w, i32_w]
                rfl
              refine pure_ (i := 2) (N := some 46) (v := ?_) (a' := ?_) #[true, true, true, false, false, false, false, false, false, false, false] rfl rfl (any_of HT_.out (by kernel_rfl)) (fun _ _ _ h => h) (Or.inl ⟨by rfl, ?_⟩) ?_ ?_
              rotate_left
              · intro w'
                go_simp
                with_reducible rfl
              rotate_left
              · simp only [Act.put, List.setIfInBounds_toArray, List.set_cons_zero, List.set_cons_succ, i64_w, i32_w]
                rfl
              refine pure_ (i := 4) (N := some 48) (v := ?_) (a' := ?_) #[true, true, true, false, true, false, false, false, false, false, false] rfl rfl (any_of HT_.out (by kernel_rfl)) (fun _ _ _ h => h) (Or.inl ⟨by rfl, ?_⟩) ?_ ?_
              rotate_left
              · intro w'
                go_simp
                with_reducible rfl
              rotate_left
              · simp only [Act.put, List.setIfInBounds_toArray, List.set_cons_zero, List.set_cons_succ, i64_w, i32_w]
                rfl
              refine take_ (i := 3) (N := some 47) (v := ?_) (a' := ?_) #[true, true, true, true, true, false, false, false, false, false, false] rfl rfl (take_ofW HT_.out HW_.out (by kernel_rfl)) (fun _ _ _ h => h) (Or.inl ⟨by rfl, ?_⟩) hHeld ?_ ?_
              rotate_left
              · rintro w' ⟨s0, s1, s2⟩
                go_simp
                with_reducible rfl
              rotate_left
              · simp only [Act.put, List.setIfInBounds_toArray, List.set_cons_zero, List.set_cons_succ, i64_w, i32_w]
                rfl
              refine take_ (i := 5) (N := some 49) (v := ?_) (a' := ?_) #[true, true, true, true, true, true, false, false, false, false, false] rfl rfl (take_ofW HT_.out HW_.out (by kernel_rfl)) (fun _ _ _ h => h) (Or.inl ⟨by rfl, ?_⟩) hHeld ?_ ?_
              rotate_left
              · rintro w' ⟨s0, s1, s2⟩
                go_simp
                with_reducible rfl
              rotate_left
              · simp only [Act.put, List.setIfInBounds_toArray, List.set_cons_zero, List.set_cons_succ, i64_w, i32_w]
                rfl
              refine pure_ (i := 6) (N := some 50) (v := ?_) (a' := ?_) #[true, true, true, true, true, true, true, false, false, false, false] rfl rfl (any_of HT_.out (by kernel_rfl)) (fun _ _ _ h => h) (Or.inl ⟨by rfl, ?_⟩) ?_ ?_
              rotate_left
              · intro w'
                go_simp
                with_reducible rfl
              rotate_left
              · simp only [Act.put, List.setIfInBounds_toArray, List.set_cons_zero, List.set_cons_succ, i64_w, i32_w]
                rfl
              refine take_ (i := 7) (N := some 51) (v := ?_) (a' := ?_) #[true, true, true, true, true, true, true, true, false, false, false] rfl rfl (take_ofW HT_.out HW_.out (by kernel_rfl)) (fun _ _ _ h => h) (Or.inl ⟨by rfl, ?_⟩) hHeld ?_ ?_
              rotate_left
              · rintro w' ⟨s0, s1, s2⟩
                go_simp
                with_reducible rfl
              rotate_left
              · simp only [Act.put, List.setIfInBounds_toArray, List.set_cons_zero, List.set_cons_succ, i64_w, i32_w]
                rfl
              refine one_ (i := 8) (N := some 52) #[true, true, true, true, true, true, true, true, true, false, false] rfl rfl (one_of HT_.out (by kernel_rfl)) (by decide) (fun K hK => ?_)
              refine goes_ Tryz.func115 (by kernel_rfl) rfl #[.bool tb] (by rfl) rfl rfl (by (try simp only [List.map_toArray, List.map_cons, List.map_nil]); first | done | rfl) ?_
              refine (truth_any _ _).mono ?_
              rintro e w5 ⟨rfl, rfl⟩
              refine ⟨_, rfl, ?_⟩
              refine hK.out _ _ hHeld (fun hHeld => ?_)
              clear hK K
              refine norm_ (a' := ?_) ?_ ?_
              rotate_left
              · show Act.put _ (some 52) _ = _
                simp only [Act.put, List.setIfInBounds_toArray, List.set_cons_zero, List.set_cons_succ, i64_w, i32_w]
                rfl
              refine pure_ (i := 9) (N := some 4) (v := ?_) (a' := ?_) #[true, true, true, true, true, true, true, true, true, true, false] rfl rfl (any_of HT_.out (by kernel_rfl)) (fun _ _ _ h => h) (Or.inl ⟨by rfl, ?_⟩) ?_ ?_
              rotate_left
              · intro w'
                go_simp
                with_reducible rfl
              rotate_left
              · simp only [Act.put, List.setIfInBounds_toArray, List.set_cons_zero, List.set_cons_succ, i64_w, i32_w]
                rfl
              refine pure_ (i := 10) (N := some 5) (v := ?_) (a' := ?_) #[true, true, true, true, true, true, true, true, true, true, true] rfl rfl (any_of HT_.out (by kernel_rfl)) (fun _ _ _ h => h) (Or.inl ⟨by rfl, ?_⟩) ?_ ?_
              rotate_left
              · intro w'
                go_simp
                with_reducible rfl
              rotate_left
              · simp only [Act.put, List.setIfInBounds_toArray, List.set_cons_zero, List.set_cons_succ, i64_w, i32_w]
                rfl
              refine done_ (done_of HT_.out (by kernel_rfl)) ?_
              try go_wp2
              go_ret2
              exact ⟨rfl, below_drew1 HB4.out⟩
            · rw [if_neg cc] at h
              exact absurd h (by simp)
          · rw [if_neg e1, if_neg e2, if_neg e3, if_neg e4, if_neg e5, Option.some.injEq, Prod.mk.injEq] at h
            obtain ⟨rfl, rfl⟩ := h
            have b1 : (op == 1) = false := beq_eq_false_iff_ne.mpr e1
            have d1 : decide (op = 1) = false := decide_eq_false e1
            have b2 : (op == 2) = false := beq_eq_false_iff_ne.mpr e2
            have d2 : decide (op = 2) = false := decide_eq_false e2
            have b3 : (op == 3) = false := beq_eq_false_iff_ne.mpr e3
            have d3 : decide (op = 3) = false := decide_eq_false e3
            have b4 : (op == 4) = false := beq_eq_false_iff_ne.mpr e4
            have d4 : decide (op = 4) = false := decide_eq_false e4
            have b5 : (op == 5) = false := beq_eq_false_iff_ne.mpr e5
            have d5 : decide (op = 5) = false := decide_eq_false e5
            go_enter Tryz.func130, Tryz.ntmps130
            go_wp2_with (first | ((with_reducible refine gate_dst (N := 3) rfl ?_); refine box_event ?hg (N := 3) ?hd (cs := #[.int .i64 op, .int .i64 d, .int .i64 a, .int .i64 b, .int .i64 c, .int .i64 v]) (t := 49) ?hr ?_; (case hd => rfl); (case hg => rfl); (case hr => first | (go_simp; done) | (go_simp; rfl)); intro gb hg w4 hbox hb4; have HBX := Aside0.mk hbox; have HB4 := Aside0.mk hb4; clear hb4 hbox hg; have k0 : w4.cell? ⟨gb, 0, none⟩ = some (.int .i64 op) := (blk_cell HBX.out 0).trans rfl; have k2 : w4.cell? ⟨gb, 2, none⟩ = some (.int .i64 a) := (blk_cell HBX.out 2).trans rfl; have k5 : w4.cell? ⟨gb, 5, none⟩ = some (.int .i64 v) := (blk_cell HBX.out 5).trans rfl))
            go_ret2
            exact ⟨rfl, HB4.out⟩
end Go.Proofs.YtgalkkolbobmbaaGreat.V
/- slices.Clone of numbers and of instructions: a row of one's own, with the same elements. -/
namespace Go.Proofs.YtgalkkolbobmbaaGreat.V
open Go.RowKit Go.Proofs.YtgalkkolbobmbaaGreatW.PrintWords Go.Proofs.YtgalkkolbobmbaaGreatW.PrintLast Go.Proofs.YtgalkkolbobmbaaGreatW.PrintMore
set_option linter.unusedVariables false
set_option linter.unusedSimpArgs false
theorem row2 : (Tryz.prog.info? 2).map (fun i => (i.zero, i.size, i.bytes)) = some (some (.int .i64 0), 1, 8) := by kernel_rfl
theorem row3 : (Tryz.prog.info? 3).map (fun i => (i.zero, i.size, i.bytes)) = some (some (.int .i64 0), 1, 8) := by kernel_rfl
theorem row49 : (Tryz.prog.info? 49).map (fun i => (i.zero, i.size, i.bytes)) = some (some (.agg #[.int .i64 0, .int .i64 0, .int .i64 0, .int .i64 0, .int .i64 0, .int .i64 0]), 6, 48) := by kernel_rfl
theorem k49_KM {W W1 : World} {base : Nat} {okp : Nat → Prop} {x : S49} {cs : List Value} (h : k49.K W x cs) : k49.M W1 base okp x cs := by
  rw [k49_open h]
  exact k49_mkM _ _ _ x
theorem reps_none {α : Type} (R : α → List Value → Prop) (size : Nat) : Reps R size [] [] := ⟨by simp, fun j p hj => by simp at hj⟩
theorem nil_of_none {α : Type} {d : Kd α} {w : World} {l : List α} (h : d.C w none l.length l) : l = [] := by
  rcases Nat.eq_zero_or_pos l.length with h0 | h0
  · exact List.eq_nil_of_length_eq_zero h0
  · obtain ⟨ad, h', _⟩ := h.2.2 h0
    cases h'

set_option maxHeartbeats 1000000 in
set_option maxRecDepth 100000 in
theorem clone23 (A : Option Addr) (c : Nat) (l : List Int) (w : World) (hr : Kd.C (Kd.int .i64) w A l.length l) (hl : l.length * 8 ≤ 140737488355328) :
    Calls Tryz.prog 71 #[.slice A l.length c] w fun e w' => ∃ v, e = .returned v ∧ Kd.R (Kd.int .i64) 2 w' w.heap.size (fun _ => True) v l ∧ Below w.heap.size w w' := by
  have HR := Aside0.mk hr
  clear hr
  cases A with
  | none =>
    obtain rfl : l = [] := nil_of_none HR.out
    have hbn : ∀ (c : Nat) (w : World), (binOp BinOp.eql 23 (.slice none 0 c) (.slice none 0 0)).run Tryz.prog w = .ok (.bool true) w := fun _ _ => by kernel_rfl
    go_enter Tryz.func71, Tryz.ntmps71
    go_wp2
    go_ret
    exact ⟨_, rfl, Kd.R_nil _ _ _ _ _, Below.refl _ _⟩
  | some ad =>
    have hbn : ∀ (n c : Nat) (w : World), (binOp BinOp.eql 23 (.slice (some ad) n c) (.slice none 0 0)).run Tryz.prog w = .ok (.bool false) w := fun _ _ _ => by kernel_rfl
    go_enter Tryz.func71, Tryz.ntmps71
    go_wp2_with (first
      | ((with_reducible refine gate_dst (N := 5) rfl ?_); refine Kd.R_lit (Kd.int .i64) (w0 := w) w.heap.size 2 rfl (N := 5) rfl (xs := []) (inner := []) (ok := fun _ => True) (okp := fun _ => True) ?hrun ?hreps (fun _ h => h) trivial (Below.refl _ _) (Nat.le_refl _) (by simp) ?_; (case hrun => first | (go_simp; done) | (go_simp; rfl)); (case hreps => exact reps_none _ _); intro v1 w1 ho1 hb1 hg1 hn1; have HO1 := Aside0.mk ho1; have HB1 := Aside0.mk hb1; have HR1 := Aside0.mk (Kd.C_below HR.out hb1); clear ho1 hb1 hg1 hn1)
      | ((with_reducible refine gate_builtin (b := .append) (xs := #[.tmp 5, .tmp 6]) rfl ?_); at_builtin; refine Kd.R_append_rows (Kd.int .i64) (w0 := w) (Rr := Kd.K (Kd.int .i64) w1) w.heap.size rfl (.tmp 5) (.tmp 6) 23 2 (.int .i64 0) 8 rfl Tryz.underlying23 row2 rfl (by decide) (by decide) v1 [] l (some ad) l.length c (fun _ => True) (fun _ => False) rfl rfl HO1.out HR1.out (fun x cs h => (fun _ _ h => h) x cs h) (fun _ h => h.elim) (fun _ _ => trivial) HB1.out HB1.out.size (by simp; omega) ?_; intro v2 w2 ho2 hb2 hg2 hn2; rw [List.nil_append] at ho2; have HO2 := Aside0.mk ho2; have HB2 := Aside0.mk hb2; clear ho2 hb2 hg2 hn2))
    go_ret
    exact ⟨_, rfl, HO2.out, HB2.out⟩
set_option maxHeartbeats 1000000 in
set_option maxRecDepth 100000 in
theorem clone22 (A : Option Addr) (c : Nat) (l : List Int) (w : World) (hr : Kd.C (Kd.int .i64) w A l.length l) (hl : l.length * 8 ≤ 140737488355328) :
    Calls Tryz.prog 107 #[.slice A l.length c] w fun e w' => ∃ v, e = .returned v ∧ Kd.R (Kd.int .i64) 3 w' w.heap.size (fun _ => True) v l ∧ Below w.heap.size w w' := by
  have HR := Aside0.mk hr
  clear hr
  cases A with
  | none =>
    obtain rfl : l = [] := nil_of_none HR.out
    have hbn : ∀ (c : Nat) (w : World), (binOp BinOp.eql 22 (.slice none 0 c) (.slice none 0 0)).run Tryz.prog w = .ok (.bool true) w := fun _ _ => by kernel_rfl
    go_enter Tryz.func107, Tryz.ntmps107
    go_wp2
    go_ret
    exact ⟨_, rfl, Kd.R_nil _ _ _ _ _, Below.refl _ _⟩
  | some ad =>
    have hbn : ∀ (n c : Nat) (w : World), (binOp BinOp.eql 22 (.slice (some ad) n c) (.slice none 0 0)).run Tryz.prog w = .ok (.bool false) w := fun _ _ _ => by kernel_rfl
    go_enter Tryz.func107, Tryz.ntmps107
    go_wp2_with (first
      | ((with_reducible refine gate_dst (N := 5) rfl ?_); refine Kd.R_lit (Kd.int .i64) (w0 := w) w.heap.size 3 rfl (N := 5) rfl (xs := []) (inner := []) (ok := fun _ => True) (okp := fun _ => True) ?hrun ?hreps (fun _ h => h) trivial (Below.refl _ _) (Nat.le_refl _) (by simp) ?_; (case hrun => first | (go_simp; done) | (go_simp; rfl)); (case hreps => exact reps_none _ _); intro v1 w1 ho1 hb1 hg1 hn1; have HO1 := Aside0.mk ho1; have HB1 := Aside0.mk hb1; have HR1 := Aside0.mk (Kd.C_below HR.out hb1); clear ho1 hb1 hg1 hn1)
      | ((with_reducible refine gate_builtin (b := .append) (xs := #[.tmp 5, .tmp 6]) rfl ?_); at_builtin; refine Kd.R_append_rows (Kd.int .i64) (w0 := w) (Rr := Kd.K (Kd.int .i64) w1) w.heap.size rfl (.tmp 5) (.tmp 6) 22 3 (.int .i64 0) 8 rfl Tryz.underlying22 row3 rfl (by decide) (by decide) v1 [] l (some ad) l.length c (fun _ => True) (fun _ => False) rfl rfl HO1.out HR1.out (fun x cs h => (fun _ _ h => h) x cs h) (fun _ h => h.elim) (fun _ _ => trivial) HB1.out HB1.out.size (by simp; omega) ?_; intro v2 w2 ho2 hb2 hg2 hn2; rw [List.nil_append] at ho2; have HO2 := Aside0.mk ho2; have HB2 := Aside0.mk hb2; clear ho2 hb2 hg2 hn2))
    go_ret
    exact ⟨_, rfl, HO2.out, HB2.out⟩
set_option maxHeartbeats 1000000 in
set_option maxRecDepth 100000 in
theorem clone24 (A : Option Addr) (c : Nat) (l : List S49) (w : World) (hr : Kd.C k49 w A l.length l) (hl : l.length * 48 ≤ 140737488355328) :
    Calls Tryz.prog 108 #[.slice A l.length c] w fun e w' => ∃ v, e = .returned v ∧ Kd.R k49 49 w' w.heap.size (fun _ => True) v l ∧ Below w.heap.size w w' := by
  have HR := Aside0.mk hr
  clear hr
  cases A with
  | none =>
    obtain rfl : l = [] := nil_of_none HR.out
    have hbn : ∀ (c : Nat) (w : World), (binOp BinOp.eql 24 (.slice none 0 c) (.slice none 0 0)).run Tryz.prog w = .ok (.bool true) w := fun _ _ => by kernel_rfl
    go_enter Tryz.func108, Tryz.ntmps108
    go_wp2
    go_ret
    exact ⟨_, rfl, Kd.R_nil _ _ _ _ _, Below.refl _ _⟩
  | some ad =>
    have hbn : ∀ (n c : Nat) (w : World), (binOp BinOp.eql 24 (.slice (some ad) n c) (.slice none 0 0)).run Tryz.prog w = .ok (.bool false) w := fun _ _ _ => by kernel_rfl
    go_enter Tryz.func108, Tryz.ntmps108
    go_wp2_with (first
      | ((with_reducible refine gate_dst (N := 5) rfl ?_); refine Kd.R_lit k49 (w0 := w) w.heap.size 49 rfl (N := 5) rfl (xs := []) (inner := []) (ok := fun _ => True) (okp := fun _ => True) ?hrun ?hreps (fun _ h => h) trivial (Below.refl _ _) (Nat.le_refl _) (by simp) ?_; (case hrun => first | (go_simp; done) | (go_simp; rfl)); (case hreps => exact reps_none _ _); intro v1 w1 ho1 hb1 hg1 hn1; have HO1 := Aside0.mk ho1; have HB1 := Aside0.mk hb1; have HR1 := Aside0.mk (Kd.C_below HR.out hb1); clear ho1 hb1 hg1 hn1)
      | ((with_reducible refine gate_builtin (b := .append) (xs := #[.tmp 5, .tmp 6]) rfl ?_); at_builtin; refine Kd.R_append_rows k49 (w0 := w) (Rr := Kd.K k49 w1) w.heap.size rfl (.tmp 5) (.tmp 6) 24 49 (.agg #[.int .i64 0, .int .i64 0, .int .i64 0, .int .i64 0, .int .i64 0, .int .i64 0]) 48 rfl Tryz.underlying24 row49 rfl (by decide) (by decide) v1 [] l (some ad) l.length c (fun _ => True) (fun _ => False) rfl rfl HO1.out HR1.out (fun x cs h => (fun _ _ h => k49_KM h) x cs h) (fun _ h => h.elim) (fun _ _ => trivial) HB1.out HB1.out.size (by simp; omega) ?_; intro v2 w2 ho2 hb2 hg2 hn2; rw [List.nil_append] at ho2; have HO2 := Aside0.mk ho2; have HB2 := Aside0.mk hb2; clear ho2 hb2 hg2 hn2))
    go_ret
    exact ⟨_, rfl, HO2.out, HB2.out⟩
end Go.Proofs.YtgalkkolbobmbaaGreat.V
/- What a run of a piece works on: in plain Lean, and how it lies in memory. -/
namespace Go.Proofs.YtgalkkolbobmbaaGreat.V
open Go.RowKit Go.Proofs.YtgalkkolbobmbaaGreatW.PrintWords Go.Proofs.YtgalkkolbobmbaaGreatW.PrintLast Go.Proofs.YtgalkkolbobmbaaGreatW.PrintMore
set_option linter.unusedVariables false
set_option linter.unusedSimpArgs false

structure RS where
  regs : List Int
  fl : Int
  put : List Int
  ns : List Int
  nm : List Int
def setI (l : List Int) (i v : Int) : Option (List Int) := if 0 ≤ i ∧ i < (l.length : Int) then some (l.set i.toNat v) else none
theorem setI_some {l l' : List Int} {i v : Int} (h : setI l i v = some l') : 0 ≤ i ∧ i < (l.length : Int) ∧ l' = l.set i.toNat v := by
  unfold setI at h
  split at h
  · rename_i hc
    exact ⟨hc.1, hc.2, (Option.some.inj h).symm⟩
  · exact absurd h (by simp)
/-- One instruction: the counter (ahead of its step), and what it leaves. -/
def stepV (O : Int → Int → Int → Int → Option (Int × Int)) (inn st mem : List Int) (raised : List Bool) (x : S49) (pc : Int) (s : RS) : Option (Int × RS) :=
  if x.f0 = 19 then (atV s.regs x.f2).bind fun v => some (if v = 0 then wrap64 (pc + x.f3) else pc, s)
  else if x.f0 = 20 then (atV s.regs x.f2).bind fun v => (setI s.put x.f1 v).bind fun l => some (pc, { s with put := l })
  else if x.f0 = 21 then (atV s.regs x.f2).bind fun v => (setI s.nm x.f1 v).bind fun l => some (pc, { s with nm := l })
  else if x.f0 = 22 then (atV s.regs x.f2).bind fun v => (setI s.ns x.f1 v).bind fun l => some (pc, { s with ns := l })
  else (loadV inn st mem raised x).bind fun r => if r.2 = true then (setI s.regs x.f1 r.1).bind fun l => some (pc, { s with regs := l })
    else (atV s.regs x.f2).bind fun a => (atV s.regs x.f3).bind fun b => (atV s.regs x.f4).bind fun c => (if 0 ≤ x.f0 ∧ x.f0 < 23 then O x.f0 a b c else none).bind fun q =>
      (setI s.regs x.f1 q.1).bind fun l => some (pc, { s with regs := l, fl := Go.bits .or .i64 s.fl q.2 })
/-- The rounds: the counter, how many were done. -/
def runV (O : Int → Int → Int → Int → Option (Int × Int)) (inn st mem : List Int) (raised : List Bool) (l : List S49) : Nat → Int → Int → RS → Option (RS × Int)
  | 0, _, _, _ => none
  | k + 1, pc, dn, s => if pc < (l.length : Int) then (if 0 ≤ pc then (stepV O inn st mem raised (rd_T49 l pc) pc s).bind fun r => runV O inn st mem raised l k (wrap64 (r.1 + 1)) (wrap64 (dn + 1)) r.2 else none) else some (s, dn)

/-- The blocks that a run writes. -/
def S0 (Bm : Nat) (gP gS gM : Option Nat) : Nat → Prop := fun k => k = Bm ∨ some k = gP ∨ some k = gS ∨ some k = gM
theorem addr_block (ad : Addr) (n : Nat) : (ad.add n).block = ad.block := by
  unfold Addr.add
  first
    | rfl
    | (split <;> rfl)
theorem C_keep {α : Type} {d : Kd α} {S : Nat → Prop} {w w1 : World} {A : Option Addr} {n : Nat} {l : List α} (h : d.C w A n l) (hn : ∀ ad, A = some ad → 0 < n → ¬ S ad.block) (hc : Chg S w w1) (hK : ∀ x cs, d.K w x cs → d.K w1 x cs) : d.C w1 A n l :=
  ⟨h.1, h.2.1, fun h0 => by
    obtain ⟨ad, e, hr⟩ := h.2.2 h0
    refine ⟨ad, e, fun j p hj => ?_⟩
    obtain ⟨c, hs, hp, hcell⟩ := hr j p hj
    refine ⟨c, hs, hK _ _ hp, fun i u hu => ?_⟩
    have hx := hcell i u hu
    have hlt := World.block_lt_of_cell? w _ hx
    exact (World.cell?_of_block (w := w) (hc.block (ad.add (j * d.sz + i)).block hlt (fun hs => hn ad e h0 ((addr_block ad _) ▸ hs)))).trans hx⟩
theorem k49_keep {w w1 : World} {x : S49} {cs : List Value} (h : k49.K w x cs) : k49.K w1 x cs := by
  rw [k49_open h]
  exact k49_mk _ x

/-- What stands all through a run, in its first world. -/
structure RunC (w0 : World) (Bm Bk : Nat) (AL A0 A1 A2 A3 : Option Addr) (c0 c1 c2 c3 : Nat) (vP vS vM : Value) (gP gS gM : Option Nat) (l : List S49) (inn st mem : List Int) (raised : List Bool) : Prop where
  bk : w0.heap[Bk]? = some (.cells #[.slice A0 inn.length c0, .slice A1 st.length c1, .slice A2 mem.length c2, .slice A3 raised.length c3, vP, vS, vM] 121 (0, 0))
  code : Kd.C k49 w0 AL l.length l
  r0 : Kd.C (Kd.int .i64) w0 A0 inn.length inn
  r1 : Kd.C (Kd.int .i64) w0 A1 st.length st
  r2 : Kd.C (Kd.int .i64) w0 A2 mem.length mem
  r3 : Kd.C Kd.bool w0 A3 raised.length raised
  nBk : ¬ S0 Bm gP gS gM Bk
  nL : ∀ ad, AL = some ad → 0 < l.length → ¬ S0 Bm gP gS gM ad.block
  n0 : ∀ ad, A0 = some ad → 0 < inn.length → ¬ S0 Bm gP gS gM ad.block
  n1 : ∀ ad, A1 = some ad → 0 < st.length → ¬ S0 Bm gP gS gM ad.block
  n2 : ∀ ad, A2 = some ad → 0 < mem.length → ¬ S0 Bm gP gS gM ad.block
  n3 : ∀ ad, A3 = some ad → 0 < raised.length → ¬ S0 Bm gP gS gM ad.block
  dP : some Bm ≠ gP
  dS : some Bm ≠ gS
  dM : some Bm ≠ gM
  dPS : ∀ k, some k = gP → some k ≠ gS
  dPM : ∀ k, some k = gP → some k ≠ gM
  dSM : ∀ k, some k = gS → some k ≠ gM
  lP : ∀ k, some k = gP → k < w0.heap.size
  lS : ∀ k, some k = gS → k < w0.heap.size
  lM : ∀ k, some k = gM → k < w0.heap.size
  lB : Bm < w0.heap.size

/-- A round's world. -/
structure RunW (w0 : World) (Bm : Nat) (cs : Array Value) (vP vS vM : Value) (gP gS gM : Option Nat) (bP : Nat) (Gr gR : Nat) (A : Option Addr) (cR nr : Nat) (s : RS) (dn : Int) (w : World) : Prop where
  chg : Chg (S0 Bm gP gS gM) w0 w
  mach : w.heap[Bm]? = some (.cells (cs.setIfInBounds 34 (.int .i64 dn)) 112 (0, 0))
  box : w.heap[Gr]? = some (.cells #[.slice A nr cR] 23 (0, 0))
  regs : Kd.R (Kd.int .i64) 2 w w0.heap.size (fun k => k = gR) (.slice A nr cR) s.regs
  rl : s.regs.length = nr
  put : Kd.R (Kd.int .i64) 2 w bP (fun k => some k = gP) vP s.put
  ns : Kd.R (Kd.int .i64) 2 w bP (fun k => some k = gS) vS s.ns
  nm : Kd.R (Kd.int .i64) 2 w bP (fun k => some k = gM) vM s.nm
  hGr : w0.heap.size ≤ Gr
  hgR : w0.heap.size ≤ gR
section
variable {w0 : World} {Bm Bk : Nat} {cs : Array Value} {AL A0 A1 A2 A3 : Option Addr} {c0 c1 c2 c3 : Nat} {vP vS vM : Value} {gP gS gM : Option Nat} {bP Gr gR : Nat} {A : Option Addr} {cR nr : Nat} {s : RS} {dn : Int} {w w' : World} {l : List S49} {inn st mem : List Int} {raised : List Bool}
theorem RunW.below (h : RunW w0 Bm cs vP vS vM gP gS gM bP Gr gR A cR nr s dn w) (hb : Below w.heap.size w w') : RunW w0 Bm cs vP vS vM gP gS gM bP Gr gR A cR nr s dn w' :=
  ⟨h.chg.below hb, (hb.block _ (lt_of_block h.mach)).trans h.mach, (hb.block _ (lt_of_block h.box)).trans h.box, Kd.R_below h.regs hb, h.rl, Kd.R_below h.put hb, Kd.R_below h.ns hb, Kd.R_below h.nm hb, h.hGr, h.hgR⟩
theorem RunW.drew (h : RunW w0 Bm cs vP vS vM gP gS gM bP Gr gR A cR nr s dn w) : RunW w0 Bm cs vP vS vM gP gS gM bP Gr gR A cR nr s dn w.drew := h.below (below_drew1 (Below.refl _ _))
theorem RunW.done (h : RunW w0 Bm cs vP vS vM gP gS gM bP Gr gR A cR nr s dn w) (hC : RunC w0 Bm Bk AL A0 A1 A2 A3 c0 c1 c2 c3 vP vS vM gP gS gM l inn st mem raised) (dn' : Int) :
    RunW w0 Bm cs vP vS vM gP gS gM bP Gr gR A cR nr s dn' (w.setCell ⟨Bm, 34, none⟩ (.int .i64 dn')) := by
  have hne : ∀ k, k ≠ Bm → (w.setCell ⟨Bm, 34, none⟩ (.int .i64 dn')).heap[k]? = w.heap[k]? := fun k hk => heap_setCell_other w ⟨Bm, 34, none⟩ k _ hk
  refine ⟨h.chg.setCell (.inl (.inl rfl)) _, ?_, (hne _ (by have := h.hGr; have := hC.lB; omega)).trans h.box, Kd.R_step h.regs (fun k hk _ => hne k (by have := h.hgR; have := hC.lB; omega)), h.rl,
    Kd.R_step h.put (fun k hk _ => hne k (fun e => hC.dP (by rw [← e]; exact hk))), Kd.R_step h.ns (fun k hk _ => hne k (fun e => hC.dS (by rw [← e]; exact hk))), Kd.R_step h.nm (fun k hk _ => hne k (fun e => hC.dM (by rw [← e]; exact hk))), h.hGr, h.hgR⟩
  rw [heap_setCell_same w Bm 34 _ 112 _ h.mach, Array.setIfInBounds_setIfInBounds]
theorem RunW.setRegs (h : RunW w0 Bm cs vP vS vM gP gS gM bP Gr gR (some ⟨gR, 0, none⟩) cR nr s dn w) (hC : RunC w0 Bm Bk AL A0 A1 A2 A3 c0 c1 c2 c3 vP vS vM gP gS gM l inn st mem raised) (i v : Int) (fl' : Int) :
    RunW w0 Bm cs vP vS vM gP gS gM bP Gr gR (some ⟨gR, 0, none⟩) cR nr { s with regs := s.regs.set i.toNat v, fl := fl' } dn (w.setCell ⟨gR, i.toNat, none⟩ (.int .i64 v)) := by
  have hne : ∀ k, k ≠ gR → (w.setCell ⟨gR, i.toNat, none⟩ (.int .i64 v)).heap[k]? = w.heap[k]? := fun k hk => heap_setCell_other w ⟨gR, i.toNat, none⟩ k _ hk
  have hl := h.rl
  have hr := h.regs
  rw [← hl] at hr
  have hp := (Kd.R_put hr i v).1
  rw [hl] at hp
  have hGg : Gr ≠ gR := fun e => by
    obtain ⟨inner, ho⟩ := Kd.R_own h.regs
    obtain ⟨cells, hc⟩ := own_typed ho gR rfl
    have hb := h.box
    rw [e, hc] at hb
    injection hb with hb
    injection hb with _ hb
    exact absurd hb (by decide)
  refine ⟨h.chg.setCell (.inr h.hgR) _, (hne _ (by have := h.hgR; have := hC.lB; omega)).trans h.mach, (hne _ hGg).trans h.box, hp, by simp [hl],
    Kd.R_step h.put (fun k hk _ => hne k (by have := h.hgR; have := hC.lP k hk; omega)), Kd.R_step h.ns (fun k hk _ => hne k (by have := h.hgR; have := hC.lS k hk; omega)), Kd.R_step h.nm (fun k hk _ => hne k (by have := h.hgR; have := hC.lM k hk; omega)), h.hGr, h.hgR⟩
theorem RunW.setPut {b cb : Nat} (h : RunW w0 Bm cs vP vS vM gP gS gM bP Gr gR A cR nr s dn w) (hC : RunC w0 Bm Bk AL A0 A1 A2 A3 c0 c1 c2 c3 vP vS vM gP gS gM l inn st mem raised) (hv : vP = .slice (some ⟨b, 0, none⟩) s.put.length cb) (i v : Int) :
    RunW w0 Bm cs vP vS vM gP gS gM bP Gr gR A cR nr { s with put := s.put.set i.toNat v } dn (w.setCell ⟨b, i.toNat, none⟩ (.int .i64 v)) := by
  have hne : ∀ k, k ≠ b → (w.setCell ⟨b, i.toNat, none⟩ (.int .i64 v)).heap[k]? = w.heap[k]? := fun k hk => heap_setCell_other w ⟨b, i.toNat, none⟩ k _ hk
  have hr := h.put
  rw [hv] at hr
  have hb : some b = gP := hr.1 b rfl
  have hlt : b < w0.heap.size := hC.lP b hb
  have hp := (Kd.R_put hr i v).1
  rw [← hv] at hp
  refine ⟨h.chg.setCell (.inl (.inr (.inl hb))) _, (hne _ (fun e => hC.dP (by rw [e]; exact hb))).trans h.mach, (hne _ (by have := h.hGr; omega)).trans h.box, Kd.R_step h.regs (fun k hk _ => hne k (by have := h.hgR; omega)), h.rl,
    hp, Kd.R_step h.ns (fun k hk _ => hne k (fun e => by subst e; exact hC.dPS _ hb hk)), Kd.R_step h.nm (fun k hk _ => hne k (fun e => by subst e; exact hC.dPM _ hb hk)), h.hGr, h.hgR⟩
theorem RunW.setNs {b cb : Nat} (h : RunW w0 Bm cs vP vS vM gP gS gM bP Gr gR A cR nr s dn w) (hC : RunC w0 Bm Bk AL A0 A1 A2 A3 c0 c1 c2 c3 vP vS vM gP gS gM l inn st mem raised) (hv : vS = .slice (some ⟨b, 0, none⟩) s.ns.length cb) (i v : Int) :
    RunW w0 Bm cs vP vS vM gP gS gM bP Gr gR A cR nr { s with ns := s.ns.set i.toNat v } dn (w.setCell ⟨b, i.toNat, none⟩ (.int .i64 v)) := by
  have hne : ∀ k, k ≠ b → (w.setCell ⟨b, i.toNat, none⟩ (.int .i64 v)).heap[k]? = w.heap[k]? := fun k hk => heap_setCell_other w ⟨b, i.toNat, none⟩ k _ hk
  have hr := h.ns
  rw [hv] at hr
  have hb : some b = gS := hr.1 b rfl
  have hlt : b < w0.heap.size := hC.lS b hb
  have hp := (Kd.R_put hr i v).1
  rw [← hv] at hp
  refine ⟨h.chg.setCell (.inl (.inr (.inr (.inl hb)))) _, (hne _ (fun e => hC.dS (by rw [e]; exact hb))).trans h.mach, (hne _ (by have := h.hGr; omega)).trans h.box, Kd.R_step h.regs (fun k hk _ => hne k (by have := h.hgR; omega)), h.rl,
    Kd.R_step h.put (fun k hk _ => hne k (fun e => by subst e; exact hC.dPS _ hk hb)), hp, Kd.R_step h.nm (fun k hk _ => hne k (fun e => by subst e; exact hC.dSM _ hb hk)), h.hGr, h.hgR⟩
theorem RunW.setNm {b cb : Nat} (h : RunW w0 Bm cs vP vS vM gP gS gM bP Gr gR A cR nr s dn w) (hC : RunC w0 Bm Bk AL A0 A1 A2 A3 c0 c1 c2 c3 vP vS vM gP gS gM l inn st mem raised) (hv : vM = .slice (some ⟨b, 0, none⟩) s.nm.length cb) (i v : Int) :
    RunW w0 Bm cs vP vS vM gP gS gM bP Gr gR A cR nr { s with nm := s.nm.set i.toNat v } dn (w.setCell ⟨b, i.toNat, none⟩ (.int .i64 v)) := by
  have hne : ∀ k, k ≠ b → (w.setCell ⟨b, i.toNat, none⟩ (.int .i64 v)).heap[k]? = w.heap[k]? := fun k hk => heap_setCell_other w ⟨b, i.toNat, none⟩ k _ hk
  have hr := h.nm
  rw [hv] at hr
  have hb : some b = gM := hr.1 b rfl
  have hlt : b < w0.heap.size := hC.lM b hb
  have hp := (Kd.R_put hr i v).1
  rw [← hv] at hp
  refine ⟨h.chg.setCell (.inl (.inr (.inr (.inr hb)))) _, (hne _ (fun e => hC.dM (by rw [e]; exact hb))).trans h.mach, (hne _ (by have := h.hGr; omega)).trans h.box, Kd.R_step h.regs (fun k hk _ => hne k (by have := h.hgR; omega)), h.rl,
    Kd.R_step h.put (fun k hk _ => hne k (fun e => by subst e; exact hC.dPM _ hk hb)), Kd.R_step h.ns (fun k hk _ => hne k (fun e => by subst e; exact hC.dSM _ hk hb)), hp, h.hGr, h.hgR⟩
/-- The lists, as they read in a round. -/
theorem RunC.at_ (hC : RunC w0 Bm Bk AL A0 A1 A2 A3 c0 c1 c2 c3 vP vS vM gP gS gM l inn st mem raised) (h : Chg (S0 Bm gP gS gM) w0 w) :
    w.heap[Bk]? = some (.cells #[.slice A0 inn.length c0, .slice A1 st.length c1, .slice A2 mem.length c2, .slice A3 raised.length c3, vP, vS, vM] 121 (0, 0)) ∧ Kd.C k49 w AL l.length l ∧ Kd.C (Kd.int .i64) w A0 inn.length inn ∧ Kd.C (Kd.int .i64) w A1 st.length st ∧ Kd.C (Kd.int .i64) w A2 mem.length mem ∧ Kd.C Kd.bool w A3 raised.length raised :=
  ⟨(h.block _ (lt_of_block hC.bk) hC.nBk).trans hC.bk, C_keep hC.code hC.nL h (fun _ _ hk => k49_keep hk), C_keep hC.r0 hC.n0 h (fun _ _ hk => hk), C_keep hC.r1 hC.n1 h (fun _ _ hk => hk), C_keep hC.r2 hC.n2 h (fun _ _ hk => hk), C_keep hC.r3 hC.n3 h (fun _ _ hk => hk)⟩
/-- The number of a register, told by the closure. -/
theorem RunW.at_call (h : RunW w0 Bm cs vP vS vM gP gS gM bP Gr gR A cR nr s dn w) (hn : 0 < nr) (hm : nr ≤ 4000) (n r : Int) (hv : atV s.regs n = some r) :
    Calls Tryz.prog 129 #[.int .i64 n, .pointer (some ⟨Gr, 0, none⟩)] w fun e w' => e = .returned (.int .i64 r) ∧ w' = w := by
  have rl := h.rl
  obtain ⟨A', c', e, hc, hr⟩ := Kd.R_reads h.regs
  injection e with e1 e2 e3
  subst e1
  have hb := h.box
  rw [← rl] at hb
  exact at_any Gr A cR s.regs n r w hv (by omega) (by omega) hb hr
/-- A round's world behind its head: the instruction's box too. -/
structure Rnd (w0 : World) (Bm Bk : Nat) (cs : Array Value) (vP vS vM : Value) (gP gS gM : Option Nat) (bP : Nat) (Gr gR : Nat) (A : Option Addr) (cR nr : Nat) (s : RS) (dn : Int) (gx : Nat) (op d a b c v : Int) (w : World) : Prop where
  run : RunW w0 Bm cs vP vS vM gP gS gM bP Gr gR A cR nr s dn w
  box : w.heap[gx]? = some (.cells #[.int .i64 op, .int .i64 d, .int .i64 a, .int .i64 b, .int .i64 c, .int .i64 v] 49 (0, 0))
  new : w0.heap.size ≤ gx
variable {gx : Nat} {op d a b c v : Int}
theorem Rnd.below (h : Rnd w0 Bm Bk cs vP vS vM gP gS gM bP Gr gR A cR nr s dn gx op d a b c v w) (hb : Below w.heap.size w w') : Rnd w0 Bm Bk cs vP vS vM gP gS gM bP Gr gR A cR nr s dn gx op d a b c v w' :=
  ⟨h.run.below hb, (hb.block _ (lt_of_block h.box)).trans h.box, h.new⟩
theorem Rnd.drew (h : Rnd w0 Bm Bk cs vP vS vM gP gS gM bP Gr gR A cR nr s dn gx op d a b c v w) : Rnd w0 Bm Bk cs vP vS vM gP gS gM bP Gr gR A cR nr s dn gx op d a b c v w.drew := h.below (below_drew1 (Below.refl _ _))
theorem Rnd.x (h : Rnd w0 Bm Bk cs vP vS vM gP gS gM bP Gr gR A cR nr s dn gx op d a b c v w) : w.cell? ⟨gx, 0, none⟩ = some (.int .i64 op) ∧ w.cell? ⟨gx, 1, none⟩ = some (.int .i64 d) ∧ w.cell? ⟨gx, 2, none⟩ = some (.int .i64 a) ∧ w.cell? ⟨gx, 3, none⟩ = some (.int .i64 b) ∧ w.cell? ⟨gx, 4, none⟩ = some (.int .i64 c) ∧ w.cell? ⟨gx, 5, none⟩ = some (.int .i64 v) :=
  ⟨(blk_cell h.box 0).trans rfl, (blk_cell h.box 1).trans rfl, (blk_cell h.box 2).trans rfl, (blk_cell h.box 3).trans rfl, (blk_cell h.box 4).trans rfl, (blk_cell h.box 5).trans rfl⟩
theorem Rnd.bank (h : Rnd w0 Bm Bk cs vP vS vM gP gS gM bP Gr gR A cR nr s dn gx op d a b c v w) (hC : RunC w0 Bm Bk AL A0 A1 A2 A3 c0 c1 c2 c3 vP vS vM gP gS gM l inn st mem raised) : w.cell? ⟨Bk, 4, none⟩ = some vP ∧ w.cell? ⟨Bk, 5, none⟩ = some vS ∧ w.cell? ⟨Bk, 6, none⟩ = some vM :=
  have hb := (hC.at_ h.run.chg).1
  ⟨(blk_cell hb 4).trans rfl, (blk_cell hb 5).trans rfl, (blk_cell hb 6).trans rfl⟩
theorem Rnd.putR {q cb : Nat} (h : Rnd w0 Bm Bk cs vP vS vM gP gS gM bP Gr gR A cR nr s dn gx op d a b c v w) (hC : RunC w0 Bm Bk AL A0 A1 A2 A3 c0 c1 c2 c3 vP vS vM gP gS gM l inn st mem raised) (hv : vP = .slice (some ⟨q, 0, none⟩) s.put.length cb) (i z : Int) :
    Rnd w0 Bm Bk cs vP vS vM gP gS gM bP Gr gR A cR nr { s with put := s.put.set i.toNat z } dn gx op d a b c v (w.setCell ⟨q, i.toNat, none⟩ (.int .i64 z)) :=
  ⟨h.run.setPut hC hv i z, (heap_setCell_other w ⟨q, i.toNat, none⟩ gx _ (fun e => by
    have hr := h.run.put
    rw [hv] at hr
    have h1 := hC.lP q (hr.1 q rfl)
    have h2 := h.new
    have h3 : gx = q := e
    omega)).trans h.box, h.new⟩
theorem Rnd.putAt {q cb : Nat} (h : Rnd w0 Bm Bk cs vP vS vM gP gS gM bP Gr gR A cR nr s dn gx op d a b c v w) (hv : vP = .slice (some ⟨q, 0, none⟩) s.put.length cb) (i : Int) (h0 : 0 ≤ i) (h1 : i < (s.put.length : Int)) : w.cell? ⟨q, i.toNat, none⟩ = some (.int .i64 (rdOf 0 s.put i)) ∧ w.frozen? ⟨q, i.toNat, none⟩ = false := by
  have hr := h.run.put
  rw [hv] at hr
  exact Kd.R_cell (0 : Int) hr i h0 h1
theorem Rnd.nsR {q cb : Nat} (h : Rnd w0 Bm Bk cs vP vS vM gP gS gM bP Gr gR A cR nr s dn gx op d a b c v w) (hC : RunC w0 Bm Bk AL A0 A1 A2 A3 c0 c1 c2 c3 vP vS vM gP gS gM l inn st mem raised) (hv : vS = .slice (some ⟨q, 0, none⟩) s.ns.length cb) (i z : Int) :
    Rnd w0 Bm Bk cs vP vS vM gP gS gM bP Gr gR A cR nr { s with ns := s.ns.set i.toNat z } dn gx op d a b c v (w.setCell ⟨q, i.toNat, none⟩ (.int .i64 z)) :=
  ⟨h.run.setNs hC hv i z, (heap_setCell_other w ⟨q, i.toNat, none⟩ gx _ (fun e => by
    have hr := h.run.ns
    rw [hv] at hr
    have h1 := hC.lS q (hr.1 q rfl)
    have h2 := h.new
    have h3 : gx = q := e
    omega)).trans h.box, h.new⟩
theorem Rnd.nsAt {q cb : Nat} (h : Rnd w0 Bm Bk cs vP vS vM gP gS gM bP Gr gR A cR nr s dn gx op d a b c v w) (hv : vS = .slice (some ⟨q, 0, none⟩) s.ns.length cb) (i : Int) (h0 : 0 ≤ i) (h1 : i < (s.ns.length : Int)) : w.cell? ⟨q, i.toNat, none⟩ = some (.int .i64 (rdOf 0 s.ns i)) ∧ w.frozen? ⟨q, i.toNat, none⟩ = false := by
  have hr := h.run.ns
  rw [hv] at hr
  exact Kd.R_cell (0 : Int) hr i h0 h1
theorem Rnd.nmR {q cb : Nat} (h : Rnd w0 Bm Bk cs vP vS vM gP gS gM bP Gr gR A cR nr s dn gx op d a b c v w) (hC : RunC w0 Bm Bk AL A0 A1 A2 A3 c0 c1 c2 c3 vP vS vM gP gS gM l inn st mem raised) (hv : vM = .slice (some ⟨q, 0, none⟩) s.nm.length cb) (i z : Int) :
    Rnd w0 Bm Bk cs vP vS vM gP gS gM bP Gr gR A cR nr { s with nm := s.nm.set i.toNat z } dn gx op d a b c v (w.setCell ⟨q, i.toNat, none⟩ (.int .i64 z)) :=
  ⟨h.run.setNm hC hv i z, (heap_setCell_other w ⟨q, i.toNat, none⟩ gx _ (fun e => by
    have hr := h.run.nm
    rw [hv] at hr
    have h1 := hC.lM q (hr.1 q rfl)
    have h2 := h.new
    have h3 : gx = q := e
    omega)).trans h.box, h.new⟩
theorem Rnd.nmAt {q cb : Nat} (h : Rnd w0 Bm Bk cs vP vS vM gP gS gM bP Gr gR A cR nr s dn gx op d a b c v w) (hv : vM = .slice (some ⟨q, 0, none⟩) s.nm.length cb) (i : Int) (h0 : 0 ≤ i) (h1 : i < (s.nm.length : Int)) : w.cell? ⟨q, i.toNat, none⟩ = some (.int .i64 (rdOf 0 s.nm i)) ∧ w.frozen? ⟨q, i.toNat, none⟩ = false := by
  have hr := h.run.nm
  rw [hv] at hr
  exact Kd.R_cell (0 : Int) hr i h0 h1
theorem Rnd.regsAt (h : Rnd w0 Bm Bk cs vP vS vM gP gS gM bP Gr gR (some ⟨gR, 0, none⟩) cR nr s dn gx op d a b c v w) (i : Int) (h0 : 0 ≤ i) (h1 : i < (s.regs.length : Int)) : w.cell? ⟨gR, i.toNat, none⟩ = some (.int .i64 (rdOf 0 s.regs i)) ∧ w.frozen? ⟨gR, i.toNat, none⟩ = false := by
  have hr := h.run.regs
  rw [← h.run.rl] at hr
  exact Kd.R_cell (0 : Int) hr i h0 h1
end
end Go.Proofs.YtgalkkolbobmbaaGreat.V
