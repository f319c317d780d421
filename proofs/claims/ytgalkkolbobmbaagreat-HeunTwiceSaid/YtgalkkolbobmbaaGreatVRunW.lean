/- What a run of a piece works on: in plain Lean, and how it lies in memory. -/
import Derived.Test.YtgalkkolbobmbaaGreatVLoad
import Derived.Test.YtgalkkolbobmbaaGreatVClone

namespace Go.Proofs.YtgalkkolbobmbaaGreat.V
open Go.RowKit Go.Proofs.YtgalkkolbobmbaaGreatW.PrintWords Go.Proofs.YtgalkkolbobmbaaGreatW.PrintLast Go.Proofs.YtgalkkolbobmbaaGreatW.PrintMore
set_option linter.unusedVariables false
set_option linter.unusedSimpArgs false

structure RS where
 regs : List Int
 fl : Int
 put : List Int
 ns : List Int
 nm : List Int
def setI (l : List Int) (i v : Int) : Option (List Int) := if 0 ≤ i ∧ i < (l.length : Int) then some (l.set i.toNat v) else none
theorem setI_some {l l' : List Int} {i v : Int} (h : setI l i v = some l') : 0 ≤ i ∧ i < (l.length : Int) ∧ l' = l.set i.toNat v := by
 unfold setI at h
 split at h
 · rename_i hc
   exact ⟨hc.1, hc.2, (Option.some.inj h).symm⟩
 · exact absurd h (by simp)
/-- One instruction: the counter (ahead of its step), and what it leaves. -/
def stepV (O : Int → Int → Int → Int → Option (Int × Int)) (inn st mem : List Int) (raised : List Bool) (x : S49) (pc : Int) (s : RS) : Option (Int × RS) :=
 if x.f0 = 19 then (atV s.regs x.f2).bind fun v => some (if v = 0 then wrap64 (pc + x.f3) else pc, s)
 else if x.f0 = 20 then (atV s.regs x.f2).bind fun v => (setI s.put x.f1 v).bind fun l => some (pc, { s with put := l })
 else if x.f0 = 21 then (atV s.regs x.f2).bind fun v => (setI s.nm x.f1 v).bind fun l => some (pc, { s with nm := l })
 else if x.f0 = 22 then (atV s.regs x.f2).bind fun v => (setI s.ns x.f1 v).bind fun l => some (pc, { s with ns := l })
 else (loadV inn st mem raised x).bind fun r => if r.2 = true then (setI s.regs x.f1 r.1).bind fun l => some (pc, { s with regs := l })
  else (atV s.regs x.f2).bind fun a => (atV s.regs x.f3).bind fun b => (atV s.regs x.f4).bind fun c => (if 0 ≤ x.f0 ∧ x.f0 < 23 then O x.f0 a b c else none).bind fun q =>
   (setI s.regs x.f1 q.1).bind fun l => some (pc, { s with regs := l, fl := Go.bits .or .i64 s.fl q.2 })
/-- The rounds: the counter, how many were done. -/
def runV (O : Int → Int → Int → Int → Option (Int × Int)) (inn st mem : List Int) (raised : List Bool) (l : List S49) : Nat → Int → Int → RS → Option (RS × Int)
 | 0, _, _, _ => none
 | k + 1, pc, dn, s => if pc < (l.length : Int) then (if 0 ≤ pc then (stepV O inn st mem raised (rd_T49 l pc) pc s).bind fun r => runV O inn st mem raised l k (wrap64 (r.1 + 1)) (wrap64 (dn + 1)) r.2 else none) else some (s, dn)

/-- The blocks that a run writes. -/
def S0 (Bm : Nat) (gP gS gM : Option Nat) : Nat → Prop := fun k => k = Bm ∨ some k = gP ∨ some k = gS ∨ some k = gM
theorem addr_block (ad : Addr) (n : Nat) : (ad.add n).block = ad.block := by
 unfold Addr.add
 first
  | rfl
  | (split <;> rfl)
theorem C_keep {α : Type} {d : Kd α} {S : Nat → Prop} {w w1 : World} {A : Option Addr} {n : Nat} {l : List α} (h : d.C w A n l) (hn : ∀ ad, A = some ad → 0 < n → ¬ S ad.block) (hc : Chg S w w1) (hK : ∀ x cs, d.K w x cs → d.K w1 x cs) : d.C w1 A n l :=
 ⟨h.1, h.2.1, fun h0 => by
  obtain ⟨ad, e, hr⟩ := h.2.2 h0
  refine ⟨ad, e, fun j p hj => ?_⟩
  obtain ⟨c, hs, hp, hcell⟩ := hr j p hj
  refine ⟨c, hs, hK _ _ hp, fun i u hu => ?_⟩
  have hx := hcell i u hu
  have hlt := World.block_lt_of_cell? w _ hx
  exact (World.cell?_of_block (w := w) (hc.block (ad.add (j * d.sz + i)).block hlt (fun hs => hn ad e h0 ((addr_block ad _) ▸ hs)))).trans hx⟩
theorem k49_keep {w w1 : World} {x : S49} {cs : List Value} (h : k49.K w x cs) : k49.K w1 x cs := by
 rw [k49_open h]
 exact k49_mk _ x

/-- What stands all through a run, in its first world. -/
structure RunC (w0 : World) (Bm Bk : Nat) (AL A0 A1 A2 A3 : Option Addr) (c0 c1 c2 c3 : Nat) (vP vS vM : Value) (gP gS gM : Option Nat) (l : List S49) (inn st mem : List Int) (raised : List Bool) : Prop where
 bk : w0.heap[Bk]? = some (.cells #[.slice A0 inn.length c0, .slice A1 st.length c1, .slice A2 mem.length c2, .slice A3 raised.length c3, vP, vS, vM] 121 (0, 0))
 code : Kd.C k49 w0 AL l.length l
 r0 : Kd.C (Kd.int .i64) w0 A0 inn.length inn
 r1 : Kd.C (Kd.int .i64) w0 A1 st.length st
 r2 : Kd.C (Kd.int .i64) w0 A2 mem.length mem
 r3 : Kd.C Kd.bool w0 A3 raised.length raised
 nBk : ¬ S0 Bm gP gS gM Bk
 nL : ∀ ad, AL = some ad → 0 < l.length → ¬ S0 Bm gP gS gM ad.block
 n0 : ∀ ad, A0 = some ad → 0 < inn.length → ¬ S0 Bm gP gS gM ad.block
 n1 : ∀ ad, A1 = some ad → 0 < st.length → ¬ S0 Bm gP gS gM ad.block
 n2 : ∀ ad, A2 = some ad → 0 < mem.length → ¬ S0 Bm gP gS gM ad.block
 n3 : ∀ ad, A3 = some ad → 0 < raised.length → ¬ S0 Bm gP gS gM ad.block
 dP : some Bm ≠ gP
 dS : some Bm ≠ gS
 dM : some Bm ≠ gM
 dPS : ∀ k, some k = gP → some k ≠ gS
 dPM : ∀ k, some k = gP → some k ≠ gM
 dSM : ∀ k, some k = gS → some k ≠ gM
 lP : ∀ k, some k = gP → k < w0.heap.size
 lS : ∀ k, some k = gS → k < w0.heap.size
 lM : ∀ k, some k = gM → k < w0.heap.size
 lB : Bm < w0.heap.size

/-- A round's world. -/
structure RunW (w0 : World) (Bm : Nat) (cs : Array Value) (vP vS vM : Value) (gP gS gM : Option Nat) (bP : Nat) (Gr gR : Nat) (A : Option Addr) (cR nr : Nat) (s : RS) (dn : Int) (w : World) : Prop where
 chg : Chg (S0 Bm gP gS gM) w0 w
 mach : w.heap[Bm]? = some (.cells (cs.setIfInBounds 34 (.int .i64 dn)) 112 (0, 0))
 box : w.heap[Gr]? = some (.cells #[.slice A nr cR] 23 (0, 0))
 regs : Kd.R (Kd.int .i64) 2 w w0.heap.size (fun k => k = gR) (.slice A nr cR) s.regs
 rl : s.regs.length = nr
 put : Kd.R (Kd.int .i64) 2 w bP (fun k => some k = gP) vP s.put
 ns : Kd.R (Kd.int .i64) 2 w bP (fun k => some k = gS) vS s.ns
 nm : Kd.R (Kd.int .i64) 2 w bP (fun k => some k = gM) vM s.nm
 hGr : w0.heap.size ≤ Gr
 hgR : w0.heap.size ≤ gR
section
variable {w0 : World} {Bm Bk : Nat} {cs : Array Value} {AL A0 A1 A2 A3 : Option Addr} {c0 c1 c2 c3 : Nat} {vP vS vM : Value} {gP gS gM : Option Nat} {bP Gr gR : Nat} {A : Option Addr} {cR nr : Nat} {s : RS} {dn : Int} {w w' : World} {l : List S49} {inn st mem : List Int} {raised : List Bool}
theorem RunW.below (h : RunW w0 Bm cs vP vS vM gP gS gM bP Gr gR A cR nr s dn w) (hb : Below w.heap.size w w') : RunW w0 Bm cs vP vS vM gP gS gM bP Gr gR A cR nr s dn w' :=
 ⟨h.chg.below hb, (hb.block _ (lt_of_block h.mach)).trans h.mach, (hb.block _ (lt_of_block h.box)).trans h.box, Kd.R_below h.regs hb, h.rl, Kd.R_below h.put hb, Kd.R_below h.ns hb, Kd.R_below h.nm hb, h.hGr, h.hgR⟩
theorem RunW.drew (h : RunW w0 Bm cs vP vS vM gP gS gM bP Gr gR A cR nr s dn w) : RunW w0 Bm cs vP vS vM gP gS gM bP Gr gR A cR nr s dn w.drew := h.below (below_drew1 (Below.refl _ _))
theorem RunW.done (h : RunW w0 Bm cs vP vS vM gP gS gM bP Gr gR A cR nr s dn w) (hC : RunC w0 Bm Bk AL A0 A1 A2 A3 c0 c1 c2 c3 vP vS vM gP gS gM l inn st mem raised) (dn' : Int) :
 RunW w0 Bm cs vP vS vM gP gS gM bP Gr gR A cR nr s dn' (w.setCell ⟨Bm, 34, none⟩ (.int .i64 dn')) := by
 have hne : ∀ k, k ≠ Bm → (w.setCell ⟨Bm, 34, none⟩ (.int .i64 dn')).heap[k]? = w.heap[k]? := fun k hk => heap_setCell_other w ⟨Bm, 34, none⟩ k _ hk
 refine ⟨h.chg.setCell (.inl (.inl rfl)) _, ?_, (hne _ (by have := h.hGr; have := hC.lB; omega)).trans h.box, Kd.R_step h.regs (fun k hk _ => hne k (by have := h.hgR; have := hC.lB; omega)), h.rl,
  Kd.R_step h.put (fun k hk _ => hne k (fun e => hC.dP (by rw [← e]; exact hk))), Kd.R_step h.ns (fun k hk _ => hne k (fun e => hC.dS (by rw [← e]; exact hk))), Kd.R_step h.nm (fun k hk _ => hne k (fun e => hC.dM (by rw [← e]; exact hk))), h.hGr, h.hgR⟩
 rw [heap_setCell_same w Bm 34 _ 112 _ h.mach, Array.setIfInBounds_setIfInBounds]
theorem RunW.setRegs (h : RunW w0 Bm cs vP vS vM gP gS gM bP Gr gR (some ⟨gR, 0, none⟩) cR nr s dn w) (hC : RunC w0 Bm Bk AL A0 A1 A2 A3 c0 c1 c2 c3 vP vS vM gP gS gM l inn st mem raised) (i v : Int) (fl' : Int) :
 RunW w0 Bm cs vP vS vM gP gS gM bP Gr gR (some ⟨gR, 0, none⟩) cR nr { s with regs := s.regs.set i.toNat v, fl := fl' } dn (w.setCell ⟨gR, i.toNat, none⟩ (.int .i64 v)) := by
 have hne : ∀ k, k ≠ gR → (w.setCell ⟨gR, i.toNat, none⟩ (.int .i64 v)).heap[k]? = w.heap[k]? := fun k hk => heap_setCell_other w ⟨gR, i.toNat, none⟩ k _ hk
 have hl := h.rl
 have hr := h.regs
 rw [← hl] at hr
 have hp := (Kd.R_put hr i v).1
 rw [hl] at hp
 have hGg : Gr ≠ gR := fun e => by
  obtain ⟨inner, ho⟩ := Kd.R_own h.regs
  obtain ⟨cells, hc⟩ := own_typed ho gR rfl
  have hb := h.box
  rw [e, hc] at hb
  injection hb with hb
  injection hb with _ hb
  exact absurd hb (by decide)
 refine ⟨h.chg.setCell (.inr h.hgR) _, (hne _ (by have := h.hgR; have := hC.lB; omega)).trans h.mach, (hne _ hGg).trans h.box, hp, by simp [hl],
  Kd.R_step h.put (fun k hk _ => hne k (by have := h.hgR; have := hC.lP k hk; omega)), Kd.R_step h.ns (fun k hk _ => hne k (by have := h.hgR; have := hC.lS k hk; omega)), Kd.R_step h.nm (fun k hk _ => hne k (by have := h.hgR; have := hC.lM k hk; omega)), h.hGr, h.hgR⟩
theorem RunW.setPut {b cb : Nat} (h : RunW w0 Bm cs vP vS vM gP gS gM bP Gr gR A cR nr s dn w) (hC : RunC w0 Bm Bk AL A0 A1 A2 A3 c0 c1 c2 c3 vP vS vM gP gS gM l inn st mem raised) (hv : vP = .slice (some ⟨b, 0, none⟩) s.put.length cb) (i v : Int) :
 RunW w0 Bm cs vP vS vM gP gS gM bP Gr gR A cR nr { s with put := s.put.set i.toNat v } dn (w.setCell ⟨b, i.toNat, none⟩ (.int .i64 v)) := by
 have hne : ∀ k, k ≠ b → (w.setCell ⟨b, i.toNat, none⟩ (.int .i64 v)).heap[k]? = w.heap[k]? := fun k hk => heap_setCell_other w ⟨b, i.toNat, none⟩ k _ hk
 have hr := h.put
 rw [hv] at hr
 have hb : some b = gP := hr.1 b rfl
 have hlt : b < w0.heap.size := hC.lP b hb
 have hp := (Kd.R_put hr i v).1
 rw [← hv] at hp
 refine ⟨h.chg.setCell (.inl (.inr (.inl hb))) _, (hne _ (fun e => hC.dP (by rw [e]; exact hb))).trans h.mach, (hne _ (by have := h.hGr; omega)).trans h.box, Kd.R_step h.regs (fun k hk _ => hne k (by have := h.hgR; omega)), h.rl,
  hp, Kd.R_step h.ns (fun k hk _ => hne k (fun e => by subst e; exact hC.dPS _ hb hk)), Kd.R_step h.nm (fun k hk _ => hne k (fun e => by subst e; exact hC.dPM _ hb hk)), h.hGr, h.hgR⟩
theorem RunW.setNs {b cb : Nat} (h : RunW w0 Bm cs vP vS vM gP gS gM bP Gr gR A cR nr s dn w) (hC : RunC w0 Bm Bk AL A0 A1 A2 A3 c0 c1 c2 c3 vP vS vM gP gS gM l inn st mem raised) (hv : vS = .slice (some ⟨b, 0, none⟩) s.ns.length cb) (i v : Int) :
 RunW w0 Bm cs vP vS vM gP gS gM bP Gr gR A cR nr { s with ns := s.ns.set i.toNat v } dn (w.setCell ⟨b, i.toNat, none⟩ (.int .i64 v)) := by
 have hne : ∀ k, k ≠ b → (w.setCell ⟨b, i.toNat, none⟩ (.int .i64 v)).heap[k]? = w.heap[k]? := fun k hk => heap_setCell_other w ⟨b, i.toNat, none⟩ k _ hk
 have hr := h.ns
 rw [hv] at hr
 have hb : some b = gS := hr.1 b rfl
 have hlt : b < w0.heap.size := hC.lS b hb
 have hp := (Kd.R_put hr i v).1
 rw [← hv] at hp
 refine ⟨h.chg.setCell (.inl (.inr (.inr (.inl hb)))) _, (hne _ (fun e => hC.dS (by rw [e]; exact hb))).trans h.mach, (hne _ (by have := h.hGr; omega)).trans h.box, Kd.R_step h.regs (fun k hk _ => hne k (by have := h.hgR; omega)), h.rl,
  Kd.R_step h.put (fun k hk _ => hne k (fun e => by subst e; exact hC.dPS _ hk hb)), hp, Kd.R_step h.nm (fun k hk _ => hne k (fun e => by subst e; exact hC.dSM _ hb hk)), h.hGr, h.hgR⟩
theorem RunW.setNm {b cb : Nat} (h : RunW w0 Bm cs vP vS vM gP gS gM bP Gr gR A cR nr s dn w) (hC : RunC w0 Bm Bk AL A0 A1 A2 A3 c0 c1 c2 c3 vP vS vM gP gS gM l inn st mem raised) (hv : vM = .slice (some ⟨b, 0, none⟩) s.nm.length cb) (i v : Int) :
 RunW w0 Bm cs vP vS vM gP gS gM bP Gr gR A cR nr { s with nm := s.nm.set i.toNat v } dn (w.setCell ⟨b, i.toNat, none⟩ (.int .i64 v)) := by
 have hne : ∀ k, k ≠ b → (w.setCell ⟨b, i.toNat, none⟩ (.int .i64 v)).heap[k]? = w.heap[k]? := fun k hk => heap_setCell_other w ⟨b, i.toNat, none⟩ k _ hk
 have hr := h.nm
 rw [hv] at hr
 have hb : some b = gM := hr.1 b rfl
 have hlt : b < w0.heap.size := hC.lM b hb
 have hp := (Kd.R_put hr i v).1
 rw [← hv] at hp
 refine ⟨h.chg.setCell (.inl (.inr (.inr (.inr hb)))) _, (hne _ (fun e => hC.dM (by rw [e]; exact hb))).trans h.mach, (hne _ (by have := h.hGr; omega)).trans h.box, Kd.R_step h.regs (fun k hk _ => hne k (by have := h.hgR; omega)), h.rl,
  Kd.R_step h.put (fun k hk _ => hne k (fun e => by subst e; exact hC.dPM _ hk hb)), Kd.R_step h.ns (fun k hk _ => hne k (fun e => by subst e; exact hC.dSM _ hk hb)), hp, h.hGr, h.hgR⟩
/-- The lists, as_ they read in a round. -/
theorem RunC.at_ (hC : RunC w0 Bm Bk AL A0 A1 A2 A3 c0 c1 c2 c3 vP vS vM gP gS gM l inn st mem raised) (h : Chg (S0 Bm gP gS gM) w0 w) :
 w.heap[Bk]? = some (.cells #[.slice A0 inn.length c0, .slice A1 st.length c1, .slice A2 mem.length c2, .slice A3 raised.length c3, vP, vS, vM] 121 (0, 0)) ∧ Kd.C k49 w AL l.length l ∧ Kd.C (Kd.int .i64) w A0 inn.length inn ∧ Kd.C (Kd.int .i64) w A1 st.length st ∧ Kd.C (Kd.int .i64) w A2 mem.length mem ∧ Kd.C Kd.bool w A3 raised.length raised :=
 ⟨(h.block _ (lt_of_block hC.bk) hC.nBk).trans hC.bk, C_keep hC.code hC.nL h (fun _ _ hk => k49_keep hk), C_keep hC.r0 hC.n0 h (fun _ _ hk => hk), C_keep hC.r1 hC.n1 h (fun _ _ hk => hk), C_keep hC.r2 hC.n2 h (fun _ _ hk => hk), C_keep hC.r3 hC.n3 h (fun _ _ hk => hk)⟩
/-- The number of a register, told by the closure. -/
theorem RunW.at_call (h : RunW w0 Bm cs vP vS vM gP gS gM bP Gr gR A cR nr s dn w) (hn : 0 < nr) (hm : nr ≤ 4000) (n r : Int) (hv : atV s.regs n = some r) :
 Calls Tryz.prog 129 #[.int .i64 n, .pointer (some ⟨Gr, 0, none⟩)] w fun e w' => e = .returned (.int .i64 r) ∧ w' = w := by
 have rl := h.rl
 obtain ⟨A', c', e, hc, hr⟩ := Kd.R_reads h.regs
 injection e with e1 e2 e3
 subst e1
 have hb := h.box
 rw [← rl] at hb
 exact at_any Gr A cR s.regs n r w hv (by omega) (by omega) hb hr
/-- A round's world behind its head: the instruction's box too. -/
structure Rnd (w0 : World) (Bm Bk : Nat) (cs : Array Value) (vP vS vM : Value) (gP gS gM : Option Nat) (bP : Nat) (Gr gR : Nat) (A : Option Addr) (cR nr : Nat) (s : RS) (dn : Int) (gx : Nat) (op d a b c v : Int) (w : World) : Prop where
 run : RunW w0 Bm cs vP vS vM gP gS gM bP Gr gR A cR nr s dn w
 box : w.heap[gx]? = some (.cells #[.int .i64 op, .int .i64 d, .int .i64 a, .int .i64 b, .int .i64 c, .int .i64 v] 49 (0, 0))
 new : w0.heap.size ≤ gx
variable {gx : Nat} {op d a b c v : Int}
theorem Rnd.below (h : Rnd w0 Bm Bk cs vP vS vM gP gS gM bP Gr gR A cR nr s dn gx op d a b c v w) (hb : Below w.heap.size w w') : Rnd w0 Bm Bk cs vP vS vM gP gS gM bP Gr gR A cR nr s dn gx op d a b c v w' :=
 ⟨h.run.below hb, (hb.block _ (lt_of_block h.box)).trans h.box, h.new⟩
theorem Rnd.drew (h : Rnd w0 Bm Bk cs vP vS vM gP gS gM bP Gr gR A cR nr s dn gx op d a b c v w) : Rnd w0 Bm Bk cs vP vS vM gP gS gM bP Gr gR A cR nr s dn gx op d a b c v w.drew := h.below (below_drew1 (Below.refl _ _))
theorem Rnd.x (h : Rnd w0 Bm Bk cs vP vS vM gP gS gM bP Gr gR A cR nr s dn gx op d a b c v w) : w.cell? ⟨gx, 0, none⟩ = some (.int .i64 op) ∧ w.cell? ⟨gx, 1, none⟩ = some (.int .i64 d) ∧ w.cell? ⟨gx, 2, none⟩ = some (.int .i64 a) ∧ w.cell? ⟨gx, 3, none⟩ = some (.int .i64 b) ∧ w.cell? ⟨gx, 4, none⟩ = some (.int .i64 c) ∧ w.cell? ⟨gx, 5, none⟩ = some (.int .i64 v) :=
 ⟨(blk_cell h.box 0).trans rfl, (blk_cell h.box 1).trans rfl, (blk_cell h.box 2).trans rfl, (blk_cell h.box 3).trans rfl, (blk_cell h.box 4).trans rfl, (blk_cell h.box 5).trans rfl⟩
theorem Rnd.bank (h : Rnd w0 Bm Bk cs vP vS vM gP gS gM bP Gr gR A cR nr s dn gx op d a b c v w) (hC : RunC w0 Bm Bk AL A0 A1 A2 A3 c0 c1 c2 c3 vP vS vM gP gS gM l inn st mem raised) : w.cell? ⟨Bk, 4, none⟩ = some vP ∧ w.cell? ⟨Bk, 5, none⟩ = some vS ∧ w.cell? ⟨Bk, 6, none⟩ = some vM :=
 have hb := (hC.at_ h.run.chg).1
 ⟨(blk_cell hb 4).trans rfl, (blk_cell hb 5).trans rfl, (blk_cell hb 6).trans rfl⟩
theorem Rnd.putR {q cb : Nat} (h : Rnd w0 Bm Bk cs vP vS vM gP gS gM bP Gr gR A cR nr s dn gx op d a b c v w) (hC : RunC w0 Bm Bk AL A0 A1 A2 A3 c0 c1 c2 c3 vP vS vM gP gS gM l inn st mem raised) (hv : vP = .slice (some ⟨q, 0, none⟩) s.put.length cb) (i z : Int) :
 Rnd w0 Bm Bk cs vP vS vM gP gS gM bP Gr gR A cR nr { s with put := s.put.set i.toNat z } dn gx op d a b c v (w.setCell ⟨q, i.toNat, none⟩ (.int .i64 z)) :=
 ⟨h.run.setPut hC hv i z, (heap_setCell_other w ⟨q, i.toNat, none⟩ gx _ (fun e => by
  have hr := h.run.put
  rw [hv] at hr
  have h1 := hC.lP q (hr.1 q rfl)
  have h2 := h.new
  have h3 : gx = q := e
  omega)).trans h.box, h.new⟩
theorem Rnd.putAt {q cb : Nat} (h : Rnd w0 Bm Bk cs vP vS vM gP gS gM bP Gr gR A cR nr s dn gx op d a b c v w) (hv : vP = .slice (some ⟨q, 0, none⟩) s.put.length cb) (i : Int) (h0 : 0 ≤ i) (h1 : i < (s.put.length : Int)) : w.cell? ⟨q, i.toNat, none⟩ = some (.int .i64 (rdOf 0 s.put i)) ∧ w.frozen? ⟨q, i.toNat, none⟩ = false := by
 have hr := h.run.put
 rw [hv] at hr
 exact Kd.R_cell (0 : Int) hr i h0 h1
theorem Rnd.nsR {q cb : Nat} (h : Rnd w0 Bm Bk cs vP vS vM gP gS gM bP Gr gR A cR nr s dn gx op d a b c v w) (hC : RunC w0 Bm Bk AL A0 A1 A2 A3 c0 c1 c2 c3 vP vS vM gP gS gM l inn st mem raised) (hv : vS = .slice (some ⟨q, 0, none⟩) s.ns.length cb) (i z : Int) :
 Rnd w0 Bm Bk cs vP vS vM gP gS gM bP Gr gR A cR nr { s with ns := s.ns.set i.toNat z } dn gx op d a b c v (w.setCell ⟨q, i.toNat, none⟩ (.int .i64 z)) :=
 ⟨h.run.setNs hC hv i z, (heap_setCell_other w ⟨q, i.toNat, none⟩ gx _ (fun e => by
  have hr := h.run.ns
  rw [hv] at hr
  have h1 := hC.lS q (hr.1 q rfl)
  have h2 := h.new
  have h3 : gx = q := e
  omega)).trans h.box, h.new⟩
theorem Rnd.nsAt {q cb : Nat} (h : Rnd w0 Bm Bk cs vP vS vM gP gS gM bP Gr gR A cR nr s dn gx op d a b c v w) (hv : vS = .slice (some ⟨q, 0, none⟩) s.ns.length cb) (i : Int) (h0 : 0 ≤ i) (h1 : i < (s.ns.length : Int)) : w.cell? ⟨q, i.toNat, none⟩ = some (.int .i64 (rdOf 0 s.ns i)) ∧ w.frozen? ⟨q, i.toNat, none⟩ = false := by
 have hr := h.run.ns
 rw [hv] at hr
 exact Kd.R_cell (0 : Int) hr i h0 h1
theorem Rnd.nmR {q cb : Nat} (h : Rnd w0 Bm Bk cs vP vS vM gP gS gM bP Gr gR A cR nr s dn gx op d a b c v w) (hC : RunC w0 Bm Bk AL A0 A1 A2 A3 c0 c1 c2 c3 vP vS vM gP gS gM l inn st mem raised) (hv : vM = .slice (some ⟨q, 0, none⟩) s.nm.length cb) (i z : Int) :
 Rnd w0 Bm Bk cs vP vS vM gP gS gM bP Gr gR A cR nr { s with nm := s.nm.set i.toNat z } dn gx op d a b c v (w.setCell ⟨q, i.toNat, none⟩ (.int .i64 z)) :=
 ⟨h.run.setNm hC hv i z, (heap_setCell_other w ⟨q, i.toNat, none⟩ gx _ (fun e => by
  have hr := h.run.nm
  rw [hv] at hr
  have h1 := hC.lM q (hr.1 q rfl)
  have h2 := h.new
  have h3 : gx = q := e
  omega)).trans h.box, h.new⟩
theorem Rnd.nmAt {q cb : Nat} (h : Rnd w0 Bm Bk cs vP vS vM gP gS gM bP Gr gR A cR nr s dn gx op d a b c v w) (hv : vM = .slice (some ⟨q, 0, none⟩) s.nm.length cb) (i : Int) (h0 : 0 ≤ i) (h1 : i < (s.nm.length : Int)) : w.cell? ⟨q, i.toNat, none⟩ = some (.int .i64 (rdOf 0 s.nm i)) ∧ w.frozen? ⟨q, i.toNat, none⟩ = false := by
 have hr := h.run.nm
 rw [hv] at hr
 exact Kd.R_cell (0 : Int) hr i h0 h1
theorem Rnd.regsAt (h : Rnd w0 Bm Bk cs vP vS vM gP gS gM bP Gr gR (some ⟨gR, 0, none⟩) cR nr s dn gx op d a b c v w) (i : Int) (h0 : 0 ≤ i) (h1 : i < (s.regs.length : Int)) : w.cell? ⟨gR, i.toNat, none⟩ = some (.int .i64 (rdOf 0 s.regs i)) ∧ w.frozen? ⟨gR, i.toNat, none⟩ = false := by
 have hr := h.run.regs
 rw [← h.run.rl] at hr
 exact Kd.R_cell (0 : Int) hr i h0 h1
end
end Go.Proofs.YtgalkkolbobmbaaGreat.V
