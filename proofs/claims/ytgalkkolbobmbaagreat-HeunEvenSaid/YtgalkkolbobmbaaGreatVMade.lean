/- A machine's pieces: what banks fit, what a piece makes. -/
import Derived.Test.YtgalkkolbobmbaaGreatVNew
import Derived.Test.YtgalkkolbobmbaaGreatVRun
namespace Go.Proofs.YtgalkkolbobmbaaGreat.V
open Go.RowKit Go.Proofs.YtgalkkolbobmbaaGreatW.PrintWords Go.Proofs.YtgalkkolbobmbaaGreatW.PrintLast Go.Proofs.YtgalkkolbobmbaaGreatW.PrintMore
set_option linter.unusedVariables false
set_option linter.unusedSimpArgs false
section
variable {n Bm : Nat} {cs : Array Value} {v0 v1 v2 v3 v6 v7 v8 v9 : Value} {l0 l1 l2 l3 : List Int} {a4 a5 : Int} {l6 l7 l8 l9 : List S49} {dn : Int} {w w' : World}
theorem Mach.cell (h : Mach n Bm cs v0 v1 v2 v3 v6 v7 v8 v9 l0 l1 l2 l3 a4 a5 l6 l7 l8 l9 dn w) {j : Nat} {v : Value} (hj : j ≠ 34) (hv : cs[j]? = some v) : w.cell? ⟨Bm, j, none⟩ = some v := by
  rw [cell_of_row w Bm j _ _ _ h.blk, Array.getElem?_setIfInBounds_ne (fun e => hj e.symm)]
  exact hv
theorem Mach.done (h : Mach n Bm cs v0 v1 v2 v3 v6 v7 v8 v9 l0 l1 l2 l3 a4 a5 l6 l7 l8 l9 dn w) : w.cell? ⟨Bm, 34, none⟩ = some (.int .i64 dn) := by
  rw [cell_of_row w Bm 34 _ _ _ h.blk, Array.getElem?_setIfInBounds_self_of_lt (by rw [h.sz]; decide)]
theorem Mach.chg {dn' : Int} (h : Mach n Bm cs v0 v1 v2 v3 v6 v7 v8 v9 l0 l1 l2 l3 a4 a5 l6 l7 l8 l9 dn w) (hc : Chg (fun k => k = Bm) w w') (hb : w'.heap[Bm]? = some (.cells (cs.setIfInBounds 34 (.int .i64 dn')) 112 (0, 0))) : Mach n Bm cs v0 v1 v2 v3 v6 v7 v8 v9 l0 l1 l2 l3 a4 a5 l6 l7 l8 l9 dn' w' :=
  ⟨h.lo, hb, h.sz, h.rg, h.o0, h.o1, h.o2, h.o3, h.o4, h.o5, h.o6, h.o7, h.o8, h.o9,
    Kd.R_step h.r0 (fun k hk hl => hc.block k hl hk), Kd.R_step h.r1 (fun k hk hl => hc.block k hl hk), Kd.R_step h.r2 (fun k hk hl => hc.block k hl hk), Kd.R_step h.r3 (fun k hk hl => hc.block k hl hk),
    Kd.R_step h.r6 (fun k hk hl => hc.block k hl hk), Kd.R_step h.r7 (fun k hk hl => hc.block k hl hk), Kd.R_step h.r8 (fun k hk hl => hc.block k hl hk), Kd.R_step h.r9 (fun k hk hl => hc.block k hl hk),
    fun op ho => by
      obtain ⟨b, h1, h2, h3, h4⟩ := h.ops op ho
      exact ⟨b, h1, h2, h3, (hc.block b (lt_of_block h4) h2).trans h4⟩, h.pick⟩
theorem Mach.below (h : Mach n Bm cs v0 v1 v2 v3 v6 v7 v8 v9 l0 l1 l2 l3 a4 a5 l6 l7 l8 l9 dn w) (hb : Below w.heap.size w w') : Mach n Bm cs v0 v1 v2 v3 v6 v7 v8 v9 l0 l1 l2 l3 a4 a5 l6 l7 l8 l9 dn w' := h.chg (Chg.of_below hb _) ((hb.block _ (lt_of_block h.blk)).trans h.blk)
end
/-- A list that is read, beside block Bm. -/
structure LI (Bm : Nat) (w : World) (A : Option Addr) (l : List Int) : Prop where
  c : Kd.C (Kd.int .i64) w A l.length l
  ne : ∀ ad, A = some ad → 0 < l.length → ad.block ≠ Bm
theorem LI.chg {Bm : Nat} {w w' : World} {A : Option Addr} {l : List Int} (h : LI Bm w A l) (hc : Chg (fun k => k = Bm) w w') : LI Bm w' A l := ⟨C_keep h.c h.ne hc (fun _ _ hk => hk), h.ne⟩
theorem LI.below {Bm : Nat} {w w' : World} {A : Option Addr} {l : List Int} (h : LI Bm w A l) (hb : Below w.heap.size w w') : LI Bm w' A l := h.chg (Chg.of_below hb _)
theorem C_lt {α : Type} {d : Kd α} {w : World} {ad : Addr} {m : Nat} {l : List α} (h : d.C w (some ad) m l) (hp : 0 < m) (hz : 0 < d.sz) : ad.block < w.heap.size := by
  obtain ⟨ad', e, hc⟩ := h.2.2 hp
  injection e with e
  subst e
  have hl := h.1
  obtain ⟨c, hs, hk, hcell⟩ := hc 0 _ (List.getElem?_eq_getElem (show 0 < l.length by omega))
  have hx := hcell 0 _ (List.getElem?_eq_getElem (show 0 < c.length by omega))
  have := World.block_lt_of_cell? w _ hx
  rwa [addr_block] at this
/-- A row of one's own is read, beside the blocks that it is not. -/
theorem R_list {α : Type} {d : Kd α} {e base : Nat} {w : World} {ok : Nat → Prop} {v : Value} {l : List α} (h : d.R e w base ok v l) : ∃ A c, v = .slice A l.length c ∧ l.length ≤ c ∧ d.C w A l.length l ∧ ∀ ad, A = some ad → 0 < l.length → ok ad.block := by
  obtain ⟨A, c, hv, hl, hc⟩ := Kd.R_reads h
  refine ⟨A, c, hv, hl, hc, fun ad ha hp => ?_⟩
  obtain ⟨g, cap, hg, -, -, -⟩ := Kd.R_form h hp
  rw [hv] at hg
  injection hg with h1 h2 h3
  rw [ha] at h1
  injection h1 with h1
  have := h.1 g (by rw [hv, ha, h1]; rfl)
  rw [h1]
  exact this
/-- The operators are what O tells, wherever their boxes stand. -/
def OpsFor (cs : Array Value) (O : Int → Int → Int → Int → Option (Int × Int)) : Prop :=
  ∀ (w0 : World) (S : Nat → Prop), (∀ op, op ∈ [17, 16, 15, 14, 13, 7, 12, 11, 10, 9, 8, 6] → ∃ b, ¬ S b ∧ cs[11 + op]? = some (.func (.func (opOuter op)) #[] #[.pointer (some ⟨b, 0, none⟩)]) ∧ w0.heap[b]? = some (.cells #[.func (.func (opInner op)) #[] #[]] (opType op) (0, 0))) → cs[29]? = some (.func (.func 127) #[] #[]) → OpsOk w0 S cs O
set_option maxHeartbeats 1000000 in
set_option maxRecDepth 100000 in
theorem fits_any {n Bm : Nat} {cs : Array Value} {v0 v1 v2 v3 v6 v7 v8 v9 : Value} {l0 l1 l2 l3 : List Int} {a4 a5 : Int} {l6 l7 l8 l9 : List S49} {dn : Int} {w : World} (h : Mach n Bm cs v0 v1 v2 v3 v6 v7 v8 v9 l0 l1 l2 l3 a4 a5 l6 l7 l8 l9 dn w) (Ai As Am : Option Addr) (ni ns nm ci cs' cm : Nat) :
    Calls Tryz.prog 69 #[.pointer (some ⟨Bm, 0, none⟩), .slice Ai ni ci, .slice As ns cs', .slice Am nm cm] w fun e w' => e = .returned (.int .i64 (if ni = l0.length ∧ ns = l2.length ∧ nm = l3.length then 0 else 13)) ∧ w' = w := by
  have k0 := h.cell (by decide) h.o0
  have k2 := h.cell (by decide) h.o2
  have k3 := h.cell (by decide) h.o3
  obtain ⟨B0, d0, rfl⟩ := Kd.R_slice h.r0
  obtain ⟨B2, d2, rfl⟩ := Kd.R_slice h.r2
  obtain ⟨B3, d3, rfl⟩ := Kd.R_slice h.r3
  clear h
  by_cases c1 : ni = l0.length
  · by_cases c2 : ns = l2.length
    · by_cases c3 : nm = l3.length
      · rw [if_pos ⟨c1, c2, c3⟩]
        subst c1 c2 c3
        go_enter Tryz.func69, Tryz.ntmps69
        go_wp2
        go_ret
        exact ⟨rfl, rfl⟩
      · rw [if_neg (fun hh => c3 hh.2.2)]
        subst c1 c2
        go_enter Tryz.func69, Tryz.ntmps69
        go_wp2
        go_ret
        exact ⟨rfl, rfl⟩
    · rw [if_neg (fun hh => c2 hh.2.1)]
      subst c1
      go_enter Tryz.func69, Tryz.ntmps69
      go_wp2
      go_ret
      exact ⟨rfl, rfl⟩
  · rw [if_neg (fun hh => c1 hh.1)]
    go_enter Tryz.func69, Tryz.ntmps69
    go_wp2
    go_ret
    exact ⟨rfl, rfl⟩
set_option maxHeartbeats 2000000 in
set_option maxRecDepth 100000 in
theorem made_any {n Bm : Nat} {cs : Array Value} {v0 v1 v2 v3 v6 v7 v8 v9 : Value} {l0 l1 l2 l3 : List Int} {a4 a5 : Int} {l6 l7 l8 l9 : List S49} {dn : Int} {w : World} (h : Mach n Bm cs v0 v1 v2 v3 v6 v7 v8 v9 l0 l1 l2 l3 a4 a5 l6 l7 l8 l9 dn w) (O : Int → Int → Int → Int → Option (Int × Int)) (hO : OpsFor cs O) (k nr many : Nat) (AL Ai As Am : Option Addr) (cl ci cs' cm : Nat) (l : List S49) (inn st mem : List Int)
    (hL : Kd.C k49 w AL l.length l) (hnL : ∀ ad, AL = some ad → 0 < l.length → ad.block ≠ Bm) (hi : LI Bm w Ai inn) (hs : LI Bm w As st) (hm : LI Bm w Am mem)
    (hmx : (if regsTo (four l6 l7 l8 l9) 4 < 1 then 1 else regsTo (four l6 l7 l8 l9) 4) = (nr : Int)) (hn0 : 0 < nr) (hn1 : nr ≤ 4000) (hmany : many ≤ 100000) (s' : RS) (dn' : Int)
    (hr : runV O inn st mem [] l k 0 dn ⟨List.replicate nr 0, 0, List.replicate many 0, [], []⟩ = some (s', dn')) :
    Calls Tryz.prog 70 #[.pointer (some ⟨Bm, 0, none⟩), .slice AL l.length cl, .int .i64 (many : Int), .slice Ai inn.length ci, .slice As st.length cs', .slice Am mem.length cm] w fun e w' => ∃ v, e = .returned (.tuple #[v, .int .i64 s'.fl, .int .i64 0]) ∧ Kd.R (Kd.int .i64) 2 w' w.heap.size (fun k => k ≠ Bm) v s'.put ∧ Mach n Bm cs v0 v1 v2 v3 v6 v7 v8 v9 l0 l1 l2 l3 a4 a5 l6 l7 l8 l9 dn' w' ∧ Chg (fun k => k = Bm) w w' := by
  have H := Aside0.mk h
  have HO := Aside0.mk hO
  have HL := Aside0.mk (And.intro hL hnL)
  have HI := Aside0.mk hi
  have HS := Aside0.mk hs
  have HM := Aside0.mk hm
  have HR := Aside0.mk hr
  have hlt : Bm < w.heap.size := lt_of_block h.blk
  clear h hO hL hnL hi hs hm hr
  go_enter Tryz.func70, Tryz.ntmps70
  go_wp2_with ((with_reducible refine gate_dst (N := 21) rfl ?_); refine Kd.R_make (Kd.int .i64) (w0 := w) w.heap.size 2 rfl (N := 21) rfl 23 _ _ rfl (many : Int) rfl rfl Tryz.underlying23 (.int .i64 0) 8 row2 rfl (by decide) (by decide) (0 : Int) (ok := fun k => k = w.heap.size) (okp := fun _ => False) rfl (fun _ hk => hk.elim) rfl (by omega) (by omega) (Below.refl _ _) (Nat.le_refl _) ?_; intro v1 w1 ho1 hb1 hg1 hn1'; rw [Int.toNat_natCast] at ho1; obtain ⟨AP, cP, hvP⟩ := Kd.R_slice ho1; rw [List.length_replicate] at hvP; subst hvP; have hlt1 : w.heap.size < w1.heap.size := (by obtain ⟨b, hb, -⟩ := hn1'; have e := ho1.1 b hb; have h2 := Kd.R_lt ho1 b hb; omega); have HO1 := Aside0.mk ho1; have HB1 := Aside0.mk hb1; clear ho1 hb1 hg1 hn1')
  obtain ⟨w2, hw2⟩ : ∃ z, (w1.alloc (Obj.cells #[.slice Ai inn.length ci, .slice As st.length cs', .slice Am mem.length cm, .slice none 0 0, .slice AP many cP, .slice none 0 0, .slice none 0 0] 121)) = z := ⟨_, rfl⟩
  have hb2 : Below w.heap.size w w2 := by rw [← hw2]; exact below_alloc HB1.out _
  have hb12 : Below w1.heap.size w1 w2 := by rw [← hw2]; exact below_alloc (Below.refl _ _) _
  have hbk : w2.heap[w1.heap.size]? = some (.cells #[.slice Ai inn.length ci, .slice As st.length cs', .slice Am mem.length cm, .slice none 0 0, .slice AP many cP, .slice none 0 0, .slice none 0 0] 121 (0, 0)) := by rw [← hw2]; exact blk_new w1 _
  have HP := Aside0.mk (Kd.R_mono (Kd.R_below HO1.out hb12) (ok' := fun k => some k = some w.heap.size) (fun _ hk => by rw [hk]))
  have hs2 : w2.heap.size = w1.heap.size + 1 := by rw [← hw2]; simp
  rw [hw2]
  clear hw2
  have M2 := H.out.below hb2
  have hC : RunC w2 Bm w1.heap.size AL Ai As Am none ci cs' cm 0 (.slice AP many cP) (.slice none 0 0) (.slice none 0 0) (some w.heap.size) none none l inn st mem [] := by
    have key : ∀ {α : Type} {d : Kd α} {A : Option Addr} {m : Nat} {xs : List α}, d.C w A m xs → 0 < d.sz → (∀ ad, A = some ad → 0 < m → ad.block ≠ Bm) → ∀ ad, A = some ad → 0 < m → ¬ S0 Bm (some w.heap.size) none none ad.block := fun hc hz hne ad ha hp hS => by
      subst ha
      have hlt := C_lt hc hp hz
      have h1 := hne ad rfl hp
      rcases hS with h2 | h2 | h2 | h2
      · exact h1 h2
      · injection h2 with h2; omega
      · cases h2
      · cases h2
    exact ⟨hbk, Kd.C_below HL.out.1 hb2, (HI.out.below hb2).c, (HS.out.below hb2).c, (HM.out.below hb2).c, ⟨rfl, by decide, fun hh => absurd hh (by simp)⟩,
      (fun hS => by
        rcases hS with h2 | h2 | h2 | h2
        · omega
        · injection h2 with h2; omega
        · cases h2
        · cases h2),
      key HL.out.1 (by decide) HL.out.2, key HI.out.c (by decide) HI.out.ne, key HS.out.c (by decide) HS.out.ne, key HM.out.c (by decide) HM.out.ne, (fun ad ha => by cases ha),
      (fun hh => by injection hh with hh; omega), (fun hh => by cases hh), (fun hh => by cases hh), (fun k _ hh => by cases hh), (fun k _ hh => by cases hh), (fun k hh => by cases hh), (fun k hh => by injection hh with hh; omega), (fun k hh => by cases hh), (fun k hh => by cases hh), by omega⟩
  have hO2 : OpsOk w2 (S0 Bm (some w.heap.size) none none) cs O := HO.out w2 _ (fun op ho => by
    obtain ⟨b, h1, h2, h3, h4⟩ := H.out.ops op ho
    have hlt := lt_of_block h4
    refine ⟨b, fun hS => ?_, h3, (hb2.block b hlt).trans h4⟩
    rcases hS with h5 | h5 | h5 | h5
    · exact h2 h5
    · injection h5 with h5; omega
    · cases h5
    · cases h5) H.out.pick
  refine (run_any O k w2 Bm w1.heap.size cs AL Ai As Am none cl ci cs' cm 0 _ _ _ (some w.heap.size) none none w.heap.size nr _ dn l inn st mem [] _ [] [] hC M2.blk M2.sz M2.rg hmx hn0 hn1 HP.out (Kd.R_nil _ _ _ _ _) (Kd.R_nil _ _ _ _ _) hO2 s' dn' HR.out).mono ?_
  rintro e w3 ⟨rfl, hc, hmach, hput, -, -⟩
  have hnb : ¬ S0 Bm (some w.heap.size) none none w1.heap.size := hC.nBk
  have kb : w3.cell? ⟨w1.heap.size, 4, none⟩ = some (.slice AP many cP) := (blk_cell ((hc.block _ (blk_lt hbk) hnb).trans hbk) 4).trans rfl
  have HCH := Aside0.mk (show Chg (fun k => k = Bm) w w3 from ((Chg.of_below hb2 (fun k => k = Bm)).then_ hc (fun i hi => by
    rcases hi with h5 | h5 | h5 | h5
    · exact .inl h5
    · injection h5 with h5; exact .inr (by omega)
    · cases h5
    · cases h5)))
  have HMA := Aside0.mk hmach
  have HPU := Aside0.mk (Kd.R_mono hput (ok' := fun k => k ≠ Bm) (fun k hk e => by injection hk with hk; omega))
  clear hbk hb2 hb12 hC hO2 hc hmach hput hnb M2
  go_wp2
  go_ret3
  exact ⟨_, rfl, HPU.out, H.out.chg HCH.out HMA.out, HCH.out⟩

end Go.Proofs.YtgalkkolbobmbaaGreat.V
