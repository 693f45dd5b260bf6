/- Part 20 of the proof: contracts of functions that the statement reaches. Conditions: as each theorem says. -/
import Derived.Test.YtponbabbabnaeaaGreatQa19
namespace Go.Proofs.YtponbabbabnaeaaGreat
open Go.RowKit
def GivesT (w : World) (r : Cs) (en : Ending) (w' : World) : Prop :=
  ∃ m : CM, en = .returned (.tuple #[.agg m.b.cells, .slice m.Ak m.pk.length m.ck, .slice m.Ad m.dl.length m.cd]) ∧ m.cs = r ∧ m.b.Reads w' ∧ m.b.Fits ∧ pkE.Box w' m.Ak m.pk ∧ Row w' m.Ad (entE.cells m.dl) ∧ Ext w w' ∧ m.b.New w.heap.size ∧ NewAt w.heap.size m.Ad (entE.cells m.dl)
theorem nine_far {w : World} {r q i : Nat} {a0 a1 a2 a3 a4 a5 a6 a7 a8 : Value} (h : q ≠ r) : ((((((((((w.setCell ⟨r, 0, none⟩ (a0)).setCell ⟨r, 1, none⟩ (a1)).setCell ⟨r, 2, none⟩ (a2)).setCell ⟨r, 3, none⟩ (a3)).setCell ⟨r, 4, none⟩ (a4)).setCell ⟨r, 5, none⟩ (a5)).setCell ⟨r, 6, none⟩ (a6)).setCell ⟨r, 7, none⟩ (a7)).setCell ⟨r, 8, none⟩ (a8))).drew.cell? ⟨q, i, none⟩ = w.cell? ⟨q, i, none⟩ := by
  have f : ∀ (W : World) (i' : Nat) (v : Value), (W.setCell ⟨r, i', none⟩ v).cell? ⟨q, i, none⟩ = W.cell? ⟨q, i, none⟩ := fun W i' v => World.cell?_setCell_far W _ _ v (Ne.symm h)
  have g : ∀ W : World, W.drew.cell? ⟨q, i, none⟩ = W.cell? ⟨q, i, none⟩ := fun _ => rfl
  rw [g, f, f, f, f, f, f, f, f, f]
theorem tick_out {w wE W : World} {B p : Nat} {col col' : Nat → Nat} {m : CM} {r : Cs} (h : CS wE B col p m) (s : Stp w.heap.size [8] col wE col' W) (hr : m.cs = r) (hx : Ext w W) (hc : ∀ k, k < w.heap.size → col k = 8) : GivesT w r (.returned (.tuple #[.agg m.b.cells, .slice m.Ak m.pk.length m.ck, .slice m.Ad m.dl.length m.cd])) W := by
  refine ⟨m, rfl, hr, ?_, h.fits, ⟨?_, fun k hk => ⟨(h.ki k hk).1, fun r hr => ?_⟩⟩, s.row h.dl.row (h.dc.row h.dl) (by simp), hx, h.lies.new hc, (h.dc.row h.dl).new hc (by decide)⟩
  · have := h.lies
    exact ⟨⟨s.row this.vs.1 this.vc (by simp), fun v hv => ⟨(this.vs.2 v hv).1, fun r hr => by have hr' := hr; simp only [viewE, List.mem_cons, List.not_mem_nil, or_false] at hr; subst hr; exact s.row ((this.vs.2 v hv).2 _ hr') (this.vi v hv) (by simp)⟩⟩, s.row this.log.row (this.lc.row this.log) (by simp), s.row this.pend this.pc (by simp), s.row this.marks.row (this.mc.row this.marks) (by simp), s.row this.fls.row (this.fc.row this.fls) (by simp), fun f hf => ⟨(this.fi f hf).1, fun r hr => by simp only [flE, List.mem_cons, List.not_mem_nil, or_false] at hr; subst hr; exact s.row (this.fi f hf).2.1 (this.fi f hf).2.2 (by simp)⟩⟩
  · exact s.row h.pk.row (h.kc.row h.pk) (by simp)
  · simp only [pkE, List.mem_cons, List.not_mem_nil, or_false] at hr
    subst hr
    exact s.row (h.ki k hk).2.1 (h.ki k hk).2.2 (by simp)
theorem cs_new {w : World} {B : Nat} {col : Nat → Nat} {b : BM} (hl : b.Lies w B col) (hf : b.Fits) (hp : b.pend.length ≤ b.cp) (hB : B ≤ w.heap.size) (v : Value) (t : TypeId) :
    CS ((w.alloc (.cells (⟨b, none, 0, [], none, 0, []⟩ : CM).cells 86)).alloc (.cells #[v] t)) B (paint (paint col w.heap.size 1) (w.heap.size + 1) 8) w.heap.size ⟨b, none, 0, [], none, 0, []⟩ := by
  have e : Ext w ((w.alloc (.cells (⟨b, none, 0, [], none, 0, []⟩ : CM).cells 86)).alloc (.cells #[v] t)) := (Ext.new _ _).trans (Ext.new _ _)
  refine ⟨(BIs.new _ _ _).ext (Ext.new _ _), by rw [paint_old (by omega), paint_new (Nat.le_refl _)], hB, hl.ext e (fun k hk => by rw [paint_old (by omega), paint_old hk]), Elem.Own.nil _ _, fun q hq => by simp [Value.ownBlock] at hq, fun k hk => by simp at hk, Elem.Own.nil _ _, fun q hq => by simp [Value.ownBlock] at hq, hf, hp⟩
set_option maxRecDepth 100000 in
set_option maxHeartbeats 1000000 in
theorem tick_open (b : BM) (w : World) (h : b.Reads w) (hf : b.Fits) (hv : validS b.st = true) (hop : openB b.st = true) :
    Calls Tryz.prog 14 #[.agg b.cells] w (GivesT w (tickF b.st)) := by
  have E0 : Hid (Ext w ((w.alloc (.cells #[.int .i64 b.self, .slice b.Av b.vs.length b.cv, .int .i64 b.base, .slice b.Al b.log.length b.cl, .int .i64 b.stable, .int .i64 b.sent, .slice b.Ap b.pend.length b.cp, .slice b.Am b.marks.length b.cm, .slice b.Af b.fls.length b.cf] 28)).alloc (.cells #[.int .i64 0, .slice none 0 0, .int .i64 0, .slice none 0 0, .int .i64 0, .int .i64 0, .slice none 0 0, .slice none 0 0, .slice none 0 0] 28))) := Lib.hid ((Ext.new _ _).trans (Ext.new _ _))
  have R0 := Lib.hid (h.ext E0.out); have HFT := Lib.hid hf
  have OK := Lib.hid (ok_valid hv)
  have HV := Lib.hid hv; have HOP := Lib.hid hop
  have HTF : Hid (tickF b.st = if leadB b.st then leadF ⟨b.st, [], []⟩ else followF ⟨b.st, [], []⟩) := Lib.hid (by unfold tickF; rw [if_neg (by rw [hv]; simp)]; unfold tickC; rw [if_pos hop])
  clear h hf hv hop
  unfold BM.cells
  go_enter Tryz.func14, Tryz.ntmps14
  go_wp2_with fail
  refine (valid12_any b _ R0.out HFT.out).mono ?_
  rintro en w1 ⟨rfl, hx1⟩
  have X1 := Lib.hid hx1
  have BR1 : Hid (BIs w1 (w.heap.size + 1) #[.int .i64 0, .slice none 0 0, .int .i64 0, .slice none 0 0, .int .i64 0, .int .i64 0, .slice none 0 0, .slice none 0 0, .slice none 0 0] 28) := Lib.hid (by have := BIs.ext (BIs.new (w.alloc (.cells #[.int .i64 b.self, .slice b.Av b.vs.length b.cv, .int .i64 b.base, .slice b.Al b.log.length b.cl, .int .i64 b.stable, .int .i64 b.sent, .slice b.Ap b.pend.length b.cp, .slice b.Am b.marks.length b.cm, .slice b.Af b.fls.length b.cf] 28)) #[.int .i64 0, .slice none 0 0, .int .i64 0, .slice none 0 0, .int .i64 0, .int .i64 0, .slice none 0 0, .slice none 0 0, .slice none 0 0] 28) hx1; simpa using this)
  have BP1 : Hid (BIs w1 w.heap.size #[.int .i64 b.self, .slice b.Av b.vs.length b.cv, .int .i64 b.base, .slice b.Al b.log.length b.cl, .int .i64 b.stable, .int .i64 b.sent, .slice b.Ap b.pend.length b.cp, .slice b.Am b.marks.length b.cm, .slice b.Af b.fls.length b.cf] 28) := Lib.hid (((BIs.new w #[.int .i64 b.self, .slice b.Av b.vs.length b.cv, .int .i64 b.base, .slice b.Al b.log.length b.cl, .int .i64 b.stable, .int .i64 b.sent, .slice b.Ap b.pend.length b.cp, .slice b.Am b.marks.length b.cm, .slice b.Af b.fls.length b.cf] 28).ext (Ext.new _ _)).ext hx1)
  clear hx1
  obtain ⟨q0, q1, q2, q3, q4, q5, q6, q7, q8⟩ := nine BP1.out
  rw [HV.out]
  have hp12 : Hid (w.heap.size + 1 < w1.heap.size) := Lib.hid BR1.out.lt
  go_wp2_with fail
  refine (clone_any b w1 (R0.out.ext X1.out) HFT.out).mono ?_
  rintro en w2 ⟨b', col, rfl, hst', hft', hli, hc8, hpo, hpc, hx2⟩
  obtain ⟨_, _, hvp, hcpb, _, _⟩ := hpo.slice
  have hcp : b'.pend.length ≤ b'.cp := by simp only [Value.slice.injEq] at hvp; omega
  have X2 := Lib.hid hx2; have HC8 := Lib.hid hc8; have HST := Lib.hid hst'
  have hlt2 : Hid (w1.heap.size ≤ w2.heap.size) := Lib.hid hx2.size
  have C3 : Hid (CS ((w2.alloc (.cells (⟨b', none, 0, [], none, 0, []⟩ : CM).cells 86)).alloc (.cells #[.pointer (some ⟨w2.heap.size, 0, none⟩)] 84)) w1.heap.size (paint (paint col w2.heap.size 1) (w2.heap.size + 1) 8) w2.heap.size ⟨b', none, 0, [], none, 0, []⟩) := Lib.hid (cs_new hli hft' hcp hx2.size _ _)
  have HFT' := Lib.hid hft'
  have BR3 : Hid (BIs ((w2.alloc (.cells (⟨b', none, 0, [], none, 0, []⟩ : CM).cells 86)).alloc (.cells #[.pointer (some ⟨w2.heap.size, 0, none⟩)] 84)) (w.heap.size + 1) #[.int .i64 0, .slice none 0 0, .int .i64 0, .slice none 0 0, .int .i64 0, .int .i64 0, .slice none 0 0, .slice none 0 0, .slice none 0 0] 28) := Lib.hid ((BR1.out.ext X2.out).ext ((Ext.new _ _).trans (Ext.new _ _)))
  have BV3 : Hid (BIs ((w2.alloc (.cells (⟨b', none, 0, [], none, 0, []⟩ : CM).cells 86)).alloc (.cells #[.pointer (some ⟨w2.heap.size, 0, none⟩)] 84)) (w2.heap.size + 1) #[.pointer (some ⟨w2.heap.size, 0, none⟩)] 84) := Lib.hid (by have := BIs.new (w2.alloc (.cells (⟨b', none, 0, [], none, 0, []⟩ : CM).cells 86)) #[.pointer (some ⟨w2.heap.size, 0, none⟩)] 84; simpa using this)
  have X3 : Hid (Ext w ((w2.alloc (.cells (⟨b', none, 0, [], none, 0, []⟩ : CM).cells 86)).alloc (.cells #[.pointer (some ⟨w2.heap.size, 0, none⟩)] 84))) := Lib.hid (((E0.out.trans X1.out).trans X2.out).trans ((Ext.new _ _).trans (Ext.new _ _)))
  clear hst' hft' hli hc8 hpo hpc hx2 hvp hcpb hcp q0 q1 q2 q3 q4 q5 q6 q7 q8
  have hvl : 0 < b'.vs.length := by
    have h1 := OK.out.vs
    rw [← HST.out] at h1
    simpa [BM.st, vws_len] using h1
  unfold BM.cells
  go_wp2_with fail
  unfold CM.cells at C3 BR3 BV3 X3
  simp only [List.length_nil] at C3 BR3 BV3 X3
  generalize (w2.alloc (.cells #[.int .i64 b'.self, .slice b'.Av b'.vs.length b'.cv, .int .i64 b'.base, .slice b'.Al b'.log.length b'.cl, .int .i64 b'.stable, .int .i64 b'.sent, .slice b'.Ap b'.pend.length b'.cp, .slice b'.Am b'.marks.length b'.cm, .slice b'.Af b'.fls.length b'.cf, .slice none 0 0, .slice none 0 0] 86)).alloc (.cells #[.pointer (some ⟨w2.heap.size, 0, none⟩)] 84) = w3 at *
  refine (open_any b' w3 C3.out.lies.reads hvl HFT'.out).mono ?_
  rintro en w4 ⟨rfl, hx4⟩
  rw [HST.out, HOP.out]
  have C4 := Lib.hid (C3.out.ext hx4)
  have BR4 := Lib.hid (BR3.out.ext hx4); have BV4 := Lib.hid (BV3.out.ext hx4); have X4 := Lib.hid (X3.out.trans hx4)
  clear hx4
  have v0 : w4.cell? ⟨w2.heap.size + 1, 0, none⟩ = some (.pointer (some ⟨w2.heap.size, 0, none⟩)) := BV4.out.cell 0
  have q0 : w4.cell? ⟨w2.heap.size, 0, none⟩ = some (.int .i64 b'.self) := C4.out.cell 0
  have q1 : w4.cell? ⟨w2.heap.size, 1, none⟩ = some (.slice b'.Av b'.vs.length b'.cv) := C4.out.cell 1
  have q2 : w4.cell? ⟨w2.heap.size, 2, none⟩ = some (.int .i64 b'.base) := C4.out.cell 2
  have q3 : w4.cell? ⟨w2.heap.size, 3, none⟩ = some (.slice b'.Al b'.log.length b'.cl) := C4.out.cell 3
  have q4 : w4.cell? ⟨w2.heap.size, 4, none⟩ = some (.int .i64 b'.stable) := C4.out.cell 4
  have q5 : w4.cell? ⟨w2.heap.size, 5, none⟩ = some (.int .i64 b'.sent) := C4.out.cell 5
  have q6 : w4.cell? ⟨w2.heap.size, 6, none⟩ = some (.slice b'.Ap b'.pend.length b'.cp) := C4.out.cell 6
  have q7 : w4.cell? ⟨w2.heap.size, 7, none⟩ = some (.slice b'.Am b'.marks.length b'.cm) := C4.out.cell 7
  have q8 : w4.cell? ⟨w2.heap.size, 8, none⟩ = some (.slice b'.Af b'.fls.length b'.cf) := C4.out.cell 8
  go_wp2_with fail
  refine (leads_any b' w4 C4.out.lies.reads hvl HFT'.out).mono ?_
  rintro en w5 ⟨rfl, hx5⟩
  rw [HST.out]
  have C5 := Lib.hid (C4.out.ext hx5)
  have BR5 := Lib.hid (BR4.out.ext hx5); have BV5 := Lib.hid (BV4.out.ext hx5); have X5 := Lib.hid (X4.out.trans hx5)
  clear hx5 v0 q0 q1 q2 q3 q4 q5 q6 q7 q8
  have v0 : w5.cell? ⟨w2.heap.size + 1, 0, none⟩ = some (.pointer (some ⟨w2.heap.size, 0, none⟩)) := BV5.out.cell 0
  cases hle : leadB b.st with
  | true =>
    have HR : Hid (tickF b.st = leadF ⟨b.st, [], []⟩) := Lib.hid (by rw [HTF.out, hle]; rfl)
    go_wp2_with fail
    refine (lead_any _ _ _ _ _ C5.out (by simp only; rw [HST.out]; exact OK.out) rfl rfl).mono ?_
    rintro en w6 ⟨m6, col6, rfl, hc6, hm6, hs6⟩
    have S6 := Lib.hid hs6
    have hME : Hid (m6.cs = tickF b.st) := Lib.hid (by rw [hm6, HR.out]; simp only [CM.cs, HST.out, List.map_nil])
    have X6 := X5
    have hcv8 : Hid ((paint (paint col w2.heap.size 1) (w2.heap.size + 1) 8) (w.heap.size + 1) = 8) := Lib.hid (by have h1 := hp12.out; have h2 := hlt2.out; rw [paint_old (by omega), paint_old (by omega)]; exact HC8.out _ h1)
    have hcvv : Hid ((paint (paint col w2.heap.size 1) (w2.heap.size + 1) 8) (w2.heap.size + 1) = 8) := Lib.hid (paint_new (Nat.le_refl _))
    have BRE := Lib.hid (S6.out.bis BR5.out (by rw [hcv8.out]; simp))
    have BVE := Lib.hid (S6.out.bis BV5.out (by rw [hcvv.out]; simp))
    have XE : Hid (Ext w w6) := Lib.hid (Below.trans X6.out (S6.out.below.mono (by have := hp12.out; omega)))
    have CE := Lib.hid hc6
    have HCO : Hid (∀ k, k < w.heap.size → col6 k = 8) := Lib.hid (fun k hk => (S6.out.hue _ (by have := X6.out.size; omega)).trans (by have h1 := hp12.out; have h2 := hlt2.out; rw [paint_old (by omega), paint_old (by omega)]; exact HC8.out _ (by omega)))
    have hc8E : Hid (col6 (w.heap.size + 1) = 8) := Lib.hid ((S6.out.hue _ BR5.out.lt).trans hcv8.out)
    have hne1 : w2.heap.size ≠ w.heap.size + 1 := by have h1 := hp12.out; have h2 := hlt2.out; omega
    have hne2 : w2.heap.size + 1 ≠ w.heap.size + 1 := by have h1 := hp12.out; have h2 := hlt2.out; omega
    have qv : w6.cell? ⟨w2.heap.size + 1, 0, none⟩ = some (.pointer (some ⟨w2.heap.size, 0, none⟩)) := BVE.out.cell 0
    have q0 := CE.out.cell 0; have q1 := CE.out.cell 1; have q2 := CE.out.cell 2; have q3 := CE.out.cell 3; have q4 := CE.out.cell 4; have q5 := CE.out.cell 5; have q6 := CE.out.cell 6; have q7 := CE.out.cell 7; have q8 := CE.out.cell 8; have q9 := CE.out.cell 9; have q10 := CE.out.cell 10
    clear hc6 hm6 hs6 v0
    obtain ⟨⟨self, base, stable, sent, Av, cv, vs, Al, cl, log, Ap, cp, pend, Am, cm, marks, Af, cf, fls⟩, Ak, ck, pk, Ad, cd, dl⟩ := m6
    go_wp2
    obtain ⟨wE, rfl⟩ : ∃ x, x = w6 := ⟨_, rfl⟩
    obtain ⟨colE, rfl⟩ : ∃ x, x = col6 := ⟨_, rfl⟩
    replace q0 : wE.cell? ⟨w2.heap.size, 0, none⟩ = some (.int .i64 self) := q0
    replace q1 : wE.cell? ⟨w2.heap.size, 1, none⟩ = some (.slice Av vs.length cv) := q1
    replace q2 : wE.cell? ⟨w2.heap.size, 2, none⟩ = some (.int .i64 base) := q2
    replace q3 : wE.cell? ⟨w2.heap.size, 3, none⟩ = some (.slice Al log.length cl) := q3
    replace q4 : wE.cell? ⟨w2.heap.size, 4, none⟩ = some (.int .i64 stable) := q4
    replace q5 : wE.cell? ⟨w2.heap.size, 5, none⟩ = some (.int .i64 sent) := q5
    replace q6 : wE.cell? ⟨w2.heap.size, 6, none⟩ = some (.slice Ap pend.length cp) := q6
    replace q7 : wE.cell? ⟨w2.heap.size, 7, none⟩ = some (.slice Am marks.length cm) := q7
    replace q8 : wE.cell? ⟨w2.heap.size, 8, none⟩ = some (.slice Af fls.length cf) := q8
    replace q9 : wE.cell? ⟨w2.heap.size, 9, none⟩ = some (.slice Ak pk.length ck) := q9
    replace q10 : wE.cell? ⟨w2.heap.size, 10, none⟩ = some (.slice Ad dl.length cd) := q10
    obtain ⟨y0, y1, y2, y3, y4, y5, y6, y7, y8⟩ := nine BRE.out
    obtain ⟨z0, z1, z2, z3, z4, z5, z6, z7, z8⟩ := BRE.out.free9
    refine E_begin 15 (fun w' => w'.cell? ⟨w2.heap.size, 0, none⟩ = some (.int .i64 self) ∧ w'.cell? ⟨w2.heap.size, 1, none⟩ = some (.slice Av vs.length cv) ∧ w'.cell? ⟨w2.heap.size, 2, none⟩ = some (.int .i64 base) ∧ w'.cell? ⟨w2.heap.size, 3, none⟩ = some (.slice Al log.length cl) ∧ w'.cell? ⟨w2.heap.size, 4, none⟩ = some (.int .i64 stable) ∧ w'.cell? ⟨w2.heap.size, 5, none⟩ = some (.int .i64 sent) ∧ w'.cell? ⟨w2.heap.size, 6, none⟩ = some (.slice Ap pend.length cp) ∧ w'.cell? ⟨w2.heap.size, 7, none⟩ = some (.slice Am marks.length cm) ∧ w'.cell? ⟨w2.heap.size, 8, none⟩ = some (.slice Af fls.length cf) ∧ w'.cell? ⟨w2.heap.size, 9, none⟩ = some (.slice Ak pk.length ck) ∧ w'.cell? ⟨w2.heap.size, 10, none⟩ = some (.slice Ad dl.length cd) ∧ w'.cell? ⟨w2.heap.size + 1, 0, none⟩ = some (.pointer (some ⟨w2.heap.size, 0, none⟩))) (by kernel_rfl) ⟨by simpa using q0, by simpa using q1, by simpa using q2, by simpa using q3, by simpa using q4, by simpa using q5, by simpa using q6, by simpa using q7, by simpa using q8, by simpa using q9, by simpa using q10, by simpa using qv⟩ (fun hHeld => ?_)
    refine E_tk 0 (oi := ⟨some 104, _, _, _, _, _⟩) (v := ?_) ?_ ?_
    rotate_left
    · (intro w9 hSw; (try dsimp only at hSw); go_simp <;> with_reducible rfl)
    try simp only [Act.put, l1, l2, l3]
    refine E_tk 1 (oi := ⟨some 105, _, _, _, _, _⟩) (v := ?_) ?_ ?_
    rotate_left
    · (intro w9 hSw; (try dsimp only at hSw); go_simp <;> with_reducible rfl)
    try simp only [Act.put, l1, l2, l3]
    refine E_tk 2 (oi := ⟨some 106, _, _, _, _, _⟩) (v := ?_) ?_ ?_
    rotate_left
    · (intro w9 hSw; (try dsimp only at hSw); go_simp <;> with_reducible rfl)
    try simp only [Act.put, l1, l2, l3]
    refine E_tk 3 (oi := ⟨some 107, _, _, _, _, _⟩) (v := ?_) ?_ ?_
    rotate_left
    · (intro w9 hSw; (try dsimp only at hSw); go_simp <;> with_reducible rfl)
    try simp only [Act.put, l1, l2, l3]
    refine E_tk 4 (oi := ⟨some 108, _, _, _, _, _⟩) (v := ?_) ?_ ?_
    rotate_left
    · (intro w9 hSw; (try dsimp only at hSw); go_simp <;> with_reducible rfl)
    try simp only [Act.put, l1, l2, l3]
    refine E_tk 5 (oi := ⟨some 109, _, _, _, _, _⟩) (v := ?_) ?_ ?_
    rotate_left
    · (intro w9 hSw; (try dsimp only at hSw); go_simp <;> with_reducible rfl)
    try simp only [Act.put, l1, l2, l3]
    refine E_tk 6 (oi := ⟨some 110, _, _, _, _, _⟩) (v := ?_) ?_ ?_
    rotate_left
    · (intro w9 hSw; (try dsimp only at hSw); go_simp <;> with_reducible rfl)
    try simp only [Act.put, l1, l2, l3]
    refine E_tk 7 (oi := ⟨some 111, _, _, _, _, _⟩) (v := ?_) ?_ ?_
    rotate_left
    · (intro w9 hSw; (try dsimp only at hSw); go_simp <;> with_reducible rfl)
    try simp only [Act.put, l1, l2, l3]
    refine E_tk 8 (oi := ⟨some 112, _, _, _, _, _⟩) (v := ?_) ?_ ?_
    rotate_left
    · (intro w9 hSw; (try dsimp only at hSw); go_simp <;> with_reducible rfl)
    try simp only [Act.put, l1, l2, l3]
    refine E_tk 9 (oi := ⟨some 113, _, _, _, _, _⟩) (v := ?_) ?_ ?_
    rotate_left
    · (intro w9 hSw; (try dsimp only at hSw); go_simp <;> with_reducible rfl)
    try simp only [Act.put, l1, l2, l3]
    refine E_tk 10 (oi := ⟨some 114, _, _, _, _, _⟩) (v := ?_) ?_ ?_
    rotate_left
    · (intro w9 hSw; (try dsimp only at hSw); go_simp <;> with_reducible rfl)
    try simp only [Act.put, l1, l2, l3]
    refine E_tk 11 (oi := ⟨some 115, _, _, _, _, _⟩) (v := ?_) ?_ ?_
    rotate_left
    · (intro w9 hSw; (try dsimp only at hSw); go_simp <;> with_reducible rfl)
    try simp only [Act.put, l1, l2, l3]
    refine E_ready [12] (by kernel_rfl) (by simp) ?_
    refine AllE.cons (o := ⟨none, _, _, _, _, _⟩) rfl (fun K hK => ?_) AllE.nil
    go_simp
    clear hHeld
    refine hK.out _ _ ⟨(nine_far hne1).trans q0, (nine_far hne1).trans q1, (nine_far hne1).trans q2, (nine_far hne1).trans q3, (nine_far hne1).trans q4, (nine_far hne1).trans q5, (nine_far hne1).trans q6, (nine_far hne1).trans q7, (nine_far hne1).trans q8, (nine_far hne1).trans q9, (nine_far hne1).trans q10, (nine_far hne2).trans qv⟩ (fun hHeld => ?_)
    clear hK K
    try simp only [Act.put, l1, l2, l3]
    refine E_tk 13 (oi := ⟨some 3, _, _, _, _, _⟩) (v := ?_) ?_ ?_
    rotate_left
    · (intro w9 hSw; (try dsimp only at hSw); go_simp <;> with_reducible rfl)
    try simp only [Act.put, l1, l2, l3]
    refine E_tk 14 (oi := ⟨some 4, _, _, _, _, _⟩) (v := ?_) ?_ ?_
    rotate_left
    · (intro w9 hSw; (try dsimp only at hSw); go_simp <;> with_reducible rfl)
    try simp only [Act.put, l1, l2, l3]
    refine E_end (by kernel_rfl) (by rfl) ?_
    go_wp2
    have BF : Hid (BIs (((((((((wE.setCell ⟨w.heap.size + 1, 0, none⟩ (.int .i64 self)).setCell ⟨w.heap.size + 1, 1, none⟩ (.slice Av vs.length cv)).setCell ⟨w.heap.size + 1, 2, none⟩ (.int .i64 base)).setCell ⟨w.heap.size + 1, 3, none⟩ (.slice Al log.length cl)).setCell ⟨w.heap.size + 1, 4, none⟩ (.int .i64 stable)).setCell ⟨w.heap.size + 1, 5, none⟩ (.int .i64 sent)).setCell ⟨w.heap.size + 1, 6, none⟩ (.slice Ap pend.length cp)).setCell ⟨w.heap.size + 1, 7, none⟩ (.slice Am marks.length cm)).setCell ⟨w.heap.size + 1, 8, none⟩ (.slice Af fls.length cf)).drew (w.heap.size + 1) #[.int .i64 self, .slice Av vs.length cv, .int .i64 base, .slice Al log.length cl, .int .i64 stable, .int .i64 sent, .slice Ap pend.length cp, .slice Am marks.length cm, .slice Af fls.length cf] 28) := Lib.hid ((nine_set BRE.out).ext Ext.drew1)
    have XFF : Hid (Ext w (((((((((wE.setCell ⟨w.heap.size + 1, 0, none⟩ (.int .i64 self)).setCell ⟨w.heap.size + 1, 1, none⟩ (.slice Av vs.length cv)).setCell ⟨w.heap.size + 1, 2, none⟩ (.int .i64 base)).setCell ⟨w.heap.size + 1, 3, none⟩ (.slice Al log.length cl)).setCell ⟨w.heap.size + 1, 4, none⟩ (.int .i64 stable)).setCell ⟨w.heap.size + 1, 5, none⟩ (.int .i64 sent)).setCell ⟨w.heap.size + 1, 6, none⟩ (.slice Ap pend.length cp)).setCell ⟨w.heap.size + 1, 7, none⟩ (.slice Am marks.length cm)).setCell ⟨w.heap.size + 1, 8, none⟩ (.slice Af fls.length cf)).drew) := Lib.hid ((nine_wrote.ext XE.out (by omega)).trans Ext.drew1)
    have SF : Hid (Stp w.heap.size [8] colE wE colE (((((((((wE.setCell ⟨w.heap.size + 1, 0, none⟩ (.int .i64 self)).setCell ⟨w.heap.size + 1, 1, none⟩ (.slice Av vs.length cv)).setCell ⟨w.heap.size + 1, 2, none⟩ (.int .i64 base)).setCell ⟨w.heap.size + 1, 3, none⟩ (.slice Al log.length cl)).setCell ⟨w.heap.size + 1, 4, none⟩ (.int .i64 stable)).setCell ⟨w.heap.size + 1, 5, none⟩ (.int .i64 sent)).setCell ⟨w.heap.size + 1, 6, none⟩ (.slice Ap pend.length cp)).setCell ⟨w.heap.size + 1, 7, none⟩ (.slice Am marks.length cm)).setCell ⟨w.heap.size + 1, 8, none⟩ (.slice Af fls.length cf)).drew) := Lib.hid ((Stp.wrote nine_wrote (by omega) (by have := XE.out.size; omega) (by rw [hc8E.out]; simp)).trans (Stp.ext' (by rw [show ((((((((((wE.setCell ⟨w.heap.size + 1, 0, none⟩ (.int .i64 self)).setCell ⟨w.heap.size + 1, 1, none⟩ (.slice Av vs.length cv)).setCell ⟨w.heap.size + 1, 2, none⟩ (.int .i64 base)).setCell ⟨w.heap.size + 1, 3, none⟩ (.slice Al log.length cl)).setCell ⟨w.heap.size + 1, 4, none⟩ (.int .i64 stable)).setCell ⟨w.heap.size + 1, 5, none⟩ (.int .i64 sent)).setCell ⟨w.heap.size + 1, 6, none⟩ (.slice Ap pend.length cp)).setCell ⟨w.heap.size + 1, 7, none⟩ (.slice Am marks.length cm)).setCell ⟨w.heap.size + 1, 8, none⟩ (.slice Af fls.length cf))).heap.size = wE.heap.size by simp [World.setCell]]; have := XE.out.size; omega) Ext.drew1))
    generalize (((((((((wE.setCell ⟨w.heap.size + 1, 0, none⟩ (.int .i64 self)).setCell ⟨w.heap.size + 1, 1, none⟩ (.slice Av vs.length cv)).setCell ⟨w.heap.size + 1, 2, none⟩ (.int .i64 base)).setCell ⟨w.heap.size + 1, 3, none⟩ (.slice Al log.length cl)).setCell ⟨w.heap.size + 1, 4, none⟩ (.int .i64 stable)).setCell ⟨w.heap.size + 1, 5, none⟩ (.int .i64 sent)).setCell ⟨w.heap.size + 1, 6, none⟩ (.slice Ap pend.length cp)).setCell ⟨w.heap.size + 1, 7, none⟩ (.slice Am marks.length cm)).setCell ⟨w.heap.size + 1, 8, none⟩ (.slice Af fls.length cf)).drew = W at *
    obtain ⟨e0, e1, e2, e3, e4, e5, e6, e7, e8⟩ := nine BF.out
    refine bodyPost_ret (v := .tuple #[.agg #[.int .i64 self, .slice Av vs.length cv, .int .i64 base, .slice Al log.length cl, .int .i64 stable, .int .i64 sent, .slice Ap pend.length cp, .slice Am marks.length cm, .slice Af fls.length cf], .slice Ak pk.length ck, .slice Ad dl.length cd]) (by simp [results, Tryz.results14, go_sem, e0, e1, e2, e3, e4, e5, e6, e7, e8]) rfl ?_
    exact tick_out CE.out SF.out hME.out XFF.out (fun k hk => HCO.out k hk)
  | false =>
    have HR : Hid (tickF b.st = followF ⟨b.st, [], []⟩) := Lib.hid (by rw [HTF.out, hle]; rfl)
    have q0 : w5.cell? ⟨w2.heap.size, 0, none⟩ = some (.int .i64 b'.self) := C5.out.cell 0
    have q1 : w5.cell? ⟨w2.heap.size, 1, none⟩ = some (.slice b'.Av b'.vs.length b'.cv) := C5.out.cell 1
    have q2 : w5.cell? ⟨w2.heap.size, 2, none⟩ = some (.int .i64 b'.base) := C5.out.cell 2
    have q3 : w5.cell? ⟨w2.heap.size, 3, none⟩ = some (.slice b'.Al b'.log.length b'.cl) := C5.out.cell 3
    have q4 : w5.cell? ⟨w2.heap.size, 4, none⟩ = some (.int .i64 b'.stable) := C5.out.cell 4
    have q5 : w5.cell? ⟨w2.heap.size, 5, none⟩ = some (.int .i64 b'.sent) := C5.out.cell 5
    have q6 : w5.cell? ⟨w2.heap.size, 6, none⟩ = some (.slice b'.Ap b'.pend.length b'.cp) := C5.out.cell 6
    have q7 : w5.cell? ⟨w2.heap.size, 7, none⟩ = some (.slice b'.Am b'.marks.length b'.cm) := C5.out.cell 7
    have q8 : w5.cell? ⟨w2.heap.size, 8, none⟩ = some (.slice b'.Af b'.fls.length b'.cf) := C5.out.cell 8
    go_wp2_with fail
    refine (open_any b' w5 C5.out.lies.reads hvl HFT'.out).mono ?_
    rintro en w5' ⟨rfl, hx5'⟩
    rw [HST.out, HOP.out]
    have C5' := Lib.hid (C5.out.ext hx5')
    have BR5' := Lib.hid (BR5.out.ext hx5'); have BV5' := Lib.hid (BV5.out.ext hx5'); have X5' := Lib.hid (X5.out.trans hx5')
    clear hx5' v0 q0 q1 q2 q3 q4 q5 q6 q7 q8
    have v0 : w5'.cell? ⟨w2.heap.size + 1, 0, none⟩ = some (.pointer (some ⟨w2.heap.size, 0, none⟩)) := BV5'.out.cell 0
    go_wp2_with fail
    refine (follow_any _ _ _ _ _ C5'.out (by simp only; rw [HST.out]; exact OK.out) rfl).mono ?_
    rintro en w6 ⟨m6, col6, rfl, hc6, hm6, hs6⟩
    have S6 := Lib.hid hs6
    have hME : Hid (m6.cs = tickF b.st) := Lib.hid (by rw [hm6, HR.out]; simp only [CM.cs, HST.out, List.map_nil])
    have X6 := X5'
    have BR5 := BR5'
    have BV5 := BV5'
    have hcv8 : Hid ((paint (paint col w2.heap.size 1) (w2.heap.size + 1) 8) (w.heap.size + 1) = 8) := Lib.hid (by have h1 := hp12.out; have h2 := hlt2.out; rw [paint_old (by omega), paint_old (by omega)]; exact HC8.out _ h1)
    have hcvv : Hid ((paint (paint col w2.heap.size 1) (w2.heap.size + 1) 8) (w2.heap.size + 1) = 8) := Lib.hid (paint_new (Nat.le_refl _))
    have BRE := Lib.hid (S6.out.bis BR5.out (by rw [hcv8.out]; simp))
    have BVE := Lib.hid (S6.out.bis BV5.out (by rw [hcvv.out]; simp))
    have XE : Hid (Ext w w6) := Lib.hid (Below.trans X6.out (S6.out.below.mono (by have := hp12.out; omega)))
    have CE := Lib.hid hc6
    have HCO : Hid (∀ k, k < w.heap.size → col6 k = 8) := Lib.hid (fun k hk => (S6.out.hue _ (by have := X6.out.size; omega)).trans (by have h1 := hp12.out; have h2 := hlt2.out; rw [paint_old (by omega), paint_old (by omega)]; exact HC8.out _ (by omega)))
    have hc8E : Hid (col6 (w.heap.size + 1) = 8) := Lib.hid ((S6.out.hue _ BR5.out.lt).trans hcv8.out)
    have hne1 : w2.heap.size ≠ w.heap.size + 1 := by have h1 := hp12.out; have h2 := hlt2.out; omega
    have hne2 : w2.heap.size + 1 ≠ w.heap.size + 1 := by have h1 := hp12.out; have h2 := hlt2.out; omega
    have qv : w6.cell? ⟨w2.heap.size + 1, 0, none⟩ = some (.pointer (some ⟨w2.heap.size, 0, none⟩)) := BVE.out.cell 0
    have q0 := CE.out.cell 0; have q1 := CE.out.cell 1; have q2 := CE.out.cell 2; have q3 := CE.out.cell 3; have q4 := CE.out.cell 4; have q5 := CE.out.cell 5; have q6 := CE.out.cell 6; have q7 := CE.out.cell 7; have q8 := CE.out.cell 8; have q9 := CE.out.cell 9; have q10 := CE.out.cell 10
    clear hc6 hm6 hs6 v0
    obtain ⟨⟨self, base, stable, sent, Av, cv, vs, Al, cl, log, Ap, cp, pend, Am, cm, marks, Af, cf, fls⟩, Ak, ck, pk, Ad, cd, dl⟩ := m6
    go_wp2
    obtain ⟨wE, rfl⟩ : ∃ x, x = w6 := ⟨_, rfl⟩
    obtain ⟨colE, rfl⟩ : ∃ x, x = col6 := ⟨_, rfl⟩
    replace q0 : wE.cell? ⟨w2.heap.size, 0, none⟩ = some (.int .i64 self) := q0
    replace q1 : wE.cell? ⟨w2.heap.size, 1, none⟩ = some (.slice Av vs.length cv) := q1
    replace q2 : wE.cell? ⟨w2.heap.size, 2, none⟩ = some (.int .i64 base) := q2
    replace q3 : wE.cell? ⟨w2.heap.size, 3, none⟩ = some (.slice Al log.length cl) := q3
    replace q4 : wE.cell? ⟨w2.heap.size, 4, none⟩ = some (.int .i64 stable) := q4
    replace q5 : wE.cell? ⟨w2.heap.size, 5, none⟩ = some (.int .i64 sent) := q5
    replace q6 : wE.cell? ⟨w2.heap.size, 6, none⟩ = some (.slice Ap pend.length cp) := q6
    replace q7 : wE.cell? ⟨w2.heap.size, 7, none⟩ = some (.slice Am marks.length cm) := q7
    replace q8 : wE.cell? ⟨w2.heap.size, 8, none⟩ = some (.slice Af fls.length cf) := q8
    replace q9 : wE.cell? ⟨w2.heap.size, 9, none⟩ = some (.slice Ak pk.length ck) := q9
    replace q10 : wE.cell? ⟨w2.heap.size, 10, none⟩ = some (.slice Ad dl.length cd) := q10
    obtain ⟨y0, y1, y2, y3, y4, y5, y6, y7, y8⟩ := nine BRE.out
    obtain ⟨z0, z1, z2, z3, z4, z5, z6, z7, z8⟩ := BRE.out.free9
    refine E_begin 15 (fun w' => w'.cell? ⟨w2.heap.size, 0, none⟩ = some (.int .i64 self) ∧ w'.cell? ⟨w2.heap.size, 1, none⟩ = some (.slice Av vs.length cv) ∧ w'.cell? ⟨w2.heap.size, 2, none⟩ = some (.int .i64 base) ∧ w'.cell? ⟨w2.heap.size, 3, none⟩ = some (.slice Al log.length cl) ∧ w'.cell? ⟨w2.heap.size, 4, none⟩ = some (.int .i64 stable) ∧ w'.cell? ⟨w2.heap.size, 5, none⟩ = some (.int .i64 sent) ∧ w'.cell? ⟨w2.heap.size, 6, none⟩ = some (.slice Ap pend.length cp) ∧ w'.cell? ⟨w2.heap.size, 7, none⟩ = some (.slice Am marks.length cm) ∧ w'.cell? ⟨w2.heap.size, 8, none⟩ = some (.slice Af fls.length cf) ∧ w'.cell? ⟨w2.heap.size, 9, none⟩ = some (.slice Ak pk.length ck) ∧ w'.cell? ⟨w2.heap.size, 10, none⟩ = some (.slice Ad dl.length cd) ∧ w'.cell? ⟨w2.heap.size + 1, 0, none⟩ = some (.pointer (some ⟨w2.heap.size, 0, none⟩))) (by kernel_rfl) ⟨by simpa using q0, by simpa using q1, by simpa using q2, by simpa using q3, by simpa using q4, by simpa using q5, by simpa using q6, by simpa using q7, by simpa using q8, by simpa using q9, by simpa using q10, by simpa using qv⟩ (fun hHeld => ?_)
    refine E_tk 0 (oi := ⟨some 104, _, _, _, _, _⟩) (v := ?_) ?_ ?_
    rotate_left
    · (intro w9 hSw; (try dsimp only at hSw); go_simp <;> with_reducible rfl)
    try simp only [Act.put, l1, l2, l3]
    refine E_tk 1 (oi := ⟨some 105, _, _, _, _, _⟩) (v := ?_) ?_ ?_
    rotate_left
    · (intro w9 hSw; (try dsimp only at hSw); go_simp <;> with_reducible rfl)
    try simp only [Act.put, l1, l2, l3]
    refine E_tk 2 (oi := ⟨some 106, _, _, _, _, _⟩) (v := ?_) ?_ ?_
    rotate_left
    · (intro w9 hSw; (try dsimp only at hSw); go_simp <;> with_reducible rfl)
    try simp only [Act.put, l1, l2, l3]
    refine E_tk 3 (oi := ⟨some 107, _, _, _, _, _⟩) (v := ?_) ?_ ?_
    rotate_left
    · (intro w9 hSw; (try dsimp only at hSw); go_simp <;> with_reducible rfl)
    try simp only [Act.put, l1, l2, l3]
    refine E_tk 4 (oi := ⟨some 108, _, _, _, _, _⟩) (v := ?_) ?_ ?_
    rotate_left
    · (intro w9 hSw; (try dsimp only at hSw); go_simp <;> with_reducible rfl)
    try simp only [Act.put, l1, l2, l3]
    refine E_tk 5 (oi := ⟨some 109, _, _, _, _, _⟩) (v := ?_) ?_ ?_
    rotate_left
    · (intro w9 hSw; (try dsimp only at hSw); go_simp <;> with_reducible rfl)
    try simp only [Act.put, l1, l2, l3]
    refine E_tk 6 (oi := ⟨some 110, _, _, _, _, _⟩) (v := ?_) ?_ ?_
    rotate_left
    · (intro w9 hSw; (try dsimp only at hSw); go_simp <;> with_reducible rfl)
    try simp only [Act.put, l1, l2, l3]
    refine E_tk 7 (oi := ⟨some 111, _, _, _, _, _⟩) (v := ?_) ?_ ?_
    rotate_left
    · (intro w9 hSw; (try dsimp only at hSw); go_simp <;> with_reducible rfl)
    try simp only [Act.put, l1, l2, l3]
    refine E_tk 8 (oi := ⟨some 112, _, _, _, _, _⟩) (v := ?_) ?_ ?_
    rotate_left
    · (intro w9 hSw; (try dsimp only at hSw); go_simp <;> with_reducible rfl)
    try simp only [Act.put, l1, l2, l3]
    refine E_tk 9 (oi := ⟨some 113, _, _, _, _, _⟩) (v := ?_) ?_ ?_
    rotate_left
    · (intro w9 hSw; (try dsimp only at hSw); go_simp <;> with_reducible rfl)
    try simp only [Act.put, l1, l2, l3]
    refine E_tk 10 (oi := ⟨some 114, _, _, _, _, _⟩) (v := ?_) ?_ ?_
    rotate_left
    · (intro w9 hSw; (try dsimp only at hSw); go_simp <;> with_reducible rfl)
    try simp only [Act.put, l1, l2, l3]
    refine E_tk 11 (oi := ⟨some 115, _, _, _, _, _⟩) (v := ?_) ?_ ?_
    rotate_left
    · (intro w9 hSw; (try dsimp only at hSw); go_simp <;> with_reducible rfl)
    try simp only [Act.put, l1, l2, l3]
    refine E_ready [12] (by kernel_rfl) (by simp) ?_
    refine AllE.cons (o := ⟨none, _, _, _, _, _⟩) rfl (fun K hK => ?_) AllE.nil
    go_simp
    clear hHeld
    refine hK.out _ _ ⟨(nine_far hne1).trans q0, (nine_far hne1).trans q1, (nine_far hne1).trans q2, (nine_far hne1).trans q3, (nine_far hne1).trans q4, (nine_far hne1).trans q5, (nine_far hne1).trans q6, (nine_far hne1).trans q7, (nine_far hne1).trans q8, (nine_far hne1).trans q9, (nine_far hne1).trans q10, (nine_far hne2).trans qv⟩ (fun hHeld => ?_)
    clear hK K
    try simp only [Act.put, l1, l2, l3]
    refine E_tk 13 (oi := ⟨some 3, _, _, _, _, _⟩) (v := ?_) ?_ ?_
    rotate_left
    · (intro w9 hSw; (try dsimp only at hSw); go_simp <;> with_reducible rfl)
    try simp only [Act.put, l1, l2, l3]
    refine E_tk 14 (oi := ⟨some 4, _, _, _, _, _⟩) (v := ?_) ?_ ?_
    rotate_left
    · (intro w9 hSw; (try dsimp only at hSw); go_simp <;> with_reducible rfl)
    try simp only [Act.put, l1, l2, l3]
    refine E_end (by kernel_rfl) (by rfl) ?_
    go_wp2
    have BF : Hid (BIs (((((((((wE.setCell ⟨w.heap.size + 1, 0, none⟩ (.int .i64 self)).setCell ⟨w.heap.size + 1, 1, none⟩ (.slice Av vs.length cv)).setCell ⟨w.heap.size + 1, 2, none⟩ (.int .i64 base)).setCell ⟨w.heap.size + 1, 3, none⟩ (.slice Al log.length cl)).setCell ⟨w.heap.size + 1, 4, none⟩ (.int .i64 stable)).setCell ⟨w.heap.size + 1, 5, none⟩ (.int .i64 sent)).setCell ⟨w.heap.size + 1, 6, none⟩ (.slice Ap pend.length cp)).setCell ⟨w.heap.size + 1, 7, none⟩ (.slice Am marks.length cm)).setCell ⟨w.heap.size + 1, 8, none⟩ (.slice Af fls.length cf)).drew (w.heap.size + 1) #[.int .i64 self, .slice Av vs.length cv, .int .i64 base, .slice Al log.length cl, .int .i64 stable, .int .i64 sent, .slice Ap pend.length cp, .slice Am marks.length cm, .slice Af fls.length cf] 28) := Lib.hid ((nine_set BRE.out).ext Ext.drew1)
    have XFF : Hid (Ext w (((((((((wE.setCell ⟨w.heap.size + 1, 0, none⟩ (.int .i64 self)).setCell ⟨w.heap.size + 1, 1, none⟩ (.slice Av vs.length cv)).setCell ⟨w.heap.size + 1, 2, none⟩ (.int .i64 base)).setCell ⟨w.heap.size + 1, 3, none⟩ (.slice Al log.length cl)).setCell ⟨w.heap.size + 1, 4, none⟩ (.int .i64 stable)).setCell ⟨w.heap.size + 1, 5, none⟩ (.int .i64 sent)).setCell ⟨w.heap.size + 1, 6, none⟩ (.slice Ap pend.length cp)).setCell ⟨w.heap.size + 1, 7, none⟩ (.slice Am marks.length cm)).setCell ⟨w.heap.size + 1, 8, none⟩ (.slice Af fls.length cf)).drew) := Lib.hid ((nine_wrote.ext XE.out (by omega)).trans Ext.drew1)
    have SF : Hid (Stp w.heap.size [8] colE wE colE (((((((((wE.setCell ⟨w.heap.size + 1, 0, none⟩ (.int .i64 self)).setCell ⟨w.heap.size + 1, 1, none⟩ (.slice Av vs.length cv)).setCell ⟨w.heap.size + 1, 2, none⟩ (.int .i64 base)).setCell ⟨w.heap.size + 1, 3, none⟩ (.slice Al log.length cl)).setCell ⟨w.heap.size + 1, 4, none⟩ (.int .i64 stable)).setCell ⟨w.heap.size + 1, 5, none⟩ (.int .i64 sent)).setCell ⟨w.heap.size + 1, 6, none⟩ (.slice Ap pend.length cp)).setCell ⟨w.heap.size + 1, 7, none⟩ (.slice Am marks.length cm)).setCell ⟨w.heap.size + 1, 8, none⟩ (.slice Af fls.length cf)).drew) := Lib.hid ((Stp.wrote nine_wrote (by omega) (by have := XE.out.size; omega) (by rw [hc8E.out]; simp)).trans (Stp.ext' (by rw [show ((((((((((wE.setCell ⟨w.heap.size + 1, 0, none⟩ (.int .i64 self)).setCell ⟨w.heap.size + 1, 1, none⟩ (.slice Av vs.length cv)).setCell ⟨w.heap.size + 1, 2, none⟩ (.int .i64 base)).setCell ⟨w.heap.size + 1, 3, none⟩ (.slice Al log.length cl)).setCell ⟨w.heap.size + 1, 4, none⟩ (.int .i64 stable)).setCell ⟨w.heap.size + 1, 5, none⟩ (.int .i64 sent)).setCell ⟨w.heap.size + 1, 6, none⟩ (.slice Ap pend.length cp)).setCell ⟨w.heap.size + 1, 7, none⟩ (.slice Am marks.length cm)).setCell ⟨w.heap.size + 1, 8, none⟩ (.slice Af fls.length cf))).heap.size = wE.heap.size by simp [World.setCell]]; have := XE.out.size; omega) Ext.drew1))
    generalize (((((((((wE.setCell ⟨w.heap.size + 1, 0, none⟩ (.int .i64 self)).setCell ⟨w.heap.size + 1, 1, none⟩ (.slice Av vs.length cv)).setCell ⟨w.heap.size + 1, 2, none⟩ (.int .i64 base)).setCell ⟨w.heap.size + 1, 3, none⟩ (.slice Al log.length cl)).setCell ⟨w.heap.size + 1, 4, none⟩ (.int .i64 stable)).setCell ⟨w.heap.size + 1, 5, none⟩ (.int .i64 sent)).setCell ⟨w.heap.size + 1, 6, none⟩ (.slice Ap pend.length cp)).setCell ⟨w.heap.size + 1, 7, none⟩ (.slice Am marks.length cm)).setCell ⟨w.heap.size + 1, 8, none⟩ (.slice Af fls.length cf)).drew = W at *
    obtain ⟨e0, e1, e2, e3, e4, e5, e6, e7, e8⟩ := nine BF.out
    refine bodyPost_ret (v := .tuple #[.agg #[.int .i64 self, .slice Av vs.length cv, .int .i64 base, .slice Al log.length cl, .int .i64 stable, .int .i64 sent, .slice Ap pend.length cp, .slice Am marks.length cm, .slice Af fls.length cf], .slice Ak pk.length ck, .slice Ad dl.length cd]) (by simp [results, Tryz.results14, go_sem, e0, e1, e2, e3, e4, e5, e6, e7, e8]) rfl ?_
    exact tick_out CE.out SF.out hME.out XFF.out (fun k hk => HCO.out k hk)
end Go.Proofs.YtponbabbabnaeaaGreat
