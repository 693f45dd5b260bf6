/- Part 25 of the proof: contracts of functions that the statement reaches. Conditions: as each theorem says. -/
import Derived.Test.YtponbabbabnaeaaGreatQa23
import Derived.Test.YtponbabbabnaeaaGreatQa24
import Derived.Test.YtponbabbabnaeaaGreatQa21
import Derived.Test.YtponbabbabnaeaaGreatQa11
import Derived.Test.YtponbabbabnaeaaGreatQa12
namespace Go.Proofs.YtponbabbabnaeaaGreat
open Go.RowKit
def GivesR (w : World) (r : Cs) (er : Int) (en : Ending) (w' : World) : Prop :=
  ∃ m : CM, en = .returned (.tuple #[.agg m.b.cells, .slice m.Ak m.pk.length m.ck, .slice m.Ad m.dl.length m.cd, .int .i64 er]) ∧ m.cs = r ∧ m.b.Reads w' ∧ m.b.Fits ∧ pkE.Box w' m.Ak m.pk ∧ Row w' m.Ad (entE.cells m.dl) ∧ Ext w w' ∧ m.b.New w.heap.size ∧ NewAt w.heap.size m.Ad (entE.cells m.dl)
theorem recv_out {w wE W : World} {B p : Nat} {col col' : Nat → Nat} {m : CM} {r : Cs} (h : CS wE B col p m) (s : Stp w.heap.size [8] col wE col' W) (hr : m.cs = r) (hx : Ext w W) (hc : ∀ k, k < w.heap.size → col k = 8) : GivesR w r 0 (.returned (.tuple #[.agg m.b.cells, .slice m.Ak m.pk.length m.ck, .slice m.Ad m.dl.length m.cd, .int .i64 0])) W := by
  refine ⟨m, rfl, hr, ?_⟩
  refine ⟨?_, h.fits, ⟨?_, fun k hk => ⟨(h.ki k hk).1, fun r hr => ?_⟩⟩, s.row h.dl.row (h.dc.row h.dl) (by simp), hx, h.lies.new hc, (h.dc.row h.dl).new hc (by decide)⟩
  · have := h.lies
    exact ⟨⟨s.row this.vs.1 this.vc (by simp), fun v hv => ⟨(this.vs.2 v hv).1, fun r hr => by have hr' := hr; simp only [viewE, List.mem_cons, List.not_mem_nil, or_false] at hr; subst hr; exact s.row ((this.vs.2 v hv).2 _ hr') (this.vi v hv) (by simp)⟩⟩, s.row this.log.row (this.lc.row this.log) (by simp), s.row this.pend this.pc (by simp), s.row this.marks.row (this.mc.row this.marks) (by simp), s.row this.fls.row (this.fc.row this.fls) (by simp), fun f hf => ⟨(this.fi f hf).1, fun r hr => by simp only [flE, List.mem_cons, List.not_mem_nil, or_false] at hr; subst hr; exact s.row (this.fi f hf).2.1 (this.fi f hf).2.2 (by simp)⟩⟩
  · exact s.row h.pk.row (h.kc.row h.pk) (by simp)
  · simp only [pkE, List.mem_cons, List.not_mem_nil, or_false] at hr
    subst hr
    exact s.row (h.ki k hk).2.1 (h.ki k hk).2.2 (by simp)
theorem cs_new1 {w : World} {B : Nat} {col : Nat → Nat} {b : BM} (hl : b.Lies w B col) (hf : b.Fits) (hp : b.pend.length ≤ b.cp) (hB : B ≤ w.heap.size) :
    CS (w.alloc (.cells (⟨b, none, 0, [], none, 0, []⟩ : CM).cells 86)) B (paint (paint col w.heap.size 1) (w.heap.size + 1) 8) w.heap.size ⟨b, none, 0, [], none, 0, []⟩ := by
  refine ⟨BIs.new _ _ _, by rw [paint_old (by omega), paint_new (Nat.le_refl _)], hB, hl.ext (Ext.new _ _) (fun k hk => by rw [paint_old (by omega), paint_old hk]), Elem.Own.nil _ _, fun q hq => by simp [Value.ownBlock] at hq, fun k hk => by simp at hk, Elem.Own.nil _ _, fun q hq => by simp [Value.ownBlock] at hq, hf, hp⟩
set_option maxRecDepth 100000 in
set_option maxHeartbeats 1000000 in
theorem receive_with (b : BM) (fr : Int) (A : Option Addr) (c : Nat) (frame : List UInt8) (kind num first mst : Int) (pay : List UInt8) (ents : List Ent) (r : Cs) (w : World) (h : b.Reads w) (hf : b.Fits) (hv : validS b.st = true) (hid : isId fr = true) (hne : fr ≠ b.self)
    (hrow : Row w A (bytesV frame)) (hc : frame.length ≤ c) (hl : frame.length ≤ 1000000) (hrd : readF frame = some ⟨kind, num, first, mst, pay, ents⟩) (hnum : num = (lastV b.st.views).1)
    (hh : ∀ (m : CM) (B : Nat) (col : Nat → Nat) (p : Nat) (Ae : Option Addr) (ce : Nat) (W : World), CS W B col p m → m.cs = ⟨b.st, [], []⟩ → Row W Ae (entE.cells ents) → ents.length ≤ ce → Calls Tryz.prog 73 #[.pointer (some ⟨p, 0, none⟩), .int .i64 fr, msgV ⟨kind, num, first, mst, pay, ents⟩ Ae ce] W (Does B col p W r)) :
    Calls Tryz.prog 16 #[.agg b.cells, .int .i64 fr, .slice A frame.length c] w (GivesR w r 0) := by
  have E0 : Hid (Ext w ((w.alloc (.cells #[.int .i64 b.self, .slice b.Av b.vs.length b.cv, .int .i64 b.base, .slice b.Al b.log.length b.cl, .int .i64 b.stable, .int .i64 b.sent, .slice b.Ap b.pend.length b.cp, .slice b.Am b.marks.length b.cm, .slice b.Af b.fls.length b.cf] 28)).alloc (.cells #[.int .i64 0, .slice none 0 0, .int .i64 0, .slice none 0 0, .int .i64 0, .int .i64 0, .slice none 0 0, .slice none 0 0, .slice none 0 0] 28))) := Lib.hid ((Ext.new _ _).trans (Ext.new _ _))
  have R0 := Lib.hid (h.ext E0.out); have HFT := Lib.hid hf; have HROW := Lib.hid hrow
  have OK := Lib.hid (ok_valid hv)
  have HV := Lib.hid hv; have HRD := Lib.hid hrd; have HH := Lib.hid hh; have HNUM := Lib.hid hnum; have HID := Lib.hid hid
  have hdne : (fr == b.self) = false := by simpa using hne
  clear h hf hv hrow hrd hh hnum hid
  unfold BM.cells
  go_enter Tryz.func16, Tryz.ntmps16
  go_wp2_with fail
  refine (valid12_any b _ R0.out HFT.out).mono ?_
  rintro en w1 ⟨rfl, hx1⟩
  have X1 := Lib.hid hx1
  have BR1 : Hid (BIs w1 (w.heap.size + 1) #[.int .i64 0, .slice none 0 0, .int .i64 0, .slice none 0 0, .int .i64 0, .int .i64 0, .slice none 0 0, .slice none 0 0, .slice none 0 0] 28) := Lib.hid (by have := BIs.ext (BIs.new (w.alloc (.cells #[.int .i64 b.self, .slice b.Av b.vs.length b.cv, .int .i64 b.base, .slice b.Al b.log.length b.cl, .int .i64 b.stable, .int .i64 b.sent, .slice b.Ap b.pend.length b.cp, .slice b.Am b.marks.length b.cm, .slice b.Af b.fls.length b.cf] 28)) #[.int .i64 0, .slice none 0 0, .int .i64 0, .slice none 0 0, .int .i64 0, .int .i64 0, .slice none 0 0, .slice none 0 0, .slice none 0 0] 28) hx1; simpa using this)
  have BP1 : Hid (BIs w1 w.heap.size #[.int .i64 b.self, .slice b.Av b.vs.length b.cv, .int .i64 b.base, .slice b.Al b.log.length b.cl, .int .i64 b.stable, .int .i64 b.sent, .slice b.Ap b.pend.length b.cp, .slice b.Am b.marks.length b.cm, .slice b.Af b.fls.length b.cf] 28) := Lib.hid (((BIs.new w #[.int .i64 b.self, .slice b.Av b.vs.length b.cv, .int .i64 b.base, .slice b.Al b.log.length b.cl, .int .i64 b.stable, .int .i64 b.sent, .slice b.Ap b.pend.length b.cp, .slice b.Am b.marks.length b.cm, .slice b.Af b.fls.length b.cf] 28).ext (Ext.new _ _)).ext hx1)
  clear hx1
  obtain ⟨q0, q1, q2, q3, q4, q5, q6, q7, q8⟩ := nine BP1.out
  rw [HV.out]
  have hp12 : Hid (w.heap.size + 1 < w1.heap.size) := Lib.hid BR1.out.lt
  go_wp2_with fail
  refine (identifier_any fr w1).mono ?_
  rintro en w1' ⟨rfl, rfl⟩
  rw [HID.out]
  go_wp2_with fail
  refine (read_any A c frame w1 (HROW.out.ext (E0.out.trans X1.out)) hc hl).mono ?_
  rintro en w2 (⟨v, rfl, hrn, hx2⟩ | ⟨mm, Ae, ce, rfl, hrn, he1, he2, hob, hx2⟩)
  · exfalso; rw [HRD.out] at hrn; cases hrn
  rw [HRD.out] at hrn
  cases hrn
  simp only at he1 hob
  have X2 := Lib.hid hx2
  have HER := Lib.hid hob.1.row
  have E2 : Hid (Ext w2 (w2.alloc (.cells #[.int .i64 kind, .int .i64 num, .int .i64 first, .int .i64 mst, .string (strB pay), .slice Ae ents.length ce] 110))) := Lib.hid (Ext.new _ _)
  have M2 : Hid (BIs (w2.alloc (.cells #[.int .i64 kind, .int .i64 num, .int .i64 first, .int .i64 mst, .string (strB pay), .slice Ae ents.length ce] 110)) w2.heap.size #[.int .i64 kind, .int .i64 num, .int .i64 first, .int .i64 mst, .string (strB pay), .slice Ae ents.length ce] 110) := Lib.hid (BIs.new _ _ _)
  clear hob hx2 q0 q1 q2 q3 q4 q5 q6 q7 q8
  obtain ⟨q0, q1, q2, q3, q4, q5, q6, q7, q8⟩ := nine (BP1.out.ext X2.out)
  have hp2 : w.heap.size < w2.heap.size := (BP1.out.ext X2.out).lt
  have hlt1 : Hid (w1.heap.size ≤ w2.heap.size) := Lib.hid X2.out.size
  go_wp2_with fail
  refine (clone_any b _ (R0.out.ext ((X1.out.trans X2.out).trans E2.out)) HFT.out).mono ?_
  rintro en w3 ⟨b', col, rfl, hst', hft', hli, hc8, hpo, hpc, hx3⟩
  obtain ⟨_, _, hvp, hcpb, _, _⟩ := hpo.slice
  have hcp : b'.pend.length ≤ b'.cp := by simp only [Value.slice.injEq] at hvp; omega
  have X3 := Lib.hid (E2.out.trans hx3); have HC8 := Lib.hid hc8; have HST := Lib.hid hst'
  have M3 := Lib.hid (M2.out.ext hx3)
  have hs3 : Hid (w2.heap.size + 1 ≤ w3.heap.size) := Lib.hid (by have := hx3.size; simpa using this)
  have C4 : Hid (CS (w3.alloc (.cells (⟨b', none, 0, [], none, 0, []⟩ : CM).cells 86)) (w2.heap.size + 1) (paint (paint col w3.heap.size 1) (w3.heap.size + 1) 8) w3.heap.size ⟨b', none, 0, [], none, 0, []⟩) := Lib.hid (cs_new1 (by simpa using hli) hft' hcp hs3.out)
  have HFT' := Lib.hid hft'
  have BR4 : Hid (BIs (w3.alloc (.cells (⟨b', none, 0, [], none, 0, []⟩ : CM).cells 86)) (w.heap.size + 1) #[.int .i64 0, .slice none 0 0, .int .i64 0, .slice none 0 0, .int .i64 0, .int .i64 0, .slice none 0 0, .slice none 0 0, .slice none 0 0] 28) := Lib.hid (((BR1.out.ext X2.out).ext X3.out).ext (Ext.new _ _))
  have M4 : Hid (BIs (w3.alloc (.cells (⟨b', none, 0, [], none, 0, []⟩ : CM).cells 86)) w2.heap.size #[.int .i64 kind, .int .i64 num, .int .i64 first, .int .i64 mst, .string (strB pay), .slice Ae ents.length ce] 110) := Lib.hid (M3.out.ext (Ext.new _ _))
  have X4 : Hid (Ext w (w3.alloc (.cells (⟨b', none, 0, [], none, 0, []⟩ : CM).cells 86))) := Lib.hid ((((E0.out.trans X1.out).trans X2.out).trans X3.out).trans (Ext.new _ _))
  have HER4 : Hid (Row (w3.alloc (.cells (⟨b', none, 0, [], none, 0, []⟩ : CM).cells 86)) Ae (entE.cells ents)) := Lib.hid (HER.out.ext (X3.out.trans (Ext.new _ _)))
  have hvl : 0 < b'.vs.length := by
    have h1 := OK.out.vs
    rw [← HST.out] at h1
    simpa [BM.st, vws_len] using h1
  have hfv := hft'.vs
  obtain ⟨xs, HLV⟩ : ∃ xs, Hid (lastV (vws b'.vs) = (num, xs)) := ⟨(lastV (vws b'.vs)).2, Lib.hid (by
    have h1 := HNUM.out
    rw [← HST.out] at h1
    rw [h1]; rfl)⟩
  clear hst' hft' hli hc8 hpo hpc hx3 hvp hcpb hcp q0 q1 q2 q3 q4 q5 q6 q7 q8
  unfold BM.cells
  go_wp2
  unfold CM.cells at C4 BR4 M4 X4 HER4
  simp only [List.length_nil] at C4 BR4 M4 X4 HER4
  generalize w3.alloc (.cells #[.int .i64 b'.self, .slice b'.Av b'.vs.length b'.cv, .int .i64 b'.base, .slice b'.Al b'.log.length b'.cl, .int .i64 b'.stable, .int .i64 b'.sent, .slice b'.Ap b'.pend.length b'.cp, .slice b'.Am b'.marks.length b'.cm, .slice b'.Af b'.fls.length b'.cf, .slice none 0 0, .slice none 0 0] 86) = w4 at *
  have b1 : w4.cell? ⟨w2.heap.size, 1, none⟩ = some (.int .i64 num) := M4.out.cell 1
  have q1 : w4.cell? ⟨w3.heap.size, 1, none⟩ = some (.slice b'.Av b'.vs.length b'.cv) := C4.out.cell 1
  have hm4 : w2.heap.size < w4.heap.size := M4.out.lt
  have hc4 : w3.heap.size < w4.heap.size := C4.out.lt
  have hfd := field_view
  refine E_begin 10 (fun w' => w'.cell? ⟨w2.heap.size, 1, none⟩ = some (.int .i64 num) ∧ w'.cell? ⟨w3.heap.size, 1, none⟩ = some (.slice b'.Av b'.vs.length b'.cv)) (by kernel_rfl) ⟨b1, q1⟩ (fun hHeld => ?_)
  refine E_tk 0 (oi := ⟨some 40, _, _, _, _, _⟩) (v := ?_) ?_ ?_
  rotate_left
  · (intro w9 hSw; (try dsimp only at hSw); go_simp <;> with_reducible rfl)
  try simp only [Act.put, l1, l2, l3]
  refine E_tk 1 (oi := ⟨some 41, _, _, _, _, _⟩) (v := ?_) ?_ ?_
  rotate_left
  · (intro w9 hSw; (try dsimp only at hSw); go_simp <;> with_reducible rfl)
  try simp only [Act.put, l1, l2, l3]
  refine E_tk 2 (oi := ⟨some 42, _, _, _, _, _⟩) (v := ?_) ?_ ?_
  rotate_left
  · (intro w9 hSw; (try dsimp only at hSw); go_simp <;> with_reducible rfl)
  try simp only [Act.put, l1, l2, l3]
  refine E_tk 3 (oi := ⟨some 43, _, _, _, _, _⟩) (v := ?_) ?_ ?_
  rotate_left
  · (intro w9 hSw; (try dsimp only at hSw); go_simp <;> with_reducible rfl)
  try simp only [Act.put, l1, l2, l3]
  refine E_tk 4 (oi := ⟨some 44, _, _, _, _, _⟩) (v := ?_) ?_ ?_
  rotate_left
  · (intro w9 hSw; (try dsimp only at hSw); go_simp <;> with_reducible rfl)
  try simp only [Act.put, l1, l2, l3]
  refine E_tk 5 (oi := ⟨some 45, _, _, _, _, _⟩) (v := ?_) ?_ ?_
  rotate_left
  · (intro w9 hSw; (try dsimp only at hSw); go_simp <;> with_reducible rfl)
  try simp only [Act.put, l1, l2, l3]
  refine E_tk 6 (oi := ⟨some 46, _, _, _, _, _⟩) (v := ?_) ?_ ?_
  rotate_left
  · (intro w9 hSw; (try dsimp only at hSw); go_simp <;> with_reducible rfl)
  try simp only [Act.put, l1, l2, l3]
  refine E_ready [7] (by kernel_rfl) (by simp) ?_
  refine AllE.cons (o := ⟨some 47, _, _, _, _, _⟩) rfl (fun K hK => ?_) AllE.nil
  go_simp
  go_at_call 49
  refine (last_b b'.Av b'.cv b'.vs _ (by exact C4.out.lies.vs.ext Ext.drew1) hvl (by omega) num xs HLV.out).mono ?_
  rintro en w5 ⟨A5, c5, rfl, h51, h52, HR5, hx5⟩
  have X5 : Hid (Ext w4 w5) := Lib.hid (Ext.drew1.trans hx5)
  clear hx5
  clear hHeld
  refine hK.out _ _ ⟨by rw [X5.out.cell (by exact hm4)]; exact b1, by rw [X5.out.cell (by exact hc4)]; exact q1⟩ (fun hHeld => ?_)
  clear hK K
  try simp only [Act.put, l1, l2, l3]
  refine E_tk 8 (oi := ⟨some 48, _, _, _, _, _⟩) (v := ?_) ?_ ?_
  rotate_left
  · (intro w9 hSw; (try dsimp only at hSw); go_simp <;> with_reducible rfl)
  try simp only [Act.put, l1, l2, l3]
  refine E_tk 9 (oi := ⟨some 49, _, _, _, _, _⟩) (v := ?_) ?_ ?_
  rotate_left
  · (intro w9 hSw; (try dsimp only at hSw); go_simp <;> with_reducible rfl)
  try simp only [Act.put, l1, l2, l3]
  refine E_end (by kernel_rfl) (by rfl) ?_
  clear b1 q1 hHeld
  have C5 := Lib.hid (C4.out.ext X5.out); have BR5 := Lib.hid (BR4.out.ext X5.out); have M5 := Lib.hid (M4.out.ext X5.out)
  have X05 := Lib.hid (X4.out.trans X5.out)
  obtain ⟨b0, b1, b2, b3, b4, b5⟩ := six M5.out
  go_wp2_with fail
  refine (HH.out _ _ _ _ Ae ce w5 C5.out (by simp only [CM.cs, HST.out, List.map_nil]) (HER4.out.ext X5.out) he1).mono ?_
  rintro en w6 ⟨m6, col6, rfl, hc6, hm6, hs6⟩
  have S6 := Lib.hid hs6
  have hME : Hid (m6.cs = r) := Lib.hid hm6
  have hcv8 : Hid ((paint (paint col w3.heap.size 1) (w3.heap.size + 1) 8) (w.heap.size + 1) = 8) := Lib.hid (by have h1 := hp12.out; have h2 := hlt1.out; have h3 := hs3.out; rw [paint_old (by omega), paint_old (by omega)]; exact HC8.out _ (by simp; omega))
  have BRE := Lib.hid (S6.out.bis BR5.out (by rw [hcv8.out]; simp))
  have XE : Hid (Ext w w6) := Lib.hid (Below.trans X05.out (S6.out.below.mono (by omega)))
  have CE := Lib.hid hc6
  have HCO : Hid (∀ k, k < w.heap.size → col6 k = 8) := Lib.hid (fun k hk => (S6.out.hue _ (by have := X05.out.size; omega)).trans (by have h1 := hp12.out; have h2 := hlt1.out; have h3 := hs3.out; rw [paint_old (by omega), paint_old (by omega)]; exact HC8.out _ (by simp; omega)))
  have hc8E : Hid (col6 (w.heap.size + 1) = 8) := Lib.hid ((S6.out.hue _ BR5.out.lt).trans hcv8.out)
  have hne1 : w3.heap.size ≠ w.heap.size + 1 := by have h1 := hp12.out; have h2 := hlt1.out; have h3 := hs3.out; omega
  have q0 := CE.out.cell 0; have q1 := CE.out.cell 1; have q2 := CE.out.cell 2; have q3 := CE.out.cell 3; have q4 := CE.out.cell 4; have q5 := CE.out.cell 5; have q6 := CE.out.cell 6; have q7 := CE.out.cell 7; have q8 := CE.out.cell 8; have q9 := CE.out.cell 9; have q10 := CE.out.cell 10
  clear hc6 hm6 hs6 b0 b1 b2 b3 b4 b5
  obtain ⟨⟨self, base, stable, sent, Av, cv, vs, Al, cl, log, Ap, cp, pend, Am, cm, marks, Af, cf, fls⟩, Ak, ck, pk, Ad, cd, dl⟩ := m6
  go_wp2
  obtain ⟨wE, rfl⟩ : ∃ x, x = w6 := ⟨_, rfl⟩
  obtain ⟨colE, rfl⟩ : ∃ x, x = col6 := ⟨_, rfl⟩
  replace q0 : wE.cell? ⟨w3.heap.size, 0, none⟩ = some (.int .i64 self) := q0
  replace q1 : wE.cell? ⟨w3.heap.size, 1, none⟩ = some (.slice Av vs.length cv) := q1
  replace q2 : wE.cell? ⟨w3.heap.size, 2, none⟩ = some (.int .i64 base) := q2
  replace q3 : wE.cell? ⟨w3.heap.size, 3, none⟩ = some (.slice Al log.length cl) := q3
  replace q4 : wE.cell? ⟨w3.heap.size, 4, none⟩ = some (.int .i64 stable) := q4
  replace q5 : wE.cell? ⟨w3.heap.size, 5, none⟩ = some (.int .i64 sent) := q5
  replace q6 : wE.cell? ⟨w3.heap.size, 6, none⟩ = some (.slice Ap pend.length cp) := q6
  replace q7 : wE.cell? ⟨w3.heap.size, 7, none⟩ = some (.slice Am marks.length cm) := q7
  replace q8 : wE.cell? ⟨w3.heap.size, 8, none⟩ = some (.slice Af fls.length cf) := q8
  replace q9 : wE.cell? ⟨w3.heap.size, 9, none⟩ = some (.slice Ak pk.length ck) := q9
  replace q10 : wE.cell? ⟨w3.heap.size, 10, none⟩ = some (.slice Ad dl.length cd) := q10
  obtain ⟨y0, y1, y2, y3, y4, y5, y6, y7, y8⟩ := nine BRE.out
  obtain ⟨z0, z1, z2, z3, z4, z5, z6, z7, z8⟩ := BRE.out.free9
  refine E_begin 16 (fun w' => w'.cell? ⟨w3.heap.size, 0, none⟩ = some (.int .i64 self) ∧ w'.cell? ⟨w3.heap.size, 1, none⟩ = some (.slice Av vs.length cv) ∧ w'.cell? ⟨w3.heap.size, 2, none⟩ = some (.int .i64 base) ∧ w'.cell? ⟨w3.heap.size, 3, none⟩ = some (.slice Al log.length cl) ∧ w'.cell? ⟨w3.heap.size, 4, none⟩ = some (.int .i64 stable) ∧ w'.cell? ⟨w3.heap.size, 5, none⟩ = some (.int .i64 sent) ∧ w'.cell? ⟨w3.heap.size, 6, none⟩ = some (.slice Ap pend.length cp) ∧ w'.cell? ⟨w3.heap.size, 7, none⟩ = some (.slice Am marks.length cm) ∧ w'.cell? ⟨w3.heap.size, 8, none⟩ = some (.slice Af fls.length cf) ∧ w'.cell? ⟨w3.heap.size, 9, none⟩ = some (.slice Ak pk.length ck) ∧ w'.cell? ⟨w3.heap.size, 10, none⟩ = some (.slice Ad dl.length cd)) (by kernel_rfl) ⟨by simpa using q0, by simpa using q1, by simpa using q2, by simpa using q3, by simpa using q4, by simpa using q5, by simpa using q6, by simpa using q7, by simpa using q8, by simpa using q9, by simpa using q10⟩ (fun hHeld => ?_)
  refine E_tk 0 (oi := ⟨some 54, _, _, _, _, _⟩) (v := ?_) ?_ ?_
  rotate_left
  · (intro w9 hSw; (try dsimp only at hSw); go_simp <;> with_reducible rfl)
  try simp only [Act.put, l1, l2, l3]
  refine E_tk 1 (oi := ⟨some 55, _, _, _, _, _⟩) (v := ?_) ?_ ?_
  rotate_left
  · (intro w9 hSw; (try dsimp only at hSw); go_simp <;> with_reducible rfl)
  try simp only [Act.put, l1, l2, l3]
  refine E_tk 2 (oi := ⟨some 56, _, _, _, _, _⟩) (v := ?_) ?_ ?_
  rotate_left
  · (intro w9 hSw; (try dsimp only at hSw); go_simp <;> with_reducible rfl)
  try simp only [Act.put, l1, l2, l3]
  refine E_tk 3 (oi := ⟨some 57, _, _, _, _, _⟩) (v := ?_) ?_ ?_
  rotate_left
  · (intro w9 hSw; (try dsimp only at hSw); go_simp <;> with_reducible rfl)
  try simp only [Act.put, l1, l2, l3]
  refine E_tk 4 (oi := ⟨some 58, _, _, _, _, _⟩) (v := ?_) ?_ ?_
  rotate_left
  · (intro w9 hSw; (try dsimp only at hSw); go_simp <;> with_reducible rfl)
  try simp only [Act.put, l1, l2, l3]
  refine E_tk 5 (oi := ⟨some 59, _, _, _, _, _⟩) (v := ?_) ?_ ?_
  rotate_left
  · (intro w9 hSw; (try dsimp only at hSw); go_simp <;> with_reducible rfl)
  try simp only [Act.put, l1, l2, l3]
  refine E_tk 6 (oi := ⟨some 60, _, _, _, _, _⟩) (v := ?_) ?_ ?_
  rotate_left
  · (intro w9 hSw; (try dsimp only at hSw); go_simp <;> with_reducible rfl)
  try simp only [Act.put, l1, l2, l3]
  refine E_tk 7 (oi := ⟨some 61, _, _, _, _, _⟩) (v := ?_) ?_ ?_
  rotate_left
  · (intro w9 hSw; (try dsimp only at hSw); go_simp <;> with_reducible rfl)
  try simp only [Act.put, l1, l2, l3]
  refine E_tk 8 (oi := ⟨some 62, _, _, _, _, _⟩) (v := ?_) ?_ ?_
  rotate_left
  · (intro w9 hSw; (try dsimp only at hSw); go_simp <;> with_reducible rfl)
  try simp only [Act.put, l1, l2, l3]
  refine E_tk 9 (oi := ⟨some 63, _, _, _, _, _⟩) (v := ?_) ?_ ?_
  rotate_left
  · (intro w9 hSw; (try dsimp only at hSw); go_simp <;> with_reducible rfl)
  try simp only [Act.put, l1, l2, l3]
  refine E_tk 10 (oi := ⟨some 64, _, _, _, _, _⟩) (v := ?_) ?_ ?_
  rotate_left
  · (intro w9 hSw; (try dsimp only at hSw); go_simp <;> with_reducible rfl)
  try simp only [Act.put, l1, l2, l3]
  refine E_tk 11 (oi := ⟨some 65, _, _, _, _, _⟩) (v := ?_) ?_ ?_
  rotate_left
  · (intro w9 hSw; (try dsimp only at hSw); go_simp <;> with_reducible rfl)
  try simp only [Act.put, l1, l2, l3]
  refine E_ready [12] (by kernel_rfl) (by simp) ?_
  refine AllE.cons (o := ⟨none, _, _, _, _, _⟩) rfl (fun K hK => ?_) AllE.nil
  go_simp
  clear hHeld
  refine hK.out _ _ ⟨(nine_far hne1).trans q0, (nine_far hne1).trans q1, (nine_far hne1).trans q2, (nine_far hne1).trans q3, (nine_far hne1).trans q4, (nine_far hne1).trans q5, (nine_far hne1).trans q6, (nine_far hne1).trans q7, (nine_far hne1).trans q8, (nine_far hne1).trans q9, (nine_far hne1).trans q10⟩ (fun hHeld => ?_)
  clear hK K
  try simp only [Act.put, l1, l2, l3]
  refine E_tk 13 (oi := ⟨some 7, _, _, _, _, _⟩) (v := ?_) ?_ ?_
  rotate_left
  · (intro w9 hSw; (try dsimp only at hSw); go_simp <;> with_reducible rfl)
  try simp only [Act.put, l1, l2, l3]
  refine E_tk 14 (oi := ⟨some 8, _, _, _, _, _⟩) (v := ?_) ?_ ?_
  rotate_left
  · (intro w9 hSw; (try dsimp only at hSw); go_simp <;> with_reducible rfl)
  try simp only [Act.put, l1, l2, l3]
  refine E_tk 15 (oi := ⟨some 9, _, _, _, _, _⟩) (v := ?_) ?_ ?_
  rotate_left
  · (intro w9 hSw; (try dsimp only at hSw); go_simp <;> with_reducible rfl)
  try simp only [Act.put, l1, l2, l3]
  refine E_end (by kernel_rfl) (by rfl) ?_
  (try go_wp2)
  have BF : Hid (BIs (((((((((wE.setCell ⟨w.heap.size + 1, 0, none⟩ (.int .i64 self)).setCell ⟨w.heap.size + 1, 1, none⟩ (.slice Av vs.length cv)).setCell ⟨w.heap.size + 1, 2, none⟩ (.int .i64 base)).setCell ⟨w.heap.size + 1, 3, none⟩ (.slice Al log.length cl)).setCell ⟨w.heap.size + 1, 4, none⟩ (.int .i64 stable)).setCell ⟨w.heap.size + 1, 5, none⟩ (.int .i64 sent)).setCell ⟨w.heap.size + 1, 6, none⟩ (.slice Ap pend.length cp)).setCell ⟨w.heap.size + 1, 7, none⟩ (.slice Am marks.length cm)).setCell ⟨w.heap.size + 1, 8, none⟩ (.slice Af fls.length cf)).drew (w.heap.size + 1) #[.int .i64 self, .slice Av vs.length cv, .int .i64 base, .slice Al log.length cl, .int .i64 stable, .int .i64 sent, .slice Ap pend.length cp, .slice Am marks.length cm, .slice Af fls.length cf] 28) := Lib.hid ((nine_set BRE.out).ext Ext.drew1)
  have XFF : Hid (Ext w (((((((((wE.setCell ⟨w.heap.size + 1, 0, none⟩ (.int .i64 self)).setCell ⟨w.heap.size + 1, 1, none⟩ (.slice Av vs.length cv)).setCell ⟨w.heap.size + 1, 2, none⟩ (.int .i64 base)).setCell ⟨w.heap.size + 1, 3, none⟩ (.slice Al log.length cl)).setCell ⟨w.heap.size + 1, 4, none⟩ (.int .i64 stable)).setCell ⟨w.heap.size + 1, 5, none⟩ (.int .i64 sent)).setCell ⟨w.heap.size + 1, 6, none⟩ (.slice Ap pend.length cp)).setCell ⟨w.heap.size + 1, 7, none⟩ (.slice Am marks.length cm)).setCell ⟨w.heap.size + 1, 8, none⟩ (.slice Af fls.length cf)).drew) := Lib.hid ((nine_wrote.ext XE.out (by omega)).trans Ext.drew1)
  have SF : Hid (Stp w.heap.size [8] colE wE colE (((((((((wE.setCell ⟨w.heap.size + 1, 0, none⟩ (.int .i64 self)).setCell ⟨w.heap.size + 1, 1, none⟩ (.slice Av vs.length cv)).setCell ⟨w.heap.size + 1, 2, none⟩ (.int .i64 base)).setCell ⟨w.heap.size + 1, 3, none⟩ (.slice Al log.length cl)).setCell ⟨w.heap.size + 1, 4, none⟩ (.int .i64 stable)).setCell ⟨w.heap.size + 1, 5, none⟩ (.int .i64 sent)).setCell ⟨w.heap.size + 1, 6, none⟩ (.slice Ap pend.length cp)).setCell ⟨w.heap.size + 1, 7, none⟩ (.slice Am marks.length cm)).setCell ⟨w.heap.size + 1, 8, none⟩ (.slice Af fls.length cf)).drew) := Lib.hid ((Stp.wrote nine_wrote (by omega) (by have := XE.out.size; omega) (by rw [hc8E.out]; simp)).trans (Stp.ext' (by rw [show ((((((((((wE.setCell ⟨w.heap.size + 1, 0, none⟩ (.int .i64 self)).setCell ⟨w.heap.size + 1, 1, none⟩ (.slice Av vs.length cv)).setCell ⟨w.heap.size + 1, 2, none⟩ (.int .i64 base)).setCell ⟨w.heap.size + 1, 3, none⟩ (.slice Al log.length cl)).setCell ⟨w.heap.size + 1, 4, none⟩ (.int .i64 stable)).setCell ⟨w.heap.size + 1, 5, none⟩ (.int .i64 sent)).setCell ⟨w.heap.size + 1, 6, none⟩ (.slice Ap pend.length cp)).setCell ⟨w.heap.size + 1, 7, none⟩ (.slice Am marks.length cm)).setCell ⟨w.heap.size + 1, 8, none⟩ (.slice Af fls.length cf))).heap.size = wE.heap.size by simp [World.setCell]]; have := XE.out.size; omega) Ext.drew1))
  generalize (((((((((wE.setCell ⟨w.heap.size + 1, 0, none⟩ (.int .i64 self)).setCell ⟨w.heap.size + 1, 1, none⟩ (.slice Av vs.length cv)).setCell ⟨w.heap.size + 1, 2, none⟩ (.int .i64 base)).setCell ⟨w.heap.size + 1, 3, none⟩ (.slice Al log.length cl)).setCell ⟨w.heap.size + 1, 4, none⟩ (.int .i64 stable)).setCell ⟨w.heap.size + 1, 5, none⟩ (.int .i64 sent)).setCell ⟨w.heap.size + 1, 6, none⟩ (.slice Ap pend.length cp)).setCell ⟨w.heap.size + 1, 7, none⟩ (.slice Am marks.length cm)).setCell ⟨w.heap.size + 1, 8, none⟩ (.slice Af fls.length cf)).drew = W at *
  obtain ⟨e0, e1, e2, e3, e4, e5, e6, e7, e8⟩ := nine BF.out
  refine bodyPost_ret (v := .tuple #[.agg #[.int .i64 self, .slice Av vs.length cv, .int .i64 base, .slice Al log.length cl, .int .i64 stable, .int .i64 sent, .slice Ap pend.length cp, .slice Am marks.length cm, .slice Af fls.length cf], .slice Ak pk.length ck, .slice Ad dl.length cd, .int .i64 0]) (by simp [results, Tryz.results16, go_sem, e0, e1, e2, e3, e4, e5, e6, e7, e8]) rfl ?_
  exact recv_out CE.out SF.out hME.out XFF.out (fun k hk => HCO.out k hk)
end Go.Proofs.YtponbabbabnaeaaGreat
namespace Go.Proofs.YtponbabbabnaeaaGreat
open Go.RowKit
def FarR (r : Nat) (A : Option Addr) (xs : List Value) : Prop := ∀ p, xs ≠ [] → A = some p → p.block ≠ r
structure BM.Far (b : BM) (r : Nat) : Prop where
  vs : FarR r b.Av (viewE.cells b.vs)
  vi : ∀ v ∈ b.vs, FarR r v.A (ints v.xs)
  log : FarR r b.Al (entE.cells b.log)
  pend : FarR r b.Ap (strE.cells b.pend)
  marks : FarR r b.Am (markE.cells b.marks)
  fls : FarR r b.Af (flE.cells b.fls)
  fi : ∀ f ∈ b.fls, FarR r f.A (entE.cells f.log)
section
variable {r N : Nat} {A : Option Addr} {xs : List Value} {w w' : World} {b : BM}
theorem NewAt.far (h : NewAt N A xs) (hr : r < N) : FarR r A xs := fun p hx hp e => by have := h p hx hp; omega
theorem Row.far (h : Row w A xs) (hr : w.heap.size ≤ r) : FarR r A xs := fun p hx hp e => by have := row_lt h hx hp; omega
theorem Row.wrote (h : Row w A xs) (hf : FarR r A xs) (hw : Wrote r w w') : Row w' A xs := by
  intro hx
  obtain ⟨b, off, h1, h2, h3⟩ := h hx
  refine ⟨b, off, h1, Nat.lt_of_lt_of_le h2 hw.size, fun j u hj => ?_⟩
  exact (World.cell?_of_block (a := ⟨b, off + j, none⟩) (hw.blk h2 (hf ⟨b, off, none⟩ hx h1))).trans (h3 j u hj)
theorem BM.New.far (h : b.New N) (hr : r < N) : b.Far r :=
  ⟨h.vs.far hr, fun v hv => (h.vi v hv).far hr, h.log.far hr, h.pend.far hr, h.marks.far hr, h.fls.far hr, fun f hf => (h.fi f hf).far hr⟩
theorem BM.Reads.far (h : b.Reads w) (hr : w.heap.size ≤ r) : b.Far r :=
  ⟨h.vs.1.far hr, fun v hv => ((h.vs.2 v hv).2 (v.A, ints v.xs) (by simp [viewE])).far hr, h.log.far hr, h.pend.far hr, h.marks.far hr, h.fls.1.far hr, fun f hf => ((h.fls.2 f hf).2 (f.A, entE.cells f.log) (by simp [flE])).far hr⟩
theorem BM.Reads.wrote (h : b.Reads w) (hf : b.Far r) (hw : Wrote r w w') : b.Reads w' := by
  refine ⟨⟨h.vs.1.wrote hf.vs hw, fun v hv => ⟨(h.vs.2 v hv).1, fun q hq => ?_⟩⟩, h.log.wrote hf.log hw, h.pend.wrote hf.pend hw, h.marks.wrote hf.marks hw, ⟨h.fls.1.wrote hf.fls hw, fun f hq => ⟨(h.fls.2 f hq).1, fun q hq' => ?_⟩⟩⟩
  · have hq' := hq
    simp only [viewE, List.mem_cons, List.not_mem_nil, or_false] at hq
    subst hq
    exact ((h.vs.2 v hv).2 _ hq').wrote (hf.vi v hv) hw
  · have hq'' := hq'
    simp only [flE, List.mem_cons, List.not_mem_nil, or_false] at hq'
    subst hq'
    exact ((h.fls.2 f hq).2 _ hq'').wrote (hf.fi f hq) hw
theorem BIs.wrote {p : Nat} {vals : Array Value} {t : TypeId} (h : BIs w p vals t) (hne : p ≠ r) (hw : Wrote r w w') : BIs w' p vals t := h.same (hw.blk h.lt hne)
theorem Row.get {ab off : Nat} (h : Row w (some ⟨ab, off, none⟩) xs) {j : Nat} {v : Value} (hj : xs[j]? = some v) : w.cell? ⟨ab, off + j, none⟩ = some v := by
  obtain ⟨b, o, h1, _, h3⟩ := h (by intro e; rw [e] at hj; simp at hj)
  cases h1
  exact h3 j v hj
end
section
variable {P : Program} {ops : Array Oper} {Q : Exit → Act → World → Prop} {md : Region.Mode} {S S' : World → Prop} {n : Nat}
theorem E_weak (hi : ∀ w, S' w → S w) : ∀ (fuel : Nat) (listed : Array Bool) (a : Act) (w : World), wpE P md ops Q S' n fuel listed a w → wpE P md ops Q S n fuel listed a w
  | 0, _, _, _, h => h
  | fuel + 1, _, _, _, h => ⟨h.1, fun i hi' => wpOp_mono (fun a' w' h' => ⟨fun hin => hi _ (h'.1 hin), E_weak hi fuel _ a' w' h'.2⟩) (h.2 i hi')⟩
theorem E_strong (S' : World → Prop) {fuel : Nat} {listed : Array Bool} {a : Act} {w : World} (hi : ∀ w, S' w → S w) (hS : S' w) (h : S' w → wpE P md ops Q S' n fuel listed a w) : wpE P md ops Q S n fuel listed a w := E_weak hi _ _ _ _ (h hS)
end
end Go.Proofs.YtponbabbabnaeaaGreat
namespace Go.Proofs.YtponbabbabnaeaaGreat
open Go.RowKit
theorem low_step1 {s : Nat} (h : s < 4294967296) (h1 : s % 2 = 1) : bits .xor .u32 ((s : Int) / 2) 3988292384 = ((crc1 s : Nat) : Int) := by
  have h3 : ((s : Int) / 2) = ((s / 2 : Nat) : Int) := by omega
  have := u32_xor_nat (s / 2) 3988292384 (by omega) (by decide)
  rw [h3]
  unfold crc1
  rw [h1, Nat.mul_one]
  exact this
theorem low_step0 {s : Nat} (h1 : ¬ s % 2 = 1) : ((s : Int) / 2) = ((crc1 s : Nat) : Int) := by
  unfold crc1
  have : s % 2 = 0 := by omega
  rw [this, Nat.mul_zero, Nat.xor_zero]; omega
theorem and_lo {s : Nat} (h : s < 4294967296) : bits .and .u32 (s : Int) 1 = ((s % 2 : Nat) : Int) := by
  have := u32_and_nat s 1 h (by decide)
  rw [Nat.and_one_is_mod] at this
  exact this
set_option maxRecDepth 100000 in
theorem rchecksum_any (A : Option Addr) (c : Nat) (bs : List UInt8) (w : World) (h : Row w A (bytesV bs)) (hl : bs.length ≤ 1000000000) :
    Calls Tryz.prog 189 #[.slice A bs.length c] w fun e w' => e = .returned (.int .u32 (crcF bs : Int)) ∧ w = w' := by
  have H := Lib.hid h; clear h
  go_enter Tryz.func189, Tryz.ntmps189
  go_wp2
  go_loopw [3, 4] (fun s i wr => ∃ (k n : Nat), k ≤ bs.length ∧ i = .int .i64 (k : Int) ∧ s = .int .u32 (n : Int) ∧ Hid (n = (bs.take k).foldl crc8 4294967295) ∧ w = wr) (fun _ i _ => bs.length - (intOf i).toNat)
  case atStart => exact ⟨0, 4294967295, Nat.zero_le _, rfl, rfl, Lib.hid rfl, rfl⟩
  case round =>
    obtain ⟨k, n, hk, rfl, rfl, HN, rfl⟩ := hrel
    have hn : Hid (n < 4294967296) := Lib.hid (by rw [HN.out]; exact crcFold_lt _ _ (by decide))
    by_cases hlt : k < bs.length
    · obtain ⟨b, off, x, rfl, c0, HX⟩ := H.out.byte hlt
      have hcb := crc_byte x hn.out
      have hfin : Hid (∀ m j : Nat, m = crcN j (n ^^^ x.toNat) → j ≤ 8 → ¬ j < 8 → m = (bs.take (k + 1)).foldl crc8 4294967295) := Lib.hid (by
        intro m j h1 h2 h3
        have h8 : j = 8 := by omega
        subst h8
        rw [h1, ← crc8_eq, HN.out, List.take_add_one, HX.out]; simp)
      go_wp2
      go_loopw [3, 5] (fun s i wr => ∃ (j m : Nat), j ≤ 8 ∧ i = .int .i64 (j : Int) ∧ s = .int .u32 (m : Int) ∧ Hid (m = crcN j (n ^^^ x.toNat)) ∧ w = wr) (fun _ i _ => 8 - (intOf i).toNat)
      case atStart => exact ⟨0, n ^^^ x.toNat, Nat.zero_le _, rfl, rfl, Lib.hid rfl, by first | trivial | rfl⟩
      case round =>
        obtain ⟨j, m, hj, rfl, rfl, HM, rfl⟩ := hrel
        have hm : Hid (m < 4294967296) := Lib.hid (by rw [HM.out]; exact crcN_lt _ _ (byte_xor_lt x hn.out))
        by_cases hj8 : j < 8
        · have hao := and_lo hm.out
          by_cases ho : m % 2 = 1
          · have hs1 := low_step1 hm.out ho
            have hdd : (((m % 2 : Nat) : Int) == 1) = true := by rw [ho]; rfl
            go_wp2
            go_roundw
            case rel => exact ⟨j + 1, crc1 m, by omega, by go_num, by first | rfl | (rw [hs1]), Lib.hid (by rw [crcN_succ, HM.out]), by first | trivial | rfl⟩
            case measure => simp [intOf]; omega
          · have hs0 := low_step0 ho
            have hdd : (((m % 2 : Nat) : Int) == 1) = false := by simp; omega
            go_wp2
            go_roundw
            case rel => exact ⟨j + 1, crc1 m, by omega, by go_num, by first | rfl | (rw [hs0]), Lib.hid (by rw [crcN_succ, HM.out]), by first | trivial | rfl⟩
            case measure => simp [intOf]; omega
        · go_wp2
          go_roundw
          case rel => exact ⟨k + 1, m, by omega, by go_num, rfl, Lib.hid (hfin.out m j HM.out hj hj8), by first | trivial | rfl⟩
          case measure => simp [intOf]; omega
    · have hkl : k = bs.length := by omega
      subst hkl
      go_wp2
      go_ret
      refine ⟨?_, rfl⟩
      have hx := u32_xor_nat 4294967295 n (by decide) hn.out
      have hc : crcF bs = 4294967295 ^^^ n := by unfold crcF; rw [HN.out, List.take_length]
      rw [hc, ← hx]
      rfl
theorem le4_own (v : Nat) (w : World) : Own (w.alloc (.cells #[.int .u8 ((v : Int) % 256), .int .u8 ((v : Int) / 256 % 256), .int .u8 ((v : Int) / 65536 % 256), .int .u8 ((v : Int) / 16777216 % 256)] 5)) w.heap.size 5 (.slice (some ⟨w.heap.size, 0, none⟩) 4 4) (bytesV (le4 v)) := by
  have e : bytesV (le4 v) = [.int .u8 ((v : Int) % 256), .int .u8 ((v : Int) / 256 % 256), .int .u8 ((v : Int) / 65536 % 256), .int .u8 ((v : Int) / 16777216 % 256)] := by
    simp only [bytesV, le4, List.map_cons, List.map_nil, UInt8.toNat_ofNat']
    rw [show ((v % 2 ^ 8 : Nat) : Int) = (v : Int) % 256 by omega, show ((v / 256 % 2 ^ 8 : Nat) : Int) = (v : Int) / 256 % 256 by omega, show ((v / 65536 % 2 ^ 8 : Nat) : Int) = (v : Int) / 65536 % 256 by omega, show ((v / 16777216 % 2 ^ 8 : Nat) : Int) = (v : Int) / 16777216 % 256 by omega]
  rw [e]
  exact ⟨rfl, .inr ⟨w.heap.size, 4, _, rfl, Nat.le_refl _, (by show (w.heap.push _)[w.heap.size]? = _; simp; rfl), Nat.le_refl _, by unfold maxLen; decide, rfl, rfl⟩⟩
set_option maxRecDepth 100000 in
theorem rlow_any (n : Nat) (w : World) : Calls Tryz.prog 188 #[.int .u32 (n : Int)] w (GivesB w (le4 n)) := by
  go_enter Tryz.func188, Tryz.ntmps188
  go_wp2
  go_ret
  exact gives_b (le4_own n w) (Ext.new _ _)
set_option maxRecDepth 100000 in
theorem rstring_any (p : List UInt8) (w : World) (hp : p.length ≤ 100000000) : Calls Tryz.prog 133 #[.string (strB p)] w (GivesB w (strF p)) := by
  have hn : Hid (p.length < U64) := Lib.hid (by unfold U64; omega)
  have HL := Lib.hid (encU_len10 hn.out)
  have hsz := strB_size p
  have hw : IntKind.u64.wrap (p.length : Int) = (p.length : Int) := u64_nat hn.out
  go_enter Tryz.func133, Tryz.ntmps133
  go_wp2_with fail
  refine (rUint_any p.length w hn).mono ?_
  rintro e w1 ⟨A1, c1, rfl, hc1, hm1, ho1, hx1⟩
  have HO1 := Lib.hid ho1; have X1 := Lib.hid hx1
  clear ho1 hx1
  have hl1 : (encU p.length).length ≤ 11 := HL.out
  obtain ⟨i0, hi, hz0, hz1, hz2⟩ := info_parts info_u8
  go_wp2_with (first
    | (at_builtin; refine Go.Lib.wpList_append_own_string w1 rfl (.tmp 6) (.tmp 7) 29 9 rfl w.heap.size 5 i0 Tryz.underlying29 Tryz.underlying9 hi hz0 hz1 hz2 _ (encU p.length).length (bytesV (encU p.length)) (by rfl) (by have := HO1.out; unfold Own at this; rw [bytesV_len] at this; exact this) (strB p) (by rfl) (by rw [strB_size]; unfold maxLen; omega) (by rw [strB_size]; omega) X1.out.size ?_; intro v2 w2 ho2 hg2 _))
  go_ret
  refine gives_b ?_ (Grew.below X1.out hg2 X1.out.size (fun k hk => (HO1.out.lt k hk).1))
  have hb : bytesV (strF p) = bytesV (encU p.length) ++ Go.Lib.strCells (strB p) := by rw [strCells_strB, ← bytesV_app]; rfl
  unfold Own
  rw [hb, List.length_append, bytesV_len, Go.Lib.strCells_length]
  exact ho2
end Go.Proofs.YtponbabbabnaeaaGreat
