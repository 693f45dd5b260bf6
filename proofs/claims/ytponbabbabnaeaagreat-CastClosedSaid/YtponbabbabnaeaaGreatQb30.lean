/- Part 30 of the proof: contracts of functions that the statement reaches. Conditions: as each theorem says. -/
import Derived.Test.YtponbabbabnaeaaGreatQb01
import Derived.Test.YtponbabbabnaeaaGreatQb26
import Derived.Test.YtponbabbabnaeaaGreatQb16
import Derived.Test.YtponbabbabnaeaaGreatQb29
namespace Go.Proofs.YtponbabbabnaeaaGreat
open Go.RowKit
theorem int1_row (a : Int) (w : World) : Row (w.alloc (.cells #[.int .i64 a] 3)) (some ⟨w.heap.size, 0, none⟩) (ints [a]) := by
 intro _
 refine ⟨w.heap.size, 0, rfl, by simp, fun j q hj => ?_⟩
 match j, hj with
 | 0, hj => simp only [ints, List.map_cons, List.map_nil, List.getElem?_cons_zero, Option.some.injEq] at hj; subst hj; simp
theorem body_len (n b : Int) (h : I64 b) : (numsF [n] ++ encU (zig b)).length ≤ 100 := by
 have h1 := numsF_len [n]
 have h2 := encU_len10 (zig_lt h)
 simp only [List.length_append, List.length_cons, List.length_nil] at *
 omega
section
variable {b : BM}
theorem tick_lead (ho : openB b.st = true) (hl : leadB b.st = true) : tickC ⟨b.st, [], []⟩ = leadF ⟨b.st, [], []⟩ := by unfold tickC; rw [if_pos ho, if_pos hl]
theorem tick_follow (ho : openB b.st = true) (hl : leadB b.st = false) : tickC ⟨b.st, [], []⟩ = followF ⟨b.st, [], []⟩ := by unfold tickC; rw [if_pos ho, if_neg (by simp [hl])]
theorem tick_flush {n : Int} {xs : List Int} {sq : Int} {BD : List UInt8} (ho : openB b.st = false) (hl : leadB b.st = false) (hv : lastV (vws b.vs) = (n, xs)) (hs : seqrF (n, xs) = sq) (hb : BD = numsF [n] ++ encU (zig b.base)) : tickC ⟨b.st, [], []⟩ = sendF ⟨b.st, [], []⟩ sq 14 (BD ++ entsF b.log) := by
 unfold tickC
 have e : lastV b.st.views = (n, xs) := hv
 rw [if_neg (by simp [ho]), if_neg (by simp [hl])]
 simp only
 rw [e, hs, hb]; rfl
theorem mine_any (b : BM) : mineB b.st = b.fls.any fun f => f.m == b.self := by
 show (b.fls.map FlM.v).any _ = _
 rw [List.any_map]; rfl
theorem tick_mine (ho : openB b.st = false) (hl : leadB b.st = true) (hm : (b.fls.any fun f => f.m == b.self) = true) : tickC ⟨b.st, [], []⟩ = ⟨installF b.st, [], []⟩ := by
 unfold tickC
 rw [if_neg (by simp [ho]), if_pos hl]
 simp only
 rw [if_pos (by rw [mine_any]; exact hm)]
theorem tick_put (ho : openB b.st = false) (hl : leadB b.st = true) (hm : (b.fls.any fun f => f.m == b.self) = false) : tickC ⟨b.st, [], []⟩ = ⟨installF { b.st with fls := putF b.st.fls (b.self, b.base, b.log) }, [], []⟩ := by
 unfold tickC
 rw [if_neg (by simp [ho]), if_pos hl]
 simp only
 rw [if_neg (by rw [mine_any, hm]; simp)]
 rfl
end
theorem asc_len {l : List Int} (h : AscK l) {N : Nat} (hn : ∀ k ∈ l, k ≤ N) : l.length ≤ N := by
 have h2 : ∀ i (hi : i < l.length), (i : Int) + 1 ≤ l[i] := by
  intro i
  induction i with
  | zero => intro hi; have := h.2 _ (List.getElem_mem hi); omega
  | succ i ih =>
   intro hi
   have h3 := ih (by omega)
   have h4 := List.pairwise_iff_getElem.1 h.1 i (i + 1) (by omega) hi (by omega)
   omega
 rcases Nat.eq_zero_or_pos l.length with h0 | h0
 ·omega
 ·have h3 := h2 (l.length - 1) (by omega)
  have h4 := hn _ (List.getElem_mem (show l.length - 1 < l.length by omega))
  omega
theorem VS.fl_len {s : St} (h : VS s) : s.fls.length ≤ 1000 := by
 have := asc_len h.fla (N := 1000) (fun k hk => by
  obtain ⟨f, hf, rfl⟩ := List.mem_map.1 hk
  have := (h.fls f hf).1
  unfold isId at this
  simp only [Bool.and_eq_true, decide_eq_true_eq] at this
  omega)
 simpa using this
theorem validB_le {n : Int} {xs : List Int} (h : validB n xs = true) : ∀ x ∈ xs, x ≤ 1000 := by
 intro x hx
 unfold validB at h
 simp only [Bool.and_eq_true] at h
 exact ((idsB_iff (m := 16)).1 h.2).2.2.2 x hx |>.2
theorem VS.mk_len {s : St} (h : VS s) : s.marks.length ≤ 1000 := by
 have := asc_len h.mka (N := 1000) (fun k hk => by
  obtain ⟨f, hf, rfl⟩ := List.mem_map.1 hk
  have h1 := (h.mks f hf).2.1
  exact validB_le h.last _ (hasB_iff.1 h1))
 simpa using this
theorem VS.vx {s : St} (h : VS s) : ∀ v ∈ s.views, v.2.length ≤ 16 ∧ 0 ≤ v.1 ∧ v.1 ≤ 1099511627776 := by
 intro v hv
 obtain ⟨i, hi, rfl⟩ := List.mem_iff_getElem.1 hv
 have := validVs_at h.vs i hi
 rw [vwAt_get hi] at this
 exact ⟨(validB_len this).2, validB_num this⟩
theorem VS.base {s : St} (h : VS s) : -1 ≤ s.base ∧ s.base ≤ 1099511627776 := by
 rcases h.known with h1 | ⟨v, h1, _⟩
 ·omega
 ·unfold knownV at h1
  have h2 := List.mem_of_find?_eq_some h1
  have h3 := List.find?_some h1
  simp only [beq_iff_eq] at h3
  have := h.vx v h2
  omega
set_option maxRecDepth 100000 in
set_option maxHeartbeats 2000000 in
theorem tick_any (b : BM) (w : World) (h : b.Reads w) (hf : b.Fits) (hv : validS b.st = true) :
  Calls Tryz.prog 14 #[.agg b.cells] w (GivesT w (tickF b.st)) := by
 have E0 : Hid (Ext w ((w.alloc (.cells #[.int .i64 b.self, .slice b.Av b.vs.length b.cv, .int .i64 b.base, .slice b.Al b.log.length b.cl, .int .i64 b.stable, .int .i64 b.sent, .slice b.Ap b.pend.length b.cp, .slice b.Am b.marks.length b.cm, .slice b.Af b.fls.length b.cf] 28)).alloc (.cells #[.int .i64 0, .slice none 0 0, .int .i64 0, .slice none 0 0, .int .i64 0, .int .i64 0, .slice none 0 0, .slice none 0 0, .slice none 0 0] 28))) := hJ ((Ext.new _ _).trans (Ext.new _ _))
 have R0 := hJ (h.ext E0.out); have HFT := hJ hf
 have OK := hJ (ok_valid hv)
 have VV := hJ (vs_iff.1 hv)
 have HV := hJ hv
 clear h hf hv; unfold BM.cells
 go_enter Tryz.func14, Tryz.ntmps14
 go_wp2_with fail
 refine (valid12_any b _ R0.out HFT.out).mono ?_
 rintro en w1 ⟨rfl, hx1⟩
 have X1 := hJ hx1
 have BR1 : Hid (BIs w1 (w.heap.size + 1) #[.int .i64 0, .slice none 0 0, .int .i64 0, .slice none 0 0, .int .i64 0, .int .i64 0, .slice none 0 0, .slice none 0 0, .slice none 0 0] 28) := hJ (by have := BIs.ext (BIs.new (w.alloc (.cells #[.int .i64 b.self, .slice b.Av b.vs.length b.cv, .int .i64 b.base, .slice b.Al b.log.length b.cl, .int .i64 b.stable, .int .i64 b.sent, .slice b.Ap b.pend.length b.cp, .slice b.Am b.marks.length b.cm, .slice b.Af b.fls.length b.cf] 28)) #[.int .i64 0, .slice none 0 0, .int .i64 0, .slice none 0 0, .int .i64 0, .int .i64 0, .slice none 0 0, .slice none 0 0, .slice none 0 0] 28) hx1; simpa using this)
 have BP1 : Hid (BIs w1 w.heap.size #[.int .i64 b.self, .slice b.Av b.vs.length b.cv, .int .i64 b.base, .slice b.Al b.log.length b.cl, .int .i64 b.stable, .int .i64 b.sent, .slice b.Ap b.pend.length b.cp, .slice b.Am b.marks.length b.cm, .slice b.Af b.fls.length b.cf] 28) := hJ (((BIs.new w #[.int .i64 b.self, .slice b.Av b.vs.length b.cv, .int .i64 b.base, .slice b.Al b.log.length b.cl, .int .i64 b.stable, .int .i64 b.sent, .slice b.Ap b.pend.length b.cp, .slice b.Am b.marks.length b.cm, .slice b.Af b.fls.length b.cf] 28).ext (Ext.new _ _)).ext hx1)
 clear hx1; obtain ⟨q0, q1, q2, q3, q4, q5, q6, q7, q8⟩ := nine BP1.out
 rw [HV.out]
 have hp12 : Hid (w.heap.size + 1 < w1.heap.size) := hJ BR1.out.lt
 go_wp2_with fail
 refine (clone_any b w1 (R0.out.ext X1.out) HFT.out).mono ?_
 rintro en w2 ⟨b', col, rfl, hst', hft', hli, hc8, hpo, hpc, hx2⟩
 obtain ⟨_, _, hvp, hcpb, _, _⟩ := hpo.slice
 have hcp : b'.pend.length ≤ b'.cp := by simp only [Value.slice.injEq] at hvp; omega
 have X2 := hJ hx2; have HC8 := hJ hc8; have HST := hJ hst'
 have hlt2 : Hid (w1.heap.size ≤ w2.heap.size) := hJ hx2.size
 have CC : Hid (CS ((w2.alloc (.cells (⟨b', none, 0, [], none, 0, []⟩ : CM).cells 86)).alloc (.cells #[.pointer (some ⟨w2.heap.size, 0, none⟩)] 84)) w1.heap.size (paint (paint col w2.heap.size 1) (w2.heap.size + 1) 8) w2.heap.size ⟨b', none, 0, [], none, 0, []⟩) := hJ (cs_new hli hft' hcp hx2.size _ _)
 have HFT' := hJ hft'
 have BR : Hid (BIs ((w2.alloc (.cells (⟨b', none, 0, [], none, 0, []⟩ : CM).cells 86)).alloc (.cells #[.pointer (some ⟨w2.heap.size, 0, none⟩)] 84)) (w.heap.size + 1) #[.int .i64 0, .slice none 0 0, .int .i64 0, .slice none 0 0, .int .i64 0, .int .i64 0, .slice none 0 0, .slice none 0 0, .slice none 0 0] 28) := hJ ((BR1.out.ext X2.out).ext ((Ext.new _ _).trans (Ext.new _ _)))
 have BV : Hid (BIs ((w2.alloc (.cells (⟨b', none, 0, [], none, 0, []⟩ : CM).cells 86)).alloc (.cells #[.pointer (some ⟨w2.heap.size, 0, none⟩)] 84)) (w2.heap.size + 1) #[.pointer (some ⟨w2.heap.size, 0, none⟩)] 84) := hJ (by have := BIs.new (w2.alloc (.cells (⟨b', none, 0, [], none, 0, []⟩ : CM).cells 86)) #[.pointer (some ⟨w2.heap.size, 0, none⟩)] 84; simpa using this)
 have XX : Hid (Ext w ((w2.alloc (.cells (⟨b', none, 0, [], none, 0, []⟩ : CM).cells 86)).alloc (.cells #[.pointer (some ⟨w2.heap.size, 0, none⟩)] 84))) := hJ (((E0.out.trans X1.out).trans X2.out).trans ((Ext.new _ _).trans (Ext.new _ _)))
 clear hst' hft' hli hc8 hpo hpc hx2 hvp hcpb hcp q0 q1 q2 q3 q4 q5 q6 q7 q8; have hvl : 0 < b'.vs.length := by
  have h1 := OK.out.vs
  rw [← HST.out] at h1
  simpa [BM.st, vws_len] using h1
 have HTF : Hid (tickF b.st = tickC ⟨b'.st, [], []⟩) := hJ (by unfold tickF; rw [if_neg (by rw [HV.out]; simp), HST.out])
 have VB : Hid (VS b'.st) := hJ (by rw [HST.out]; exact VV.out)
 have hfn : b'.fls.length ≤ 1000 := by have := VB.out.fl_len; rw [fls_len] at this; exact this
 have hfn2 : b'.fls.length ≤ 50000 := by omega
 have hstb : 0 ≤ b'.stable ∧ b'.stable ≤ b'.log.length := ⟨VB.out.st0, VB.out.st⟩
 have HVX : Hid (∀ v ∈ b'.vs, v.xs.length ≤ 1000) := hJ (fun v hv => by have := (VB.out.vx v.v (List.mem_map_of_mem hv)).1; simp only [VwM.v] at this; omega)
 have HI64 : Hid (I64 b'.base) := hJ (by have := VB.out.base; unfold I64; simp only [BM.st] at this; omega)
 have hlg : b'.log.length ≤ 2000 := by have := OK.out.log; rw [← HST.out] at this; exact this
 have HLP : Hid (∀ e ∈ b'.log, e.p.length ≤ 6000) := hJ (by have := OK.out.lp; rw [← HST.out] at this; exact this)
 unfold BM.cells
 go_upto_block 0 with fail
 unfold CM.cells at CC BR BV XX
 simp only [List.length_nil] at CC BR BV XX
 generalize (w2.alloc (.cells #[.int .i64 b'.self, .slice b'.Av b'.vs.length b'.cv, .int .i64 b'.base, .slice b'.Al b'.log.length b'.cl, .int .i64 b'.stable, .int .i64 b'.sent, .slice b'.Ap b'.pend.length b'.cp, .slice b'.Am b'.marks.length b'.cm, .slice b'.Af b'.fls.length b'.cf, .slice none 0 0, .slice none 0 0] 86)).alloc (.cells #[.pointer (some ⟨w2.heap.size, 0, none⟩)] 84) = w3 at *
 obtain ⟨c43, hc43⟩ : ∃ x, x = (openB b'.st && leadB b'.st) := ⟨_, rfl⟩
 obtain ⟨ob, hob⟩ : ∃ x, openB b'.st = x := ⟨_, rfl⟩
 obtain ⟨lb, hlb⟩ : ∃ x, leadB b'.st = x := ⟨_, rfl⟩
 rw [hob, hlb] at hc43
 have HOB := hJ hob; have HLB := hJ hlb; have HC43 := hJ hc43
 clear hob hlb hc43; have CC5 := CC; have BR5 := BR; have BV5 := BV; have X6 := XX; have XS : Hid (Ext w3 w3) := hJ (Ext.refl _)
 go_cut [] (fun wx => ∃ (m6 : CM) (col6 : Nat → Nat), Hid (CS wx w1.heap.size col6 w2.heap.size m6) ∧ Hid (m6.cs = tickF b.st) ∧ Hid (Stp w1.heap.size [1, 2, 3, 4, 5, 7] (paint (paint col w2.heap.size 1) (w2.heap.size + 1) 8) w3 col6 wx))
 case first =>
  go_upto_region 7 with fail
  go_cut [43] (fun s wx => s = .bool c43 ∧ Hid (CS wx w1.heap.size (paint (paint col w2.heap.size 1) (w2.heap.size + 1) 8) w2.heap.size ⟨b', none, 0, [], none, 0, []⟩) ∧ Hid (BIs wx (w.heap.size + 1) #[.int .i64 0, .slice none 0 0, .int .i64 0, .slice none 0 0, .int .i64 0, .int .i64 0, .slice none 0 0, .slice none 0 0, .slice none 0 0] 28) ∧ Hid (BIs wx (w2.heap.size + 1) #[.pointer (some ⟨w2.heap.size, 0, none⟩)] 84) ∧ Hid (Ext w wx) ∧ Hid (Ext w3 wx))
  case first =>
   have q0 : w3.cell? ⟨w2.heap.size, 0, none⟩ = some (.int .i64 b'.self) := CC.out.cell 0
   have q1 : w3.cell? ⟨w2.heap.size, 1, none⟩ = some (.slice b'.Av b'.vs.length b'.cv) := CC.out.cell 1
   have q2 : w3.cell? ⟨w2.heap.size, 2, none⟩ = some (.int .i64 b'.base) := CC.out.cell 2
   have q3 : w3.cell? ⟨w2.heap.size, 3, none⟩ = some (.slice b'.Al b'.log.length b'.cl) := CC.out.cell 3
   have q4 : w3.cell? ⟨w2.heap.size, 4, none⟩ = some (.int .i64 b'.stable) := CC.out.cell 4
   have q5 : w3.cell? ⟨w2.heap.size, 5, none⟩ = some (.int .i64 b'.sent) := CC.out.cell 5
   have q6 : w3.cell? ⟨w2.heap.size, 6, none⟩ = some (.slice b'.Ap b'.pend.length b'.cp) := CC.out.cell 6
   have q7 : w3.cell? ⟨w2.heap.size, 7, none⟩ = some (.slice b'.Am b'.marks.length b'.cm) := CC.out.cell 7
   have q8 : w3.cell? ⟨w2.heap.size, 8, none⟩ = some (.slice b'.Af b'.fls.length b'.cf) := CC.out.cell 8
   have v0 : w3.cell? ⟨w2.heap.size + 1, 0, none⟩ = some (.pointer (some ⟨w2.heap.size, 0, none⟩)) := BV.out.cell 0
   go_wp2_with fail
   refine (open_any b' w3 CC.out.lies.reads hvl HFT'.out).mono ?_
   rintro en w4 ⟨rfl, hx2⟩
   rw [HOB.out]
   replace CC := hJ (CC.out.ext hx2); replace BR := hJ (BR.out.ext hx2); replace BV := hJ (BV.out.ext hx2); replace XX := hJ (XX.out.trans hx2); replace XS := hJ (XS.out.trans hx2); clear hx2
   cases ob with
   | false =>
    go_wp2; go_meet
    case rel => exact ⟨by rw [HC43.out]; rfl, CC, BR, BV, XX, XS⟩
   | true =>
    clear v0 q0 q1 q2 q3 q4 q5 q6 q7 q8; have q0 : w4.cell? ⟨w2.heap.size, 0, none⟩ = some (.int .i64 b'.self) := CC.out.cell 0
    have q1 : w4.cell? ⟨w2.heap.size, 1, none⟩ = some (.slice b'.Av b'.vs.length b'.cv) := CC.out.cell 1
    have q2 : w4.cell? ⟨w2.heap.size, 2, none⟩ = some (.int .i64 b'.base) := CC.out.cell 2
    have q3 : w4.cell? ⟨w2.heap.size, 3, none⟩ = some (.slice b'.Al b'.log.length b'.cl) := CC.out.cell 3
    have q4 : w4.cell? ⟨w2.heap.size, 4, none⟩ = some (.int .i64 b'.stable) := CC.out.cell 4
    have q5 : w4.cell? ⟨w2.heap.size, 5, none⟩ = some (.int .i64 b'.sent) := CC.out.cell 5
    have q6 : w4.cell? ⟨w2.heap.size, 6, none⟩ = some (.slice b'.Ap b'.pend.length b'.cp) := CC.out.cell 6
    have q7 : w4.cell? ⟨w2.heap.size, 7, none⟩ = some (.slice b'.Am b'.marks.length b'.cm) := CC.out.cell 7
    have q8 : w4.cell? ⟨w2.heap.size, 8, none⟩ = some (.slice b'.Af b'.fls.length b'.cf) := CC.out.cell 8
    have v0 : w4.cell? ⟨w2.heap.size + 1, 0, none⟩ = some (.pointer (some ⟨w2.heap.size, 0, none⟩)) := BV.out.cell 0
    go_wp2_with fail
    refine (leads_any b' w4 CC.out.lies.reads hvl HFT'.out).mono ?_
    rintro en w5 ⟨rfl, hx2⟩
    rw [HLB.out]
    replace CC := hJ (CC.out.ext hx2); replace BR := hJ (BR.out.ext hx2); replace BV := hJ (BV.out.ext hx2); replace XX := hJ (XX.out.trans hx2); replace XS := hJ (XS.out.trans hx2); clear hx2
    go_wp2; go_meet
    case rel => exact ⟨by rw [HC43.out]; rfl, CC, BR, BV, XX, XS⟩
  case rest =>
   obtain ⟨rfl, HA, HB, HC, HD, HE⟩ := hcut
   clear CC BR BV XX XS; obtain ⟨w5, rfl⟩ : ∃ x, x = wc := ⟨_, rfl⟩
   obtain ⟨CC, BR, BV, XX⟩ : Hid (CS w5 w1.heap.size (paint (paint col w2.heap.size 1) (w2.heap.size + 1) 8) w2.heap.size ⟨b', none, 0, [], none, 0, []⟩) ∧ Hid (BIs w5 (w.heap.size + 1) #[.int .i64 0, .slice none 0 0, .int .i64 0, .slice none 0 0, .int .i64 0, .int .i64 0, .slice none 0 0, .slice none 0 0, .slice none 0 0] 28) ∧ Hid (BIs w5 (w2.heap.size + 1) #[.pointer (some ⟨w2.heap.size, 0, none⟩)] 84) ∧ Hid (Ext w w5) := ⟨HA, HB, HC, HD⟩
   clear HA HB HC HD; have SS : Hid (Stp w1.heap.size [1, 2, 3, 4, 5, 7] (paint (paint col w2.heap.size 1) (w2.heap.size + 1) 8) w3 (paint (paint col w2.heap.size 1) (w2.heap.size + 1) 8) w5) := hJ (Stp.ext' CC5.out.Bsz HE.out)
   have q0 : w5.cell? ⟨w2.heap.size, 0, none⟩ = some (.int .i64 b'.self) := CC.out.cell 0
   have q1 : w5.cell? ⟨w2.heap.size, 1, none⟩ = some (.slice b'.Av b'.vs.length b'.cv) := CC.out.cell 1
   have q2 : w5.cell? ⟨w2.heap.size, 2, none⟩ = some (.int .i64 b'.base) := CC.out.cell 2
   have q3 : w5.cell? ⟨w2.heap.size, 3, none⟩ = some (.slice b'.Al b'.log.length b'.cl) := CC.out.cell 3
   have q4 : w5.cell? ⟨w2.heap.size, 4, none⟩ = some (.int .i64 b'.stable) := CC.out.cell 4
   have q5 : w5.cell? ⟨w2.heap.size, 5, none⟩ = some (.int .i64 b'.sent) := CC.out.cell 5
   have q6 : w5.cell? ⟨w2.heap.size, 6, none⟩ = some (.slice b'.Ap b'.pend.length b'.cp) := CC.out.cell 6
   have q7 : w5.cell? ⟨w2.heap.size, 7, none⟩ = some (.slice b'.Am b'.marks.length b'.cm) := CC.out.cell 7
   have q8 : w5.cell? ⟨w2.heap.size, 8, none⟩ = some (.slice b'.Af b'.fls.length b'.cf) := CC.out.cell 8
   have v0 : w5.cell? ⟨w2.heap.size + 1, 0, none⟩ = some (.pointer (some ⟨w2.heap.size, 0, none⟩)) := BV.out.cell 0
   cases ob with
   | true =>
    cases lb with
    | true =>
     obtain rfl : c43 = true := HC43.out
     go_wp2_with fail
     refine (lead_any _ _ _ _ _ CC.out (by simp only; rw [HST.out]; exact OK.out) rfl rfl).mono ?_
     rintro en w9 ⟨m9, col9, rfl, hc9, hm9, hs9⟩
     have SE := hJ (SS.out.trans hs9)
     go_wp2; go_meet
     case rel => exact ⟨m9, col9, hJ hc9, hJ (by rw [hm9, HTF.out]; exact (tick_lead HOB.out HLB.out).symm), SE⟩
    | false =>
     obtain rfl : c43 = false := HC43.out
     go_wp2_with fail
     refine (open_any b' w5 CC.out.lies.reads hvl HFT'.out).mono ?_
     rintro en w6 ⟨rfl, hx2⟩
     rw [HOB.out]
     replace CC := hJ (CC.out.ext hx2); replace BR := hJ (BR.out.ext hx2); replace BV := hJ (BV.out.ext hx2); replace XX := hJ (XX.out.trans hx2); replace SS := hJ (SS.out.trans (Stp.ext' (Nat.le_trans CC5.out.Bsz SS.out.size) hx2)); clear hx2
     clear v0 q0 q1 q2 q3 q4 q5 q6 q7 q8; have q0 : w6.cell? ⟨w2.heap.size, 0, none⟩ = some (.int .i64 b'.self) := CC.out.cell 0
     have q1 : w6.cell? ⟨w2.heap.size, 1, none⟩ = some (.slice b'.Av b'.vs.length b'.cv) := CC.out.cell 1
     have q2 : w6.cell? ⟨w2.heap.size, 2, none⟩ = some (.int .i64 b'.base) := CC.out.cell 2
     have q3 : w6.cell? ⟨w2.heap.size, 3, none⟩ = some (.slice b'.Al b'.log.length b'.cl) := CC.out.cell 3
     have q4 : w6.cell? ⟨w2.heap.size, 4, none⟩ = some (.int .i64 b'.stable) := CC.out.cell 4
     have q5 : w6.cell? ⟨w2.heap.size, 5, none⟩ = some (.int .i64 b'.sent) := CC.out.cell 5
     have q6 : w6.cell? ⟨w2.heap.size, 6, none⟩ = some (.slice b'.Ap b'.pend.length b'.cp) := CC.out.cell 6
     have q7 : w6.cell? ⟨w2.heap.size, 7, none⟩ = some (.slice b'.Am b'.marks.length b'.cm) := CC.out.cell 7
     have q8 : w6.cell? ⟨w2.heap.size, 8, none⟩ = some (.slice b'.Af b'.fls.length b'.cf) := CC.out.cell 8
     have v0 : w6.cell? ⟨w2.heap.size + 1, 0, none⟩ = some (.pointer (some ⟨w2.heap.size, 0, none⟩)) := BV.out.cell 0
     go_wp2_with fail
     refine (follow_any _ _ _ _ _ CC.out (by simp only; rw [HST.out]; exact OK.out) rfl).mono ?_
     rintro en w9 ⟨m9, col9, rfl, hc9, hm9, hs9⟩
     have SE := hJ (SS.out.trans hs9)
     go_wp2; go_meet
     case rel => exact ⟨m9, col9, hJ hc9, hJ (by rw [hm9, HTF.out]; exact (tick_follow HOB.out HLB.out).symm), SE⟩
   | false =>
    obtain rfl : c43 = false := HC43.out
    go_wp2_with fail
    refine (open_any b' w5 CC.out.lies.reads hvl HFT'.out).mono ?_
    rintro en w6 ⟨rfl, hx2⟩
    rw [HOB.out]
    replace CC := hJ (CC.out.ext hx2); replace BR := hJ (BR.out.ext hx2); replace BV := hJ (BV.out.ext hx2); replace XX := hJ (XX.out.trans hx2); replace SS := hJ (SS.out.trans (Stp.ext' (Nat.le_trans CC5.out.Bsz SS.out.size) hx2)); clear hx2
    clear v0 q0 q1 q2 q3 q4 q5 q6 q7 q8; have q0 : w6.cell? ⟨w2.heap.size, 0, none⟩ = some (.int .i64 b'.self) := CC.out.cell 0
    have q1 : w6.cell? ⟨w2.heap.size, 1, none⟩ = some (.slice b'.Av b'.vs.length b'.cv) := CC.out.cell 1
    have q2 : w6.cell? ⟨w2.heap.size, 2, none⟩ = some (.int .i64 b'.base) := CC.out.cell 2
    have q3 : w6.cell? ⟨w2.heap.size, 3, none⟩ = some (.slice b'.Al b'.log.length b'.cl) := CC.out.cell 3
    have q4 : w6.cell? ⟨w2.heap.size, 4, none⟩ = some (.int .i64 b'.stable) := CC.out.cell 4
    have q5 : w6.cell? ⟨w2.heap.size, 5, none⟩ = some (.int .i64 b'.sent) := CC.out.cell 5
    have q6 : w6.cell? ⟨w2.heap.size, 6, none⟩ = some (.slice b'.Ap b'.pend.length b'.cp) := CC.out.cell 6
    have q7 : w6.cell? ⟨w2.heap.size, 7, none⟩ = some (.slice b'.Am b'.marks.length b'.cm) := CC.out.cell 7
    have q8 : w6.cell? ⟨w2.heap.size, 8, none⟩ = some (.slice b'.Af b'.fls.length b'.cf) := CC.out.cell 8
    have v0 : w6.cell? ⟨w2.heap.size + 1, 0, none⟩ = some (.pointer (some ⟨w2.heap.size, 0, none⟩)) := BV.out.cell 0
    go_wp2_with fail
    refine (leads_any b' w6 CC.out.lies.reads hvl HFT'.out).mono ?_
    rintro en w7 ⟨rfl, hx2⟩
    rw [HLB.out]
    replace CC := hJ (CC.out.ext hx2); replace BR := hJ (BR.out.ext hx2); replace BV := hJ (BV.out.ext hx2); replace XX := hJ (XX.out.trans hx2); replace SS := hJ (SS.out.trans (Stp.ext' (Nat.le_trans CC5.out.Bsz SS.out.size) hx2)); clear hx2
    clear v0 q0 q1 q2 q3 q4 q5 q6 q7 q8; have q0 : w7.cell? ⟨w2.heap.size, 0, none⟩ = some (.int .i64 b'.self) := CC.out.cell 0
    have q1 : w7.cell? ⟨w2.heap.size, 1, none⟩ = some (.slice b'.Av b'.vs.length b'.cv) := CC.out.cell 1
    have q2 : w7.cell? ⟨w2.heap.size, 2, none⟩ = some (.int .i64 b'.base) := CC.out.cell 2
    have q3 : w7.cell? ⟨w2.heap.size, 3, none⟩ = some (.slice b'.Al b'.log.length b'.cl) := CC.out.cell 3
    have q4 : w7.cell? ⟨w2.heap.size, 4, none⟩ = some (.int .i64 b'.stable) := CC.out.cell 4
    have q5 : w7.cell? ⟨w2.heap.size, 5, none⟩ = some (.int .i64 b'.sent) := CC.out.cell 5
    have q6 : w7.cell? ⟨w2.heap.size, 6, none⟩ = some (.slice b'.Ap b'.pend.length b'.cp) := CC.out.cell 6
    have q7 : w7.cell? ⟨w2.heap.size, 7, none⟩ = some (.slice b'.Am b'.marks.length b'.cm) := CC.out.cell 7
    have q8 : w7.cell? ⟨w2.heap.size, 8, none⟩ = some (.slice b'.Af b'.fls.length b'.cf) := CC.out.cell 8
    have v0 : w7.cell? ⟨w2.heap.size + 1, 0, none⟩ = some (.pointer (some ⟨w2.heap.size, 0, none⟩)) := BV.out.cell 0
    cases lb with
    | false =>
     obtain ⟨⟨nv, xs⟩, hlv⟩ : ∃ v, lastV (vws b'.vs) = v := ⟨_, rfl⟩
     have HLV := hJ hlv
     have hx16 : xs.length ≤ 16 := by
      have h1 := (ok_maj OK.out).2.1
      have h2 : lastV b'.st.views = (nv, xs) := hlv
      rw [← HST.out, h2] at h1; exact h1
     obtain ⟨sq, hsq⟩ : ∃ s, seqrF (nv, xs) = s := ⟨_, rfl⟩
     have HSQ := hJ hsq
     clear hlv hsq; have hfd := field_view
     skip
     go_upto_region 12 with fail
     clear v0 q0 q1 q2 q3 q4 q5 q6 q7 q8; refine E_begin 16 (fun w' => w'.cell? ⟨w2.heap.size, 1, none⟩ = some (.slice b'.Av b'.vs.length b'.cv) ∧ w'.cell? ⟨w2.heap.size, 2, none⟩ = some (.int .i64 b'.base) ∧ w'.cell? ⟨w2.heap.size + 1, 0, none⟩ = some (.pointer (some ⟨w2.heap.size, 0, none⟩))) (by kernel_rfl) ⟨(CC.out.ext Ext.drew1).cell 1, (CC.out.ext Ext.drew1).cell 2, (BV.out.ext Ext.drew1).cell 0⟩ (fun hHeld => ?_)
     have hx2 : Ext w7 w7.drew := Ext.drew1
     replace CC := hJ (CC.out.ext hx2); replace BR := hJ (BR.out.ext hx2); replace BV := hJ (BV.out.ext hx2); replace XX := hJ (XX.out.trans hx2); replace SS := hJ (SS.out.trans (Stp.ext' (Nat.le_trans CC5.out.Bsz SS.out.size) hx2)); clear hx2
     generalize w7.drew = u7 at *
     refine E_t 0 73 ?_; refine E_t 1 74 ?_; refine E_t 2 75 ?_; refine E_t 3 76 ?_; refine E_t 4 77 ?_; refine E_t 9 82 ?_; refine E_t 10 83 ?_; refine E_t 11 84 ?_; refine E_t 12 85 ?_; refine E_t 13 86 ?_; refine E_ready [5] (by kernel_rfl) (by simp) ?_
     refine AllE.cons (o := ⟨some 78, _, _, _, _, _⟩) rfl (fun K hK => ?_) AllE.nil
     go_simp; go_at_call 49; refine (last_b b'.Av b'.cv b'.vs _ CC.out.lies.vs hvl (by have := HFT'.out.vs; omega) nv xs HLV.out).mono ?_
     rintro en w8 ⟨A8, c8, rfl, h81, h82, HR8, hx2⟩
     replace CC := hJ (CC.out.ext hx2); replace BR := hJ (BR.out.ext hx2); replace BV := hJ (BV.out.ext hx2); replace XX := hJ (XX.out.trans hx2); replace SS := hJ (SS.out.trans (Stp.ext' (Nat.le_trans CC5.out.Bsz SS.out.size) hx2)); clear hx2
     clear hHeld; refine hK.out _ _ ⟨CC.out.cell 1, CC.out.cell 2, BV.out.cell 0⟩ (fun hHeld => ?_)
     clear hK K; try simp only [Act.put, aP1, aP2, aP3]
     refine E_t 6 79 ?_; refine E_ready [7] (by kernel_rfl) (by simp) ?_
     refine AllE.cons (o := ⟨some 80, _, _, _, _, _⟩) rfl (fun K hK => ?_) AllE.nil
     go_simp; have hx2 : Ext w8 (w8.alloc (.cells #[.int .i64 nv] 3)) := Ext.new _ _
     have RI := hJ (int1_row nv w8)
     replace CC := hJ (CC.out.ext hx2); replace BR := hJ (BR.out.ext hx2); replace BV := hJ (BV.out.ext hx2); replace XX := hJ (XX.out.trans hx2); replace SS := hJ (SS.out.trans (Stp.ext' (Nat.le_trans CC5.out.Bsz SS.out.size) hx2)); clear hx2
     generalize w8.alloc (.cells #[.int .i64 nv] 3) = w9 at *
     generalize w8.heap.size = r_i at *
     clear hHeld; refine hK.out _ _ ⟨CC.out.cell 1, CC.out.cell 2, BV.out.cell 0⟩ (fun hHeld => ?_)
     clear hK K; try simp only [Act.put, aP1, aP2, aP3]
     refine E_ready [8] (by kernel_rfl) (by simp) ?_
     refine AllE.cons (o := ⟨some 81, _, _, _, _, _⟩) rfl (fun K hK => ?_) AllE.nil
     go_simp; go_at_call 48; refine (numbers_any _ 1 [nv] _ RI.out (by simp)).mono ?_
     rintro en wA ⟨A2, c2, rfl, h21, h22, ho2, hx2⟩
     have R2 := hJ ho2.row
     clear ho2; replace CC := hJ (CC.out.ext hx2); replace BR := hJ (BR.out.ext hx2); replace BV := hJ (BV.out.ext hx2); replace XX := hJ (XX.out.trans hx2); replace SS := hJ (SS.out.trans (Stp.ext' (Nat.le_trans CC5.out.Bsz SS.out.size) hx2)); clear hx2; clear hHeld; refine hK.out _ _ ⟨CC.out.cell 1, CC.out.cell 2, BV.out.cell 0⟩ (fun hHeld => ?_)
     clear hK K; try simp only [Act.put, aP1, aP2, aP3]
     refine E_ready [14] (by kernel_rfl) (by simp) ?_
     refine AllE.cons (o := ⟨some 87, _, _, _, _, _⟩) rfl (fun K hK => ?_) AllE.nil
     go_simp; go_at_call 47; refine (appendInt_any A2 c2 (numsF [nv]) b'.base _ R2.out (by have := numsF_len [nv]; simp at this; omega) HI64).mono ?_
     rintro en wB ⟨A3, c3, rfl, h31, h32, ho3, hx2⟩
     obtain ⟨BD, hbd⟩ : ∃ x, x = numsF [nv] ++ encU (zig b'.base) := ⟨_, rfl⟩
     have HBD := hJ hbd
     have hbl : BD.length ≤ 100 := by rw [hbd]; exact body_len nv b'.base HI64.out
     rw [← hbd] at h31 ho3 ⊢
     clear hbd; have R3 := hJ ho3.row
     clear ho3; replace CC := hJ (CC.out.ext hx2); replace BR := hJ (BR.out.ext hx2); replace BV := hJ (BV.out.ext hx2); replace XX := hJ (XX.out.trans hx2); replace SS := hJ (SS.out.trans (Stp.ext' (Nat.le_trans CC5.out.Bsz SS.out.size) hx2)); clear hx2; clear hHeld; refine hK.out _ _ ⟨CC.out.cell 1, CC.out.cell 2, BV.out.cell 0⟩ (fun hHeld => ?_)
     clear hK K; try simp only [Act.put, aP1, aP2, aP3]
     refine E_t 15 6 ?_; refine E_end (by kernel_rfl) (by rfl) ?_
     go_upto_region 13 with fail
     refine E_begin 15 (fun w' => w'.cell? ⟨w2.heap.size, 1, none⟩ = some (.slice b'.Av b'.vs.length b'.cv) ∧ w'.cell? ⟨w2.heap.size, 3, none⟩ = some (.slice b'.Al b'.log.length b'.cl) ∧ w'.cell? ⟨w2.heap.size + 1, 0, none⟩ = some (.pointer (some ⟨w2.heap.size, 0, none⟩))) (by kernel_rfl) ⟨(CC.out.ext Ext.drew1).cell 1, (CC.out.ext Ext.drew1).cell 3, (BV.out.ext Ext.drew1).cell 0⟩ (fun hHeld => ?_)
     have hx2 : Ext wB wB.drew := Ext.drew1
     replace CC := hJ (CC.out.ext hx2); replace BR := hJ (BR.out.ext hx2); replace BV := hJ (BV.out.ext hx2); replace XX := hJ (XX.out.trans hx2); replace SS := hJ (SS.out.trans (Stp.ext' (Nat.le_trans CC5.out.Bsz SS.out.size) hx2)); replace R3 := hJ (R3.out.ext hx2); clear hx2
     generalize wB.drew = u8 at *
     refine E_t 0 88 ?_; refine E_t 1 89 ?_; refine E_t 2 90 ?_; refine E_t 3 91 ?_; refine E_t 4 92 ?_; refine E_t 5 93 ?_; refine E_t 8 96 ?_; refine E_t 9 97 ?_; refine E_t 10 98 ?_; refine E_t 11 99 ?_; refine E_t 12 100 ?_; refine E_t 13 101 ?_; refine E_ready [6] (by kernel_rfl) (by simp) ?_
     refine AllE.cons (o := ⟨some 94, _, _, _, _, _⟩) rfl (fun K hK => ?_) AllE.nil
     go_simp; go_at_call 49; refine (last_b b'.Av b'.cv b'.vs _ CC.out.lies.vs hvl (by have := HFT'.out.vs; omega) nv xs HLV.out).mono ?_
     rintro en wC ⟨A8, c8, rfl, h81, h82, HR8, hx2⟩
     replace CC := hJ (CC.out.ext hx2); replace BR := hJ (BR.out.ext hx2); replace BV := hJ (BV.out.ext hx2); replace XX := hJ (XX.out.trans hx2); replace SS := hJ (SS.out.trans (Stp.ext' (Nat.le_trans CC5.out.Bsz SS.out.size) hx2)); replace R3 := hJ (R3.out.ext hx2); clear hx2
     clear hHeld; refine hK.out _ _ ⟨CC.out.cell 1, CC.out.cell 3, BV.out.cell 0⟩ (fun hHeld => ?_)
     clear hK K; try simp only [Act.put, aP1, aP2, aP3]
     refine E_ready [7] (by kernel_rfl) (by simp) ?_
     refine AllE.cons (o := ⟨some 95, _, _, _, _, _⟩) rfl (fun K hK => ?_) AllE.nil
     go_simp; go_at_call 51; refine (sequencer_b nv A8 c8 xs _ HR8.out (by omega) sq HSQ.out).mono ?_
     rintro en wD ⟨rfl, hx2⟩
     replace CC := hJ (CC.out.ext hx2); replace BR := hJ (BR.out.ext hx2); replace BV := hJ (BV.out.ext hx2); replace XX := hJ (XX.out.trans hx2); replace SS := hJ (SS.out.trans (Stp.ext' (Nat.le_trans CC5.out.Bsz SS.out.size) hx2)); replace R3 := hJ (R3.out.ext hx2); clear hx2
     clear hHeld; refine hK.out _ _ ⟨CC.out.cell 1, CC.out.cell 3, BV.out.cell 0⟩ (fun hHeld => ?_)
     clear hK K; try simp only [Act.put, aP1, aP2, aP3]
     refine E_ready [14] (by kernel_rfl) (by simp) ?_
     refine AllE.cons (o := ⟨some 102, _, _, _, _, _⟩) rfl (fun K hK => ?_) AllE.nil
     go_simp; go_at_call 52; refine (appendEntries_any A3 b'.Al c3 b'.cl BD b'.log _ R3.out (by omega) ⟨h31, h32⟩ CC.out.lies.log.row hlg HLP.out).mono ?_
     rintro en wF ⟨A4, c4, rfl, h41, h42, ho4, hx2⟩
     obtain ⟨bd, hbd⟩ : ∃ x, x = BD ++ entsF b'.log := ⟨_, rfl⟩
     have HBD2 := hJ hbd
     have hbl2 : bd.length ≤ 100000000 := by rw [hbd]; exact ents_bound (by omega) hlg HLP.out
     rw [← hbd] at h41 ho4 ⊢
     clear hbd; have R4 := hJ ho4.row
     clear ho4; replace CC := hJ (CC.out.ext hx2); replace BR := hJ (BR.out.ext hx2); replace BV := hJ (BV.out.ext hx2); replace XX := hJ (XX.out.trans hx2); replace SS := hJ (SS.out.trans (Stp.ext' (Nat.le_trans CC5.out.Bsz SS.out.size) hx2)); replace R3 := hJ (R3.out.ext hx2); clear hx2; clear hHeld; refine hK.out _ _ ⟨CC.out.cell 1, CC.out.cell 3, BV.out.cell 0⟩ (fun hHeld => ?_)
     clear hK K; try simp only [Act.put, aP1, aP2, aP3]
     refine E_tail (by rfl) (by kernel_rfl) ?_
     go_wp2_with fail
     refine (send_any ⟨b', none, 0, [], none, 0, []⟩ _ _ _ sq 14 A4 c4 bd wF CC.out R4.out hbl2 (by decide) (by simp)).mono ?_
     rintro en w9 ⟨m9, col9, rfl, hc9, hm9, hs9⟩
     have SE := hJ (SS.out.trans hs9)
     go_wp2; go_meet
     case rel => exact ⟨m9, col9, hJ hc9, hJ (by rw [hm9, HTF.out]; exact by rw [HBD2.out]; exact (tick_flush HOB.out HLB.out HLV.out HSQ.out HBD.out).symm), SE⟩
    | true =>
     have hmf : ∀ (fn : Fn) (first cap : Array Value) (w : World), (Instr.makeFunc fn first cap).run Tryz.prog w = .ok (.func fn first cap) w := fun _ _ _ _ => rfl
     have hlc : w2.heap.size < w7.heap.size := CC.out.lt
     have hlv : w2.heap.size + 1 < w7.heap.size := BV.out.lt
     go_wp2_with fail
     refine (containsFl_any b'.Af b'.cf b'.fls (w2.heap.size + 1) w2.heap.size b'.self w7 CC.out.lies.reads.fls (by have := HFT'.out.fls; omega) v0 q0 hlv hlc).mono ?_
     rintro en w8 ⟨rfl, hx2⟩
     replace CC := hJ (CC.out.ext hx2); replace BR := hJ (BR.out.ext hx2); replace BV := hJ (BV.out.ext hx2); replace XX := hJ (XX.out.trans hx2); replace SS := hJ (SS.out.trans (Stp.ext' (Nat.le_trans CC5.out.Bsz SS.out.size) hx2)); clear hx2
     clear v0 q0 q1 q2 q3 q4 q5 q6 q7 q8; clear hlc hlv; cases hmine : (b'.fls.any fun f => f.m == b'.self) with
     | true =>
      have HMI := hJ hmine
      have q0 : w8.cell? ⟨w2.heap.size, 0, none⟩ = some (.int .i64 b'.self) := CC.out.cell 0
      have q1 : w8.cell? ⟨w2.heap.size, 1, none⟩ = some (.slice b'.Av b'.vs.length b'.cv) := CC.out.cell 1
      have q2 : w8.cell? ⟨w2.heap.size, 2, none⟩ = some (.int .i64 b'.base) := CC.out.cell 2
      have q3 : w8.cell? ⟨w2.heap.size, 3, none⟩ = some (.slice b'.Al b'.log.length b'.cl) := CC.out.cell 3
      have q4 : w8.cell? ⟨w2.heap.size, 4, none⟩ = some (.int .i64 b'.stable) := CC.out.cell 4
      have q5 : w8.cell? ⟨w2.heap.size, 5, none⟩ = some (.int .i64 b'.sent) := CC.out.cell 5
      have q6 : w8.cell? ⟨w2.heap.size, 6, none⟩ = some (.slice b'.Ap b'.pend.length b'.cp) := CC.out.cell 6
      have q7 : w8.cell? ⟨w2.heap.size, 7, none⟩ = some (.slice b'.Am b'.marks.length b'.cm) := CC.out.cell 7
      have q8 : w8.cell? ⟨w2.heap.size, 8, none⟩ = some (.slice b'.Af b'.fls.length b'.cf) := CC.out.cell 8
      have v0 : w8.cell? ⟨w2.heap.size + 1, 0, none⟩ = some (.pointer (some ⟨w2.heap.size, 0, none⟩)) := BV.out.cell 0
      go_wp2_with fail
      refine (install_any ⟨b', none, 0, [], none, 0, []⟩ _ _ _ w8 CC.out hvl hstb hfn2 HVX.out).mono ?_
      rintro en w9 ⟨m9, col9, rfl, hc9, hm9, hs9⟩
      have SE := hJ (SS.out.trans hs9)
      go_wp2; go_meet
      case rel => exact ⟨m9, col9, hJ hc9, hJ (by rw [hm9, HTF.out]; exact (tick_mine HOB.out HLB.out HMI.out).symm), SE⟩
     | false =>
      have HMI := hJ hmine
      have q0 : w8.cell? ⟨w2.heap.size, 0, none⟩ = some (.int .i64 b'.self) := CC.out.cell 0
      have q1 : w8.cell? ⟨w2.heap.size, 1, none⟩ = some (.slice b'.Av b'.vs.length b'.cv) := CC.out.cell 1
      have q2 : w8.cell? ⟨w2.heap.size, 2, none⟩ = some (.int .i64 b'.base) := CC.out.cell 2
      have q3 : w8.cell? ⟨w2.heap.size, 3, none⟩ = some (.slice b'.Al b'.log.length b'.cl) := CC.out.cell 3
      have q4 : w8.cell? ⟨w2.heap.size, 4, none⟩ = some (.int .i64 b'.stable) := CC.out.cell 4
      have q5 : w8.cell? ⟨w2.heap.size, 5, none⟩ = some (.int .i64 b'.sent) := CC.out.cell 5
      have q6 : w8.cell? ⟨w2.heap.size, 6, none⟩ = some (.slice b'.Ap b'.pend.length b'.cp) := CC.out.cell 6
      have q7 : w8.cell? ⟨w2.heap.size, 7, none⟩ = some (.slice b'.Am b'.marks.length b'.cm) := CC.out.cell 7
      have q8 : w8.cell? ⟨w2.heap.size, 8, none⟩ = some (.slice b'.Af b'.fls.length b'.cf) := CC.out.cell 8
      have v0 : w8.cell? ⟨w2.heap.size + 1, 0, none⟩ = some (.pointer (some ⟨w2.heap.size, 0, none⟩)) := BV.out.cell 0
      go_upto_region 5 with fail
      clear v0 q0 q1 q2 q3 q4 q5 q6 q7 q8; refine E_begin 17 (fun w' => w'.cell? ⟨w2.heap.size, 0, none⟩ = some (.int .i64 b'.self) ∧ w'.cell? ⟨w2.heap.size, 2, none⟩ = some (.int .i64 b'.base) ∧ w'.cell? ⟨w2.heap.size, 3, none⟩ = some (.slice b'.Al b'.log.length b'.cl) ∧ w'.cell? ⟨w2.heap.size + 1, 0, none⟩ = some (.pointer (some ⟨w2.heap.size, 0, none⟩))) (by kernel_rfl) ⟨(CC.out.ext Ext.drew1).cell 0, (CC.out.ext Ext.drew1).cell 2, (CC.out.ext Ext.drew1).cell 3, (BV.out.ext Ext.drew1).cell 0⟩ (fun hHeld => ?_)
      have hx2 : Ext w8 w8.drew := Ext.drew1
      replace CC := hJ (CC.out.ext hx2); replace BR := hJ (BR.out.ext hx2); replace BV := hJ (BV.out.ext hx2); replace XX := hJ (XX.out.trans hx2); replace SS := hJ (SS.out.trans (Stp.ext' (Nat.le_trans CC5.out.Bsz SS.out.size) hx2)); clear hx2
      generalize w8.drew = u8 at *
      refine E_t 0 23 ?_; refine E_t 1 24 ?_; refine E_t 2 25 ?_; refine E_t 3 26 ?_; refine E_t 4 27 ?_; refine E_t 5 28 ?_; refine E_t 6 29 ?_; refine E_t 7 30 ?_; refine E_t 8 31 ?_; refine E_t 9 32 ?_; refine E_t 10 33 ?_; refine E_t 11 34 ?_; refine E_t 12 35 ?_; refine E_t 13 36 ?_; refine E_t 14 37 ?_; refine E_t 15 38 ?_; refine E_t 16 39 ?_; refine E_tail (by rfl) (by kernel_rfl) ?_
      go_wp2_with fail
      refine (putFlush_any ⟨b', none, 0, [], none, 0, []⟩ _ _ _ b'.self b'.base b'.Al b'.cl b'.log u8 CC.out CC.out.lies.log.row (by omega) (fun e he => Nat.le_trans (HLP.out e he) (by omega)) (by have := hfn; show b'.fls.length ≤ 50000; omega)).mono ?_
      rintro en wP ⟨mP, colP, rfl, hcP, hmP, hsP⟩
      have CP := hJ hcP; have HMP := hJ hmP
      replace SS := hJ (SS.out.trans hsP)
      have BVP := hJ (hsP.bis BV.out (by rw [paint_new (Nat.le_refl _)]; simp))
      clear hcP hmP hsP; have v0 : wP.cell? ⟨w2.heap.size + 1, 0, none⟩ = some (.pointer (some ⟨w2.heap.size, 0, none⟩)) := BVP.out.cell 0
      obtain ⟨hi1, hi2, hi3, hi4⟩ := put_keep (m := ⟨b', none, 0, [], none, 0, []⟩) (by show OkS b'.st; rw [HST.out]; exact OK.out) HMP.out (by have := hfn; show b'.fls.length ≤ 49999; omega) HVX.out
      go_wp2_with fail
      refine (install_any mP _ colP _ wP CP.out hi1 hi2 hi3 hi4).mono ?_
      rintro en w9 ⟨m9, col9, rfl, hc9, hm9, hs9⟩
      have SE := hJ (SS.out.trans hs9)
      go_wp2; go_meet
      case rel => exact ⟨m9, col9, hJ hc9, hJ (by rw [hm9, HTF.out]; exact by rw [HMP.out]; exact (tick_put HOB.out HLB.out HMI.out).symm), SE⟩
 case rest =>
  obtain ⟨m6, col6, hc6', hm6', hs6'⟩ := hcut
  have hc6 := hc6'.out; have hm6 := hm6'.out; have hs6 := hs6'.out
  have S6 := hs6'; have hME : Hid (m6.cs = tickF b.st) := hm6'
  clear hc6' hm6' hs6'; obtain ⟨w6, rfl⟩ : ∃ x, x = wc := ⟨_, rfl⟩
  have v0 : True := trivial
  have hcv8 : Hid ((paint (paint col w2.heap.size 1) (w2.heap.size + 1) 8) (w.heap.size + 1) = 8) := hJ (by have h1 := hp12.out; have h2 := hlt2.out; rw [paint_old (by omega), paint_old (by omega)]; exact HC8.out _ h1)
  have hcvv : Hid ((paint (paint col w2.heap.size 1) (w2.heap.size + 1) 8) (w2.heap.size + 1) = 8) := hJ (paint_new (Nat.le_refl _))
  have BRE := hJ (S6.out.bis BR5.out (by rw [hcv8.out]; simp))
  have BVE := hJ (S6.out.bis BV5.out (by rw [hcvv.out]; simp))
  have XE : Hid (Ext w w6) := hJ (Below.trans X6.out (S6.out.below.mono (by have := hp12.out; omega)))
  have CE := hJ hc6
  have HCO : Hid (∀ k, k < w.heap.size → col6 k = 8) := hJ (fun k hk => (S6.out.hue _ (by have := X6.out.size; omega)).trans (by have h1 := hp12.out; have h2 := hlt2.out; rw [paint_old (by omega), paint_old (by omega)]; exact HC8.out _ (by omega)))
  have hc8E : Hid (col6 (w.heap.size + 1) = 8) := hJ ((S6.out.hue _ BR5.out.lt).trans hcv8.out)
  have hne1 : w2.heap.size ≠ w.heap.size + 1 := by have h1 := hp12.out; have h2 := hlt2.out; omega
  have hne2 : w2.heap.size + 1 ≠ w.heap.size + 1 := by have h1 := hp12.out; have h2 := hlt2.out; omega
  have qv : w6.cell? ⟨w2.heap.size + 1, 0, none⟩ = some (.pointer (some ⟨w2.heap.size, 0, none⟩)) := BVE.out.cell 0
  have q0 := CE.out.cell 0; have q1 := CE.out.cell 1; have q2 := CE.out.cell 2; have q3 := CE.out.cell 3; have q4 := CE.out.cell 4; have q5 := CE.out.cell 5; have q6 := CE.out.cell 6; have q7 := CE.out.cell 7; have q8 := CE.out.cell 8; have q9 := CE.out.cell 9; have q10 := CE.out.cell 10
  clear hc6 hm6 hs6 v0; obtain ⟨⟨self, base, stable, sent, Av, cv, vs, Al, cl, log, Ap, cp, pend, Am, cm, marks, Af, cf, fls⟩, Ak, ck, pk, Ad, cd, dl⟩ := m6
  go_wp2; obtain ⟨wE, rfl⟩ : ∃ x, x = w6 := ⟨_, rfl⟩
  obtain ⟨colE, rfl⟩ : ∃ x, x = col6 := ⟨_, rfl⟩
  replace q0 : wE.cell? ⟨w2.heap.size, 0, none⟩ = some (.int .i64 self) := q0
  replace q1 : wE.cell? ⟨w2.heap.size, 1, none⟩ = some (.slice Av vs.length cv) := q1
  replace q2 : wE.cell? ⟨w2.heap.size, 2, none⟩ = some (.int .i64 base) := q2
  replace q3 : wE.cell? ⟨w2.heap.size, 3, none⟩ = some (.slice Al log.length cl) := q3
  replace q4 : wE.cell? ⟨w2.heap.size, 4, none⟩ = some (.int .i64 stable) := q4
  replace q5 : wE.cell? ⟨w2.heap.size, 5, none⟩ = some (.int .i64 sent) := q5
  replace q6 : wE.cell? ⟨w2.heap.size, 6, none⟩ = some (.slice Ap pend.length cp) := q6
  replace q7 : wE.cell? ⟨w2.heap.size, 7, none⟩ = some (.slice Am marks.length cm) := q7
  replace q8 : wE.cell? ⟨w2.heap.size, 8, none⟩ = some (.slice Af fls.length cf) := q8
  replace q9 : wE.cell? ⟨w2.heap.size, 9, none⟩ = some (.slice Ak pk.length ck) := q9
  replace q10 : wE.cell? ⟨w2.heap.size, 10, none⟩ = some (.slice Ad dl.length cd) := q10
  obtain ⟨y0, y1, y2, y3, y4, y5, y6, y7, y8⟩ := nine BRE.out
  obtain ⟨z0, z1, z2, z3, z4, z5, z6, z7, z8⟩ := BRE.out.free9
  refine E_begin 15 (fun w' => w'.cell? ⟨w2.heap.size, 0, none⟩ = some (.int .i64 self) ∧ w'.cell? ⟨w2.heap.size, 1, none⟩ = some (.slice Av vs.length cv) ∧ w'.cell? ⟨w2.heap.size, 2, none⟩ = some (.int .i64 base) ∧ w'.cell? ⟨w2.heap.size, 3, none⟩ = some (.slice Al log.length cl) ∧ w'.cell? ⟨w2.heap.size, 4, none⟩ = some (.int .i64 stable) ∧ w'.cell? ⟨w2.heap.size, 5, none⟩ = some (.int .i64 sent) ∧ w'.cell? ⟨w2.heap.size, 6, none⟩ = some (.slice Ap pend.length cp) ∧ w'.cell? ⟨w2.heap.size, 7, none⟩ = some (.slice Am marks.length cm) ∧ w'.cell? ⟨w2.heap.size, 8, none⟩ = some (.slice Af fls.length cf) ∧ w'.cell? ⟨w2.heap.size, 9, none⟩ = some (.slice Ak pk.length ck) ∧ w'.cell? ⟨w2.heap.size, 10, none⟩ = some (.slice Ad dl.length cd) ∧ w'.cell? ⟨w2.heap.size + 1, 0, none⟩ = some (.pointer (some ⟨w2.heap.size, 0, none⟩))) (by kernel_rfl) ⟨by simpa using q0, by simpa using q1, by simpa using q2, by simpa using q3, by simpa using q4, by simpa using q5, by simpa using q6, by simpa using q7, by simpa using q8, by simpa using q9, by simpa using q10, by simpa using qv⟩ (fun hHeld => ?_)
  refine E_t 0 104 ?_; refine E_t 1 105 ?_; refine E_t 2 106 ?_; refine E_t 3 107 ?_; refine E_t 4 108 ?_; refine E_t 5 109 ?_; refine E_t 6 110 ?_; refine E_t 7 111 ?_; refine E_t 8 112 ?_; refine E_t 9 113 ?_; refine E_t 10 114 ?_; refine E_t 11 115 ?_; refine E_ready [12] (by kernel_rfl) (by simp) ?_
  refine AllE.cons (o := ⟨none, _, _, _, _, _⟩) rfl (fun K hK => ?_) AllE.nil
  go_simp; clear hHeld; refine hK.out _ _ ⟨(nine_far hne1).trans q0, (nine_far hne1).trans q1, (nine_far hne1).trans q2, (nine_far hne1).trans q3, (nine_far hne1).trans q4, (nine_far hne1).trans q5, (nine_far hne1).trans q6, (nine_far hne1).trans q7, (nine_far hne1).trans q8, (nine_far hne1).trans q9, (nine_far hne1).trans q10, (nine_far hne2).trans qv⟩ (fun hHeld => ?_)
  clear hK K; try simp only [Act.put, aP1, aP2, aP3]
  refine E_t 13 3 ?_; refine E_t 14 4 ?_; refine E_end (by kernel_rfl) (by rfl) ?_
  go_wp2; have BF : Hid (BIs (((((((((wE.setCell ⟨w.heap.size + 1, 0, none⟩ (.int .i64 self)).setCell ⟨w.heap.size + 1, 1, none⟩ (.slice Av vs.length cv)).setCell ⟨w.heap.size + 1, 2, none⟩ (.int .i64 base)).setCell ⟨w.heap.size + 1, 3, none⟩ (.slice Al log.length cl)).setCell ⟨w.heap.size + 1, 4, none⟩ (.int .i64 stable)).setCell ⟨w.heap.size + 1, 5, none⟩ (.int .i64 sent)).setCell ⟨w.heap.size + 1, 6, none⟩ (.slice Ap pend.length cp)).setCell ⟨w.heap.size + 1, 7, none⟩ (.slice Am marks.length cm)).setCell ⟨w.heap.size + 1, 8, none⟩ (.slice Af fls.length cf)).drew (w.heap.size + 1) #[.int .i64 self, .slice Av vs.length cv, .int .i64 base, .slice Al log.length cl, .int .i64 stable, .int .i64 sent, .slice Ap pend.length cp, .slice Am marks.length cm, .slice Af fls.length cf] 28) := hJ ((nine_set BRE.out).ext Ext.drew1)
  have XFF : Hid (Ext w (((((((((wE.setCell ⟨w.heap.size + 1, 0, none⟩ (.int .i64 self)).setCell ⟨w.heap.size + 1, 1, none⟩ (.slice Av vs.length cv)).setCell ⟨w.heap.size + 1, 2, none⟩ (.int .i64 base)).setCell ⟨w.heap.size + 1, 3, none⟩ (.slice Al log.length cl)).setCell ⟨w.heap.size + 1, 4, none⟩ (.int .i64 stable)).setCell ⟨w.heap.size + 1, 5, none⟩ (.int .i64 sent)).setCell ⟨w.heap.size + 1, 6, none⟩ (.slice Ap pend.length cp)).setCell ⟨w.heap.size + 1, 7, none⟩ (.slice Am marks.length cm)).setCell ⟨w.heap.size + 1, 8, none⟩ (.slice Af fls.length cf)).drew) := hJ ((nine_wrote.ext XE.out (by omega)).trans Ext.drew1)
  have SF : Hid (Stp w.heap.size [8] colE wE colE (((((((((wE.setCell ⟨w.heap.size + 1, 0, none⟩ (.int .i64 self)).setCell ⟨w.heap.size + 1, 1, none⟩ (.slice Av vs.length cv)).setCell ⟨w.heap.size + 1, 2, none⟩ (.int .i64 base)).setCell ⟨w.heap.size + 1, 3, none⟩ (.slice Al log.length cl)).setCell ⟨w.heap.size + 1, 4, none⟩ (.int .i64 stable)).setCell ⟨w.heap.size + 1, 5, none⟩ (.int .i64 sent)).setCell ⟨w.heap.size + 1, 6, none⟩ (.slice Ap pend.length cp)).setCell ⟨w.heap.size + 1, 7, none⟩ (.slice Am marks.length cm)).setCell ⟨w.heap.size + 1, 8, none⟩ (.slice Af fls.length cf)).drew) := hJ ((Stp.wrote nine_wrote (by omega) (by have := XE.out.size; omega) (by rw [hc8E.out]; simp)).trans (Stp.ext' (by rw [show ((((((((((wE.setCell ⟨w.heap.size + 1, 0, none⟩ (.int .i64 self)).setCell ⟨w.heap.size + 1, 1, none⟩ (.slice Av vs.length cv)).setCell ⟨w.heap.size + 1, 2, none⟩ (.int .i64 base)).setCell ⟨w.heap.size + 1, 3, none⟩ (.slice Al log.length cl)).setCell ⟨w.heap.size + 1, 4, none⟩ (.int .i64 stable)).setCell ⟨w.heap.size + 1, 5, none⟩ (.int .i64 sent)).setCell ⟨w.heap.size + 1, 6, none⟩ (.slice Ap pend.length cp)).setCell ⟨w.heap.size + 1, 7, none⟩ (.slice Am marks.length cm)).setCell ⟨w.heap.size + 1, 8, none⟩ (.slice Af fls.length cf))).heap.size = wE.heap.size by simp [World.setCell]]; have := XE.out.size; omega) Ext.drew1))
  generalize (((((((((wE.setCell ⟨w.heap.size + 1, 0, none⟩ (.int .i64 self)).setCell ⟨w.heap.size + 1, 1, none⟩ (.slice Av vs.length cv)).setCell ⟨w.heap.size + 1, 2, none⟩ (.int .i64 base)).setCell ⟨w.heap.size + 1, 3, none⟩ (.slice Al log.length cl)).setCell ⟨w.heap.size + 1, 4, none⟩ (.int .i64 stable)).setCell ⟨w.heap.size + 1, 5, none⟩ (.int .i64 sent)).setCell ⟨w.heap.size + 1, 6, none⟩ (.slice Ap pend.length cp)).setCell ⟨w.heap.size + 1, 7, none⟩ (.slice Am marks.length cm)).setCell ⟨w.heap.size + 1, 8, none⟩ (.slice Af fls.length cf)).drew = W at *
  obtain ⟨e0, e1, e2, e3, e4, e5, e6, e7, e8⟩ := nine BF.out
  refine bodyPost_ret (v := .tuple #[.agg #[.int .i64 self, .slice Av vs.length cv, .int .i64 base, .slice Al log.length cl, .int .i64 stable, .int .i64 sent, .slice Ap pend.length cp, .slice Am marks.length cm, .slice Af fls.length cf], .slice Ak pk.length ck, .slice Ad dl.length cd]) (by simp [results, Tryz.results14, go_sem, e0, e1, e2, e3, e4, e5, e6, e7, e8]) rfl ?_
  exact tick_out CE.out SF.out hME.out XFF.out (fun k hk => HCO.out k hk)
end Go.Proofs.YtponbabbabnaeaaGreat
