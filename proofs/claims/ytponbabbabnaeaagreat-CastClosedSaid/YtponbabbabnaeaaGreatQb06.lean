/- Part 6 of the proof: contracts of functions that the statement reaches. Conditions: as each theorem says. -/
import Derived.Test.YtponbabbabnaeaaGreatQb01
import Derived.Test.YtponbabbabnaeaaGreatQb05
namespace Go.Proofs.YtponbabbabnaeaaGreat
open Go.RowKit
theorem vwAt_eq {l : List Vw} {i : Nat} {v : Vw} (h : l[i]? = some v) : vwAt l i = v := by unfold vwAt; rw [h]; rfl
theorem vs_short {l : List Vw} (h : ¬ 1 ≤ l.length) : validVs l = false := by unfold validVs; rw [decide_eq_false h]; rfl
theorem vs_long {l : List Vw} (h : ¬ l.length ≤ 2000) : validVs l = false := by unfold validVs; rw [decide_eq_false h]; simp
theorem vs_first {l : List Vw} {v : Vw} (h : l[0]? = some v) (hv : validB v.1 v.2 = false) : validVs l = false := by unfold validVs; rw [vwAt_eq h, hv]; simp
theorem vs_no {l : List Vw} {k : Nat} {a b : Vw} (ha : l[k]? = some a) (hb : l[k + 1]? = some b) (hf : followB a b = false) : validVs l = false := by
 have hk := (List.getElem?_eq_some_iff.1 hb).1
 unfold validVs
 rw [show ((List.range (l.length - 1)).all fun i => followB (vwAt l i) (vwAt l (i + 1))) = false from by
  rw [List.all_eq_false]
  exact ⟨k, List.mem_range.2 (by omega), by rw [vwAt_eq ha, vwAt_eq hb, hf]; simp⟩]
 simp
theorem vs_yes {l : List Vw} {v : Vw} (h1 : 1 ≤ l.length) (h2 : l.length ≤ 2000) (h : l[0]? = some v) (hv : validB v.1 v.2 = true) (hf : ∀ j, j < l.length - 1 → followB (vwAt l j) (vwAt l (j + 1)) = true) : validVs l = true := by
 unfold validVs
 rw [decide_eq_true h1, decide_eq_true h2, vwAt_eq h, hv, show ((List.range (l.length - 1)).all fun i => followB (vwAt l i) (vwAt l (i + 1))) = true from by
  rw [List.all_eq_true]; exact fun i hi => hf i (List.mem_range.1 hi)]; rfl
theorem vs_step {l : List Vw} {k : Nat} {a b : Vw} (ha : l[k]? = some a) (hb : l[k + 1]? = some b) (hf : followB a b = true) (h : ∀ j, j < k → followB (vwAt l j) (vwAt l (j + 1)) = true) : ∀ j, j < k + 1 → followB (vwAt l j) (vwAt l (j + 1)) = true := by
 intro j hj
 rcases Nat.lt_or_ge j k with h1 | h1
 ·exact h j h1
 ·rw [show j = k by omega, vwAt_eq ha, vwAt_eq hb]; exact hf
theorem successor_b (n m : Int) (A B : Option Addr) (c d : Nat) (xs ys : List Int) (w : World) (hx : Row w A (ints xs)) (hy : Row w B (ints ys)) (hn : xs.length ≤ 1000000) (hm : ys.length ≤ 1000000) (r : Bool) (hr : followB (n, xs) (m, ys) = r) :
  Calls Tryz.prog 159 #[.agg #[.int .i64 n, .slice A xs.length c], .agg #[.int .i64 m, .slice B ys.length d]] w fun e w' => e = .returned (.bool r) ∧ Ext w w' := by
 subst hr; exact successor_any n m A B c d xs ys w hx hy hn hm
set_option maxRecDepth 100000 in
set_option maxHeartbeats 2000000 in
theorem validViews_any (A : Option Addr) (c : Nat) (l : List VwM) (w : World) (h : viewE.Box w A l) (hn : l.length ≤ 1000000000) (hm : ∀ v ∈ l, v.xs.length ≤ 1000000) :
  Calls Tryz.prog 88 #[.slice A l.length c] w fun e w' => e = .returned (.bool (validVs (vws l))) ∧ Ext w w' := by
 have H := hJ h; have HM := hJ hm; clear h hm
 by_cases h1 : 1 ≤ l.length
 rotate_left
 ·have h1' : l.length < 1 := by omega
  have H1 := hJ h1
  clear h1; go_enter Tryz.func88, Tryz.ntmps88
  go_wp2; go_ret
  exact ⟨ret_bool (vs_short (by rw [vws_len]; exact H1.out)).symm, Ext.refl _⟩
 have h1' : ¬ l.length < 1 := by omega
 have h1i : decide ((l.length : Int) < 1) = false := decide_eq_false (by omega)
 by_cases h2 : l.length ≤ 2000
 rotate_left
 ·have h2' : 2000 < l.length := by omega
  have H2 := hJ h2
  clear h2; go_enter Tryz.func88, Tryz.ntmps88
  go_wp2; go_ret
  exact ⟨ret_bool (vs_long (by rw [vws_len]; exact H2.out)).symm, Ext.refl _⟩
 have h2' : ¬ 2000 < l.length := by omega
 have h2i : decide ((2000 : Int) < (l.length : Int)) = false := decide_eq_false (by omega)
 obtain ⟨b, off, n0, X0, cx0, xs0, hA, hb, c0, c1, HR0, hl1, hl2, HX0⟩ := views_at H.out (show 0 < l.length by omega)
 simp only [Nat.zero_mul, Nat.add_zero] at c0 c1
 subst hA
 have HP0 := hJ (vws_at HX0.out)
 have hx0 : xs0.length ≤ 9223372036854775807 := by have := HM.out _ (List.mem_of_getElem? HX0.out); simp only at this; omega
 have k0 : 0 < l.length := by omega
 go_enter Tryz.func88, Tryz.ntmps88
 go_wp2_with fail
 refine (valid_any n0 X0 cx0 xs0 _ HR0.out hx0).mono ?_
 cases hv : validB n0 xs0
 ·have HV := hJ hv; clear hv
  rintro e w1 ⟨rfl, hx1⟩
  have X1 := hJ hx1; clear hx1
  go_wp2; go_ret
  exact ⟨ret_bool (vs_first HP0.out HV.out).symm, X1.out⟩
 have HV := hJ hv; clear hv
 rintro e w1 ⟨rfl, hx1⟩
 have X1 := hJ hx1; clear hx1 c0 c1
 go_wp2; go_loopw [3] (fun i wr => ∃ k : Nat, k + 1 ≤ l.length ∧ i = .int .i64 ((k + 1 : Nat) : Int) ∧ Hid (∀ j, j < k → followB (vwAt (vws l) j) (vwAt (vws l) (j + 1)) = true) ∧ Ext w wr) (fun i _ => l.length - (intOf i).toNat)
 case atStart => exact ⟨0, by omega, rfl, hJ (fun j hj => absurd hj (Nat.not_lt_zero _)), X1.out⟩
 case round =>
  obtain ⟨k, hk, rfl, HT, HS0⟩ := hrel
  have HS := hJ HS0; clear HS0
  by_cases hlt : k + 1 < l.length
  ·obtain ⟨b1, off1, n1, Y1, cy1, ys1, hA1, hb1, c0, c1, HR1, hl3, hl4, HX1⟩ := views_at (H.out.ext HS.out) (show k < l.length by omega)
   obtain ⟨b2, off2, n2, Y2, cy2, ys2, hA2, hb2, d0, d1, HR2, hl5, hl6, HX2⟩ := views_at (H.out.ext HS.out) hlt
   simp only [Option.some.injEq, Addr.mk.injEq, and_true] at hA1 hA2
   obtain ⟨rfl, rfl⟩ := hA1
   obtain ⟨rfl, rfl⟩ := hA2
   have HP1 := hJ (vws_at HX1.out); have HP2 := hJ (vws_at HX2.out)
   have hy1 : ys1.length ≤ 1000000 := HM.out _ (List.mem_of_getElem? HX1.out)
   have hy2 : ys2.length ≤ 1000000 := HM.out _ (List.mem_of_getElem? HX2.out)
   have RY1 := hJ (HR1.out.ext (Ext.drew (Ext.refl _))); have RY2 := hJ (HR2.out.ext (Ext.drew (Ext.refl _)))
   obtain ⟨i, hi⟩ : ∃ i, k + 1 = i := ⟨_, rfl⟩
   have HI := hJ hi
   have hw1 : IntKind.i64.wrap ((i : Int) - 1) = (k : Int) := by rw [IntWalk.i64_in _ (by omega)]; omega
   have m1 : (0 : Int) ≤ (k : Int) := by omega
   have m2 : (k : Int) < (l.length : Int) := by omega
   have m3 : k < l.length := by omega
   rw [hi] at d0 d1 hlt ⊢
   have hwi : IntKind.i64.wrap ((i : Int) + 1) = (i : Int) + 1 := IntWalk.i64_in _ (by omega)
   clear hi; cases hf : followB (n1, ys1) (n2, ys2)
   ·have HF := hJ hf; clear hf
    go_wp2; refine still_tail_drew 9 (by kernel_rfl) (by kernel_rfl) ?_
    simp only [List.take_succ_cons, List.take_zero, List.drop_succ_cons, List.drop_zero]
    with_reducible refine wpS_take (v := ?_) ?_ ?_ ?_
    rotate_left
    ·rfl
    ·(go_simp <;> with_reducible rfl)
    try simp only [Act.put, l1, l2, l3]
    with_reducible refine wpS_take (v := ?_) ?_ ?_ ?_
    rotate_left
    ·rfl
    ·(go_simp <;> with_reducible rfl)
    try simp only [Act.put, l1, l2, l3]
    with_reducible refine wpS_take (v := ?_) ?_ ?_ ?_
    rotate_left
    ·rfl
    ·(go_simp <;> with_reducible rfl)
    try simp only [Act.put, l1, l2, l3]
    with_reducible refine wpS_take (v := ?_) ?_ ?_ ?_
    rotate_left
    ·rfl
    ·(go_simp <;> with_reducible rfl)
    try simp only [Act.put, l1, l2, l3]
    with_reducible refine wpS_take (v := ?_) ?_ ?_ ?_
    rotate_left
    ·rfl
    ·(go_simp <;> with_reducible rfl)
    try simp only [Act.put, l1, l2, l3]
    with_reducible refine wpS_take (v := ?_) ?_ ?_ ?_
    rotate_left
    ·rfl
    ·(go_simp <;> with_reducible rfl)
    try simp only [Act.put, l1, l2, l3]
    with_reducible refine wpS_take (v := ?_) ?_ ?_ ?_
    rotate_left
    ·rfl
    ·(go_simp <;> with_reducible rfl)
    try simp only [Act.put, l1, l2, l3]
    with_reducible refine wpS_take (v := ?_) ?_ ?_ ?_
    rotate_left
    ·rfl
    ·(go_simp <;> with_reducible rfl)
    try simp only [Act.put, l1, l2, l3]
    with_reducible refine wpS_take (v := ?_) ?_ ?_ ?_
    rotate_left
    ·rfl
    ·(go_simp <;> with_reducible rfl)
    try simp only [Act.put, l1, l2, l3]
    refine wpStill_nil ?_
    go_wp2_with fail
    refine (successor_b n1 n2 Y1 Y2 cy1 cy2 ys1 ys2 _ RY1.out RY2.out hy1 hy2 _ HF.out).mono ?_
    rintro e w2 ⟨rfl, hx2⟩
    have X2 := hJ (HS.out.drew.trans hx2); clear hx2
    go_wp2; go_ret
    exact ⟨ret_bool (vs_no HP1.out HP2.out HF.out).symm, X2.out⟩
   ·have HF := hJ hf; clear hf
    go_wp2; refine still_tail_drew 9 (by kernel_rfl) (by kernel_rfl) ?_
    simp only [List.take_succ_cons, List.take_zero, List.drop_succ_cons, List.drop_zero]
    with_reducible refine wpS_take (v := ?_) ?_ ?_ ?_
    rotate_left
    ·rfl
    ·(go_simp <;> with_reducible rfl)
    try simp only [Act.put, l1, l2, l3]
    with_reducible refine wpS_take (v := ?_) ?_ ?_ ?_
    rotate_left
    ·rfl
    ·(go_simp <;> with_reducible rfl)
    try simp only [Act.put, l1, l2, l3]
    with_reducible refine wpS_take (v := ?_) ?_ ?_ ?_
    rotate_left
    ·rfl
    ·(go_simp <;> with_reducible rfl)
    try simp only [Act.put, l1, l2, l3]
    with_reducible refine wpS_take (v := ?_) ?_ ?_ ?_
    rotate_left
    ·rfl
    ·(go_simp <;> with_reducible rfl)
    try simp only [Act.put, l1, l2, l3]
    with_reducible refine wpS_take (v := ?_) ?_ ?_ ?_
    rotate_left
    ·rfl
    ·(go_simp <;> with_reducible rfl)
    try simp only [Act.put, l1, l2, l3]
    with_reducible refine wpS_take (v := ?_) ?_ ?_ ?_
    rotate_left
    ·rfl
    ·(go_simp <;> with_reducible rfl)
    try simp only [Act.put, l1, l2, l3]
    with_reducible refine wpS_take (v := ?_) ?_ ?_ ?_
    rotate_left
    ·rfl
    ·(go_simp <;> with_reducible rfl)
    try simp only [Act.put, l1, l2, l3]
    with_reducible refine wpS_take (v := ?_) ?_ ?_ ?_
    rotate_left
    ·rfl
    ·(go_simp <;> with_reducible rfl)
    try simp only [Act.put, l1, l2, l3]
    with_reducible refine wpS_take (v := ?_) ?_ ?_ ?_
    rotate_left
    ·rfl
    ·(go_simp <;> with_reducible rfl)
    try simp only [Act.put, l1, l2, l3]
    refine wpStill_nil ?_
    go_wp2_with fail
    refine (successor_b n1 n2 Y1 Y2 cy1 cy2 ys1 ys2 _ RY1.out RY2.out hy1 hy2 _ HF.out).mono ?_
    rintro e w2 ⟨rfl, hx2⟩
    have X2 := hJ (HS.out.drew.trans hx2); clear hx2
    go_wp2; go_roundw
    case rel => exact ⟨k + 1, by have := HI.out; omega, by have := HI.out; rw [← this]; go_num, hJ (vs_step HP1.out HP2.out HF.out HT.out), X2.out⟩
    case measure => simp [intOf] <;> omega
  ·obtain ⟨i, hi⟩ : ∃ i, k + 1 = i := ⟨_, rfl⟩
   have HI := hJ hi
   rw [hi] at hlt ⊢
   clear hi; go_wp2; go_ret
   exact ⟨ret_bool (vs_yes (by rw [vws_len]; exact h1) (by rw [vws_len]; exact h2) HP0.out HV.out (fun j hj => HT.out j (by rw [vws_len] at hj; have := HI.out; omega))).symm, HS.out⟩
end Go.Proofs.YtponbabbabnaeaaGreat
namespace Go.Proofs.YtponbabbabnaeaaGreat
open Go.RowKit
structure BM where
 self : Int
 base : Int
 stable : Int
 sent : Int
 Av : Option Addr
 cv : Nat
 vs : List VwM
 Al : Option Addr
 cl : Nat
 log : List Ent
 Ap : Option Addr
 cp : Nat
 pend : List (List UInt8)
 Am : Option Addr
 cm : Nat
 marks : List (Int × Int)
 Af : Option Addr
 cf : Nat
 fls : List FlM
def BM.st (b : BM) : St := ⟨b.self, vws b.vs, b.base, b.log, b.stable, b.sent, b.pend, b.marks, b.fls.map FlM.v⟩
abbrev BM.cells (b : BM) : Array Value := #[.int .i64 b.self, .slice b.Av b.vs.length b.cv, .int .i64 b.base, .slice b.Al b.log.length b.cl, .int .i64 b.stable, .int .i64 b.sent, .slice b.Ap b.pend.length b.cp, .slice b.Am b.marks.length b.cm, .slice b.Af b.fls.length b.cf]
structure BM.Reads (w : World) (b : BM) : Prop where
 vs : viewE.Box w b.Av b.vs
 log : Row w b.Al (entE.cells b.log)
 pend : Row w b.Ap (strE.cells b.pend)
 marks : Row w b.Am (markE.cells b.marks)
 fls : flE.Box w b.Af b.fls
theorem BM.Reads.ext {w w' : World} {b : BM} (h : b.Reads w) (e : Ext w w') : b.Reads w' := ⟨h.vs.ext e, h.log.ext e, h.pend.ext e, h.marks.ext e, h.fls.ext e⟩
structure BM.Fits (b : BM) : Prop where
 vs : b.vs.length ≤ 100000
 vx : ∀ v ∈ b.vs, v.xs.length ≤ 1000000
 log : b.log.length ≤ 100000
 lp : ∀ e ∈ b.log, e.p.length ≤ 1000000
 pend : b.pend.length ≤ 100000
 pp : ∀ p ∈ b.pend, p.length ≤ 1000000
 marks : b.marks.length ≤ 100000
 fls : b.fls.length ≤ 100000
 fl : ∀ f ∈ b.fls, f.log.length ≤ 100000 ∧ ∀ e ∈ f.log, e.p.length ≤ 1000000
 cl : b.log.length ≤ b.cl ∧ b.cl ≤ maxLen
theorem lastV_len {l : List VwM} {m : Nat} (h : ∀ v ∈ l, v.xs.length ≤ m) : (lastV (vws l)).2.length ≤ m := by
 unfold lastV vwAt
 cases hi : (vws l)[(vws l).length - 1]? with
 | none => simp
 | some v =>
  obtain ⟨u, hu, rfl⟩ := List.mem_map.1 (List.mem_of_getElem? hi)
  exact h u hu
theorem field_view (n : Int) (A : Option Addr) (k c : Nat) (w : World) : (Instr.field 46 (.agg #[.int .i64 n, .slice A k c]) 0).run Tryz.prog w = .ok (.int .i64 n) w := by
 simp [Instr.field, asAgg, go_sem]
theorem last_b (A : Option Addr) (c : Nat) (l : List VwM) (w : World) (h : viewE.Box w A l) (hp : 0 < l.length) (hn : l.length ≤ 1000000000) (n : Int) (xs : List Int) (hr : lastV (vws l) = (n, xs)) :
  Calls Tryz.prog 49 #[.slice A l.length c] w fun e w' => ∃ A c, e = .returned (.agg #[.int .i64 n, .slice A xs.length c]) ∧ xs.length ≤ c ∧ c ≤ maxLen ∧ Hid (Row w' A (ints xs)) ∧ Ext w w' := by
 have := last_any A c l w h hp hn
 rw [hr] at this
 exact this
theorem sequencer_b (n : Int) (A : Option Addr) (c : Nat) (xs : List Int) (w : World) (h : Row w A (ints xs)) (hn : xs.length ≤ 9223372036854775807) (s : Int) (hs : seqrF (n, xs) = s) :
  Calls Tryz.prog 51 #[.agg #[.int .i64 n, .slice A xs.length c]] w fun e w' => e = .returned (.int .i64 s) ∧ Ext w w' := by
 subst hs; exact sequencer_any n A c xs w h hn
set_option maxRecDepth 100000 in
theorem open_any (b : BM) (w : World) (h : b.Reads w) (hp : 0 < b.vs.length) (hf : b.Fits) :
  Calls Tryz.prog 40 #[.agg b.cells] w fun e w' => e = .returned (.bool (openB b.st)) ∧ Ext w w' := by
 have H0 := hJ (Ext.new w (.cells b.cells 28))
 have HV := hJ (h.vs.ext H0.out.drew)
 have hn : b.vs.length ≤ 1000000000 := by have := hf.vs; omega
 obtain ⟨⟨n, xs⟩, hl⟩ : ∃ v, lastV (vws b.vs) = v := ⟨_, rfl⟩
 have HL := hJ hl
 have HO : Hid (openB b.st = decide (b.base = n)) := hJ (by show decide (b.base = (lastV (vws b.vs)).1) = _; rw [hl])
 clear h hf hl; unfold BM.cells at H0 HV ⊢
 have hfd := field_view
 go_enter Tryz.func40, Tryz.ntmps40
 go_wp2; go_region_held3 (fun w' => w'.cell? ⟨w.heap.size, 1, none⟩ = some (.slice b.Av b.vs.length b.cv) ∧ w'.cell? ⟨w.heap.size, 2, none⟩ = some (.int .i64 b.base))
  (first | exact ⟨r0, r1⟩ | (go_keep; done))
  (first
   | (go_at_call 49; (with_reducible refine (last_b b.Av b.cv b.vs _ (by exact HV.out) hp hn n xs (by exact HL.out)).mono ?_); rintro e v1 ⟨A1, c1, rfl, _, _, _, hx1⟩; have X1 := hJ (Ext.trans H0.out.drew hx1); have r0 : v1.cell? ⟨w.heap.size, 1, none⟩ = some (.slice b.Av b.vs.length b.cv) := (by rw [hx1.cell (by simp)]; simp); have r1 : v1.cell? ⟨w.heap.size, 2, none⟩ = some (.int .i64 b.base) := (by rw [hx1.cell (by simp)]; simp); clear hx1))
 go_wp2; go_ret
 exact ⟨ret_bool (by rw [HO.out, Bool.eq_iff_iff]; simp), X1.out⟩
set_option maxRecDepth 100000 in
theorem leads_any (b : BM) (w : World) (h : b.Reads w) (hp : 0 < b.vs.length) (hf : b.Fits) :
  Calls Tryz.prog 41 #[.agg b.cells] w fun e w' => e = .returned (.bool (leadB b.st)) ∧ Ext w w' := by
 have H0 := hJ (Ext.new w (.cells b.cells 28))
 have HV := hJ (h.vs.ext H0.out.drew)
 have hn : b.vs.length ≤ 1000000000 := by have := hf.vs; omega
 have hxl := lastV_len hf.vx
 obtain ⟨⟨n, xs⟩, hl⟩ : ∃ v, lastV (vws b.vs) = v := ⟨_, rfl⟩
 have HL := hJ hl
 obtain ⟨sq, hsq⟩ : ∃ s, seqrF (n, xs) = s := ⟨_, rfl⟩
 have HQ := hJ hsq
 have HO : Hid (leadB b.st = decide (sq = b.self)) := hJ (by show decide (seqrF (lastV (vws b.vs)) = b.self) = _; rw [hl, hsq])
 rw [hl] at hxl
 have hxl' : xs.length ≤ 9223372036854775807 := by simp only at hxl; omega
 clear h hf hl hsq hxl; unfold BM.cells at H0 HV ⊢
 go_enter Tryz.func41, Tryz.ntmps41
 go_wp2; go_region_held3 (fun w' => w'.cell? ⟨w.heap.size, 1, none⟩ = some (.slice b.Av b.vs.length b.cv) ∧ w'.cell? ⟨w.heap.size, 0, none⟩ = some (.int .i64 b.self))
  (first | exact ⟨r0, r1⟩ | exact ⟨t0, t1⟩ | (go_keep; done))
  (first
   | (go_at_call 49; (with_reducible refine (last_b b.Av b.cv b.vs _ (by exact HV.out) hp hn n xs (by exact HL.out)).mono ?_); rintro e v1 ⟨A1, c1, rfl, _, _, HR1, hx1⟩; have X1 := hJ (Ext.trans H0.out.drew hx1); have y1 : w.heap.size < v1.heap.size := (by have := hx1.size; simp at this; omega); have r0 : v1.cell? ⟨w.heap.size, 1, none⟩ = some (.slice b.Av b.vs.length b.cv) := (by rw [hx1.cell (by simp)]; simp); have r1 : v1.cell? ⟨w.heap.size, 0, none⟩ = some (.int .i64 b.self) := (by rw [hx1.cell (by simp)]; simp); clear hx1)
   | (go_at_call 51; (with_reducible refine (sequencer_b n A1 c1 xs _ (by exact HR1.out) hxl' sq (by exact HQ.out)).mono ?_); rintro e v2 ⟨rfl, hx2⟩; have X2 := hJ (Ext.trans X1.out hx2); have t0 : v2.cell? ⟨w.heap.size, 1, none⟩ = some (.slice b.Av b.vs.length b.cv) := (by rw [hx2.cell (by exact y1)]; exact r0); have t1 : v2.cell? ⟨w.heap.size, 0, none⟩ = some (.int .i64 b.self) := (by rw [hx2.cell (by exact y1)]; exact r1); clear hx2))
 go_wp2; go_ret
 exact ⟨ret_bool (by rw [HO.out, Bool.eq_iff_iff]; simp), X2.out⟩
end Go.Proofs.YtponbabbabnaeaaGreat
namespace Go.Proofs.YtponbabbabnaeaaGreat
open Go.RowKit
theorem poss_none {vs : List Vw} {f : Fls} (hb : f.2.1 ≠ -1) (h : knownV vs f.2.1 = none) : possB vs f = false := by unfold possB; rw [if_neg hb, h]; rfl
theorem poss_late {vs : List Vw} {f : Fls} {v : Vw} (hb : f.2.1 ≠ -1) (h : knownV vs f.2.1 = some v) (hl : ¬ f.2.1 < (lastV vs).1) : possB vs f = false := by unfold possB; rw [if_neg hb, h]; simp only [decide_eq_false hl, Bool.false_and]
theorem poss_who {vs : List Vw} {f : Fls} {v : Vw} (hb : f.2.1 ≠ -1) (h : knownV vs f.2.1 = some v) (hw : hasB v.2 f.1 = false) : possB vs f = false := by unfold possB; rw [if_neg hb, h]; simp only [hw, Bool.and_false, Bool.false_and]
theorem poss_yes {vs : List Vw} {f : Fls} {v : Vw} (hb : f.2.1 ≠ -1) (h : knownV vs f.2.1 = some v) (hl : f.2.1 < (lastV vs).1) (hw : hasB v.2 f.1 = true) : possB vs f = basedB f.2.2 f.2.1 := by unfold possB; rw [if_neg hb, h]; simp only [decide_eq_true hl, hw, Bool.and_self, Bool.true_and]
theorem poss_no {vs : List Vw} {f : Fls} (hb : f.2.1 = -1) : possB vs f = basedB f.2.2 f.2.1 := by unfold possB; rw [if_pos hb, Bool.true_and]
theorem contains_c (A : Option Addr) (c : Nat) (xs : List Int) (id : Int) (w : World) (h : Row w A (ints xs)) (hn : xs.length ≤ 9223372036854775807) (b : Bool) (hb : hasB xs id = b) :
  Calls Tryz.prog 85 #[.slice A xs.length c, .int .i64 id] w fun e w' => e = .returned (.bool b) ∧ w' = w := by
 subst hb; exact (contains_any A c xs id w h hn).mono fun e w' h => ⟨h.1, h.2.symm⟩
theorem known_pos {vs : List Vw} {n : Int} {v : Vw} (h : knownV vs n = some v) : 0 < vs.length := by
 have := List.mem_of_find?_eq_some h
 exact List.length_pos_of_mem this
set_option maxRecDepth 100000 in
set_option maxHeartbeats 2000000 in
theorem possible_any (Av : Option Addr) (cv : Nat) (vs : List VwM) (f : FlM) (w : World) (h : viewE.Box w Av vs) (hf : Row w f.A (entE.cells f.log)) (hn : vs.length ≤ 1000000000) (hx : ∀ v ∈ vs, v.xs.length ≤ 1000000)
  (hl : f.log.length ≤ 1000000000) (hlp : ∀ e ∈ f.log, e.p.length ≤ 1000000) :
  Calls Tryz.prog 145 #[.slice Av vs.length cv, .agg #[.int .i64 f.m, .int .i64 f.b, .slice f.A f.log.length f.c]] w fun e w' => e = .returned (.bool (possB (vws vs) f.v)) ∧ Ext w w' := by
 have H0 := hJ (Ext.new w (.cells #[.int .i64 f.m, .int .i64 f.b, .slice f.A f.log.length f.c] 80))
 have HV := hJ (h.ext H0.out); have HF := hJ (hf.ext H0.out); have HXX := hJ hx; have HLP := hJ hlp
 clear h hf hx hlp; by_cases hb : f.b = -1
 ·have HB := hJ (poss_no (vs := vws vs) (f := f.v) hb)
  have hb' : (f.b != -1) = false := by simp [hb]
  clear hb; go_enter Tryz.func145, Tryz.ntmps145
  go_wp2_with fail
  refine (based_any f.A f.c f.log f.b _ HF.out hl HLP.out).mono ?_
  rintro e w2 ⟨rfl, hx2⟩
  have X2 := hJ (H0.out.trans hx2); clear hx2
  go_wp2; go_ret
  exact ⟨ret_bool HB.out.symm, X2.out⟩
 have HB := hJ hb
 have hb' : (f.b != -1) = true := by simp [hb]
 clear hb; go_enter Tryz.func145, Tryz.ntmps145
 go_wp2_with fail
 refine (known_any Av cv vs f.b _ HV.out hn).mono ?_
 cases hk : knownV (vws vs) f.b with
 | none =>
  have HK := hJ (poss_none (f := f.v) HB.out hk)
  clear hk; rintro e w1 ⟨A1, c1, rfl, _, _, _, hx1⟩
  have X1 := hJ hx1; clear hx1
  simp only [Option.getD_none, Option.isSome_none, List.length_nil]
  go_wp2; go_quiet (fail)
  go_wp2; go_ret
  exact ⟨ret_bool HK.out.symm, H0.out.trans ((X1.out.alloc _).drewN _)⟩
 | some v =>
  obtain ⟨vn, xs⟩ := v
  have hp : 0 < vs.length := by have := known_pos hk; rwa [vws_len] at this
  have HK := hJ hk
  have hxl : xs.length ≤ 9223372036854775807 := by
   have := List.mem_of_find?_eq_some hk
   obtain ⟨u, hu, hv⟩ := List.mem_map.1 this
   have := HXX.out u hu
   have e : u.xs = xs := by have := congrArg Prod.snd hv; exact this
   rw [e] at this; omega
  clear hk; rintro e w1 ⟨A1, c1, rfl, _, _, HR1, hx1⟩
  have X1 := hJ hx1; clear hx1
  simp only [Option.getD_some, Option.isSome_some] at HR1 ⊢
  obtain ⟨⟨ln, lxs⟩, hl2⟩ : ∃ v, lastV (vws vs) = v := ⟨_, rfl⟩
  have HL := hJ hl2; clear hl2
  have hfd := field_view
  have X3 := hJ (X1.out.alloc (.cells #[.int .i64 vn, .slice A1 xs.length c1] 46))
  have RV := hJ (HV.out.ext X3.out.drew); have R1 := hJ (HR1.out.ext (Ext.drew (Ext.new _ (.cells #[.int .i64 vn, .slice A1 xs.length c1] 46))))
  have zz : w.heap.size < w1.heap.size := by have := X1.out.size; simp at this; omega
  have q0 : w1.cell? ⟨w.heap.size, 0, none⟩ = some (.int .i64 f.m) := by simpa using X1.out.cell_new 0
  have q1 : w1.cell? ⟨w.heap.size, 1, none⟩ = some (.int .i64 f.b) := by simpa using X1.out.cell_new 1
  have q2 : w1.cell? ⟨w.heap.size, 2, none⟩ = some (.slice f.A f.log.length f.c) := by simpa using X1.out.cell_new 2
  have s0 : (w1.alloc (.cells #[.int .i64 vn, .slice A1 xs.length c1] 46)).cell? ⟨w.heap.size, 0, none⟩ = some (.int .i64 f.m) := by simpa using X3.out.cell_new 0
  have s1 : (w1.alloc (.cells #[.int .i64 vn, .slice A1 xs.length c1] 46)).cell? ⟨w.heap.size, 1, none⟩ = some (.int .i64 f.b) := by simpa using X3.out.cell_new 1
  have s2 : (w1.alloc (.cells #[.int .i64 vn, .slice A1 xs.length c1] 46)).cell? ⟨w1.heap.size, 1, none⟩ = some (.slice A1 xs.length c1) := by simp
  by_cases hlt : f.b < ln
  rotate_left
  ·have HLT := hJ (poss_late (f := f.v) HB.out HK.out (by rw [HL.out]; exact hlt))
   have hlt' : decide (ln ≤ f.b) = true := decide_eq_true (by omega)
   clear hlt; go_wp2; refine wp_region_held_drew (S := fun w' => w'.cell? ⟨w.heap.size, 0, none⟩ = some (.int .i64 f.m) ∧ w'.cell? ⟨w.heap.size, 1, none⟩ = some (.int .i64 f.b) ∧ w'.cell? ⟨w1.heap.size, 1, none⟩ = some (.slice A1 xs.length c1)) (by kernel_rfl) ⟨s0, s1, s2⟩ (fun hHeld => ?_)
   refine wpAnyH_take (i := 0) (oi := ⟨some 17, _, _, _, _, _⟩) (v := ?_) rfl (by kernel_rfl) (by kernel_rfl) (by kernel_rfl) (fun _ _ _ h => h) (Or.inl ⟨by rfl, ?_⟩) (by assumption) ?_
   rotate_left
   ·(intro w9 hSw; (try dsimp only at hSw); go_simp <;> with_reducible rfl)
   try simp only [Act.put, l1, l2, l3]
   refine wpAnyH_take (i := 1) (oi := ⟨some 18, _, _, _, _, _⟩) (v := ?_) rfl (by kernel_rfl) (by kernel_rfl) (by kernel_rfl) (fun _ _ _ h => h) (Or.inl ⟨by rfl, ?_⟩) (by assumption) ?_
   rotate_left
   ·(intro w9 hSw; (try dsimp only at hSw); go_simp <;> with_reducible rfl)
   try simp only [Act.put, l1, l2, l3]
   refine wpAnyH_take (i := 2) (oi := ⟨some 19, _, _, _, _, _⟩) (v := ?_) rfl (by kernel_rfl) (by kernel_rfl) (by kernel_rfl) (fun _ _ _ h => h) (Or.inl ⟨by rfl, ?_⟩) (by assumption) ?_
   rotate_left
   ·(intro w9 hSw; (try dsimp only at hSw); go_simp <;> with_reducible rfl)
   try simp only [Act.put, l1, l2, l3]
   refine wpAnyH_take (i := 3) (oi := ⟨some 20, _, _, _, _, _⟩) (v := ?_) rfl (by kernel_rfl) (by kernel_rfl) (by kernel_rfl) (fun _ _ _ h => h) (Or.inl ⟨by rfl, ?_⟩) (by assumption) ?_
   rotate_left
   ·(intro w9 hSw; (try dsimp only at hSw); go_simp <;> with_reducible rfl)
   try simp only [Act.put, l1, l2, l3]
   refine wpAnyH_take (i := 4) (oi := ⟨some 21, _, _, _, _, _⟩) (v := ?_) rfl (by kernel_rfl) (by kernel_rfl) (by kernel_rfl) (fun _ _ _ h => h) (Or.inl ⟨by rfl, ?_⟩) (by assumption) ?_
   rotate_left
   ·(intro w9 hSw; (try dsimp only at hSw); go_simp <;> with_reducible rfl)
   try simp only [Act.put, l1, l2, l3]
   refine wpAnyH_take (i := 5) (oi := ⟨some 22, _, _, _, _, _⟩) (v := ?_) rfl (by kernel_rfl) (by kernel_rfl) (by kernel_rfl) (fun _ _ _ h => h) (Or.inl ⟨by rfl, ?_⟩) (by assumption) ?_
   rotate_left
   ·(intro w9 hSw; (try dsimp only at hSw); go_simp <;> with_reducible rfl)
   try simp only [Act.put, l1, l2, l3]
   refine wpAnyH_ready (rs := [6]) (by kernel_rfl) (by simp) ?_
   refine AllReadyH.cons (o := ⟨some 23, _, _, _, _, _⟩) rfl (fun K hK => ?_) AllReadyH.nil
   go_simp; go_at_call 49; refine (last_b Av cv vs _ RV.out hp hn ln lxs HL.out).mono ?_
   rintro e w4 ⟨A4, c4, rfl, _, _, _, hx4⟩
   have X4 := hJ ((X3.out.drew).trans hx4)
   have r0 : w4.cell? ⟨w.heap.size, 0, none⟩ = some (.int .i64 f.m) := by simpa using X4.out.cell_new 0
   have r1 : w4.cell? ⟨w.heap.size, 1, none⟩ = some (.int .i64 f.b) := by simpa using X4.out.cell_new 1
   have r2 : w4.cell? ⟨w1.heap.size, 1, none⟩ = some (.slice A1 xs.length c1) := by rw [hx4.cell (by simp)]; simp
   clear hHeld hx4; refine hK.out _ _ ⟨r0, r1, r2⟩ (fun hHeld => ?_)
   try simp only [Act.put, l1, l2, l3]
   refine wpAnyH_take (i := 7) (oi := ⟨some 24, _, _, _, _, _⟩) (v := ?_) rfl (by kernel_rfl) (by kernel_rfl) (by kernel_rfl) (fun _ _ _ h => h) (Or.inl ⟨by rfl, ?_⟩) (by assumption) ?_
   rotate_left
   ·(intro w9 hSw; (try dsimp only at hSw); go_simp <;> with_reducible rfl)
   try simp only [Act.put, l1, l2, l3]
   refine wpAnyH_take (i := 8) (oi := ⟨some 25, _, _, _, _, _⟩) (v := ?_) rfl (by kernel_rfl) (by kernel_rfl) (by kernel_rfl) (fun _ _ _ h => h) (Or.inl ⟨by rfl, ?_⟩) (by assumption) ?_
   rotate_left
   ·(intro w9 hSw; (try dsimp only at hSw); go_simp <;> with_reducible rfl)
   try simp only [Act.put, l1, l2, l3]
   refine wpAnyH_take (i := 9) (oi := ⟨some 26, _, _, _, _, _⟩) (v := ?_) rfl (by kernel_rfl) (by kernel_rfl) (by kernel_rfl) (fun _ _ _ h => h) (Or.inl ⟨by rfl, ?_⟩) (by assumption) ?_
   rotate_left
   ·(intro w9 hSw; (try dsimp only at hSw); go_simp <;> with_reducible rfl)
   try simp only [Act.put, l1, l2, l3]
   refine wpAnyH_take (i := 10) (oi := ⟨some 27, _, _, _, _, _⟩) (v := ?_) rfl (by kernel_rfl) (by kernel_rfl) (by kernel_rfl) (fun _ _ _ h => h) (Or.inl ⟨by rfl, ?_⟩) (by assumption) ?_
   rotate_left
   ·(intro w9 hSw; (try dsimp only at hSw); go_simp <;> with_reducible rfl)
   try simp only [Act.put, l1, l2, l3]
   refine wpAnyH_take (i := 11) (oi := ⟨some 28, _, _, _, _, _⟩) (v := undef) rfl (by kernel_rfl) (by kernel_rfl) (by kernel_rfl) (fun _ _ _ h => h) (Or.inr ⟨by rfl, rfl⟩) (by assumption) ?_
   try simp only [Act.put, l1, l2, l3]
   refine wpAnyH_take (i := 12) (oi := ⟨some 29, _, _, _, _, _⟩) (v := undef) rfl (by kernel_rfl) (by kernel_rfl) (by kernel_rfl) (fun _ _ _ h => h) (Or.inr ⟨by rfl, rfl⟩) (by assumption) ?_
   try simp only [Act.put, l1, l2, l3]
   refine wpAnyH_take (i := 13) (oi := ⟨some 30, _, _, _, _, _⟩) (v := undef) rfl (by kernel_rfl) (by kernel_rfl) (by kernel_rfl) (fun _ _ _ h => h) (Or.inr ⟨by rfl, rfl⟩) (by assumption) ?_
   try simp only [Act.put, l1, l2, l3]
   refine wpAnyH_take (i := 14) (oi := ⟨some 31, _, _, _, _, _⟩) (v := undef) rfl (by kernel_rfl) (by kernel_rfl) (by kernel_rfl) (fun _ _ _ h => h) (Or.inr ⟨by rfl, rfl⟩) (by assumption) ?_
   try simp only [Act.put, l1, l2, l3]
   refine wpAnyH_take (i := 15) (oi := ⟨some 32, _, _, _, _, _⟩) (v := undef) rfl (by kernel_rfl) (by kernel_rfl) (by kernel_rfl) (fun _ _ _ h => h) (Or.inr ⟨by rfl, rfl⟩) (by assumption) ?_
   try simp only [Act.put, l1, l2, l3]
   refine wpAnyH_take (i := 16) (oi := ⟨some 33, _, _, _, _, _⟩) (v := undef) rfl (by kernel_rfl) (by kernel_rfl) (by kernel_rfl) (fun _ _ _ h => h) (Or.inr ⟨by rfl, rfl⟩) (by assumption) ?_
   try simp only [Act.put, l1, l2, l3]
   refine wpAnyH_take (i := 17) (oi := ⟨some 34, _, _, _, _, _⟩) (v := ?_) rfl (by kernel_rfl) (by kernel_rfl) (by kernel_rfl) (fun _ _ _ h => h) (Or.inl ⟨by rfl, ?_⟩) (by assumption) ?_
   rotate_left
   ·(intro w9 hSw; (try dsimp only at hSw); go_simp <;> with_reducible rfl)
   try simp only [Act.put, l1, l2, l3]
   refine wpAnyH_done (by kernel_rfl) ?_ _
   go_wp2; go_ret
   exact ⟨ret_bool HLT.out.symm, H0.out.trans X4.out⟩
  have HLT := hJ (show f.v.2.1 < (lastV (vws vs)).1 by rw [HL.out]; exact hlt)
  have hlt' : decide (ln ≤ f.b) = false := decide_eq_false (by omega)
  clear hlt; cases hh : hasB xs f.m
  ·have HH := hJ (poss_who (f := f.v) HB.out HK.out hh)
   have HHH := hJ hh
   clear hh; go_wp2; go_region_held3 (fun w' => w'.cell? ⟨w.heap.size, 0, none⟩ = some (.int .i64 f.m) ∧ w'.cell? ⟨w.heap.size, 1, none⟩ = some (.int .i64 f.b) ∧ w'.cell? ⟨w1.heap.size, 1, none⟩ = some (.slice A1 xs.length c1))
    (first | exact ⟨s0, s1, s2⟩ | exact ⟨r0, r1, r2⟩)
    (first
     | (go_at_call 49; (with_reducible refine (last_b Av cv vs _ (by exact RV.out) hp hn ln lxs (by exact HL.out)).mono ?_); rintro e w4 ⟨A4, c4, rfl, _, _, _, hx4⟩; have X4 := hJ (Ext.trans (X3.out.drew) hx4); have R4 := hJ (R1.out.ext hx4); have r0 : w4.cell? ⟨w.heap.size, 0, none⟩ = some (.int .i64 f.m) := (by simpa using X4.out.cell_new 0); have r1 : w4.cell? ⟨w.heap.size, 1, none⟩ = some (.int .i64 f.b) := (by simpa using X4.out.cell_new 1); have r2 : w4.cell? ⟨w1.heap.size, 1, none⟩ = some (.slice A1 xs.length c1) := (by rw [hx4.cell (by simp)]; simp); clear hx4)
     | (go_at_call 85; (with_reducible refine (contains_c A1 c1 xs f.m _ (by exact R4.out) hxl _ (by exact HHH.out)).mono ?_); rintro e w5 ⟨rfl, rfl⟩))
   go_wp2; go_ret
   exact ⟨ret_bool HH.out.symm, H0.out.trans X4.out⟩
  ·have HH := hJ (poss_yes (f := f.v) HB.out HK.out HLT.out hh)
   have HHH := hJ hh
   clear hh; go_wp2; go_region_held3 (fun w' => w'.cell? ⟨w.heap.size, 0, none⟩ = some (.int .i64 f.m) ∧ w'.cell? ⟨w.heap.size, 1, none⟩ = some (.int .i64 f.b) ∧ w'.cell? ⟨w1.heap.size, 1, none⟩ = some (.slice A1 xs.length c1))
    (first | exact ⟨s0, s1, s2⟩ | exact ⟨r0, r1, r2⟩)
    (first
     | (go_at_call 49; (with_reducible refine (last_b Av cv vs _ (by exact RV.out) hp hn ln lxs (by exact HL.out)).mono ?_); rintro e w4 ⟨A4, c4, rfl, _, _, _, hx4⟩; have X4 := hJ (Ext.trans (X3.out.drew) hx4); have R4 := hJ (R1.out.ext hx4); have r0 : w4.cell? ⟨w.heap.size, 0, none⟩ = some (.int .i64 f.m) := (by simpa using X4.out.cell_new 0); have r1 : w4.cell? ⟨w.heap.size, 1, none⟩ = some (.int .i64 f.b) := (by simpa using X4.out.cell_new 1); have r2 : w4.cell? ⟨w1.heap.size, 1, none⟩ = some (.slice A1 xs.length c1) := (by rw [hx4.cell (by simp)]; simp); clear hx4)
     | (go_at_call 85; (with_reducible refine (contains_c A1 c1 xs f.m _ (by exact R4.out) hxl _ (by exact HHH.out)).mono ?_); rintro e w5 ⟨rfl, rfl⟩))
   have r3 : w5.cell? ⟨w.heap.size, 2, none⟩ = some (.slice f.A f.log.length f.c) := by simpa using X4.out.cell_new 2
   go_wp2_with fail
   refine (based_any f.A f.c f.log f.b _ (HF.out.ext X4.out) hl HLP.out).mono ?_
   rintro e w6 ⟨rfl, hx5⟩
   have X5 := hJ (X4.out.trans hx5); clear hx5
   go_wp2; go_ret
   exact ⟨ret_bool HH.out.symm, H0.out.trans X5.out⟩
end Go.Proofs.YtponbabbabnaeaaGreat
