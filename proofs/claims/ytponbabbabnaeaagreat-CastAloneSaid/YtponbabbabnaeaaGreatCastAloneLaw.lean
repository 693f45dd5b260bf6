/- For every input the statement CastAlone returns true and leaves its arguments as they were. Conditions: none. -/
import Derived.Deep.DeepCutAuto
import Derived.Deep.CutBlock
import Derived.Test.YtponbabbabnaeaaGreatQa27
import Derived.Test.YtponbabbabnaeaaGreatQa28
import Derived.Test.YtponbabbabnaeaaGreatQa02
namespace Go.Proofs.YtponbabbabnaeaaGreat.castAlone
open Go.RowKit
theorem bytes1_is {w : World} {r : Nat} {x : UInt8} {t : TypeId} (h : BIs w r #[.int .u8 (x.toNat : Int)] t) : Row w (some ⟨r, 0, none⟩) (bytesV [x]) := by
  intro _
  refine ⟨r, 0, rfl, h.lt, fun j v hj => ?_⟩
  simp only [bytesV, List.map_cons, List.map_nil] at hj
  match j, hj with
  | 0, hj => rw [Nat.zero_add, h.cell]; simpa using hj
set_option maxRecDepth 100000 in
set_option maxHeartbeats 8000000 in
theorem walk0 (n : Int) (A B : Option Addr) (c d who : Nat) (xs : List Int) (bs : List UInt8) (w : World) (hx : Row w A (ints xs)) (hb : Row w B (bytesV bs)) (hc : xs.length ≤ c ∧ c ≤ maxLen) (hwho : who < 256) :
    Calls Tryz.prog 4 #[.agg #[.int .i64 n, .slice A xs.length c], .int .u8 (who : Int), .slice B bs.length d] w fun e w' => e = .returned (.bool true) ∧ Ext w w' := by
  have hml : maxLen ≤ 9223372036854775807 := by unfold maxLen; decide
  have XX : Hid (Ext w w) := Lib.hid (Ext.refl _)
  have W_x := Lib.hid hx; have W_l := Lib.hid hb
  clear hx hb
  have E1 : Hid (Ext w (w.alloc (.cells #[.int .i64 n, .slice A xs.length c] 46))) := Lib.hid (Ext.new _ _)
  have FR_x_v := Lib.hid (Row.far W_x.out (Nat.le_refl _))
  have FR_l_v := Lib.hid (Row.far W_l.out (Nat.le_refl _))
  have LW_v : Hid (w.heap.size ≤ w.heap.size) := Lib.hid XX.out.size
  replace W_x := Lib.hid (W_x.out.ext E1.out)
  replace W_l := Lib.hid (W_l.out.ext E1.out)
  replace XX := Lib.hid (XX.out.trans E1.out)
  have B_v : Hid (BIs (w.alloc (.cells #[.int .i64 n, .slice A xs.length c] 46)) w.heap.size #[.int .i64 n, .slice A xs.length c] 46) := Lib.hid (BIs.new _ _ _)
  clear E1
  go_enter Tryz.func4, Tryz.ntmps4
  go_wp2_with fail
  generalize (w.alloc (.cells #[.int .i64 n, .slice A xs.length c] 46)) = u1 at *
  refine (awake12_any _).mono ?_
  rintro e w1 ⟨rfl, hx1⟩
  replace B_v := Lib.hid (B_v.out.ext hx1)
  replace W_x := Lib.hid (W_x.out.ext hx1)
  replace W_l := Lib.hid (W_l.out.ext hx1)
  replace XX := Lib.hid (XX.out.trans hx1)
  clear hx1
  have v0 : w1.cell? ⟨w.heap.size, 0, none⟩ = some (.int .i64 n) := B_v.out.cell 0
  have v1 : w1.cell? ⟨w.heap.size, 1, none⟩ = some (.slice A xs.length c) := B_v.out.cell 1
  go_wp2_with fail
  refine (rvalid_any n A c xs _ W_x.out (by omega)).mono ?_
  rintro e w2 ⟨rfl, hx2⟩
  replace B_v := Lib.hid (B_v.out.ext hx2)
  replace W_x := Lib.hid (W_x.out.ext hx2)
  replace W_l := Lib.hid (W_l.out.ext hx2)
  replace XX := Lib.hid (XX.out.trans hx2)
  clear hx2 v0 v1
  have v0 : w2.cell? ⟨w.heap.size, 0, none⟩ = some (.int .i64 n) := B_v.out.cell 0
  have v1 : w2.cell? ⟨w.heap.size, 1, none⟩ = some (.slice A xs.length c) := B_v.out.cell 1
  by_cases hv : validB n xs = true
  rotate_left
  · have hv' : validB n xs = false := by simpa using hv
    rw [hv']
    go_wp2
    go_ret
    exact ⟨rfl, XX.out⟩
  rw [hv]
  have HV := Lib.hid hv
  clear hv
  by_cases h2 : xs.length < 2
  · have h2' : (xs.length : Int) < 2 := by omega
    go_wp2
    go_ret
    exact ⟨rfl, XX.out⟩
  have h2' : decide ((xs.length : Int) < 2) = false := by simp; omega
  by_cases h60 : 60 < bs.length
  · have h60' : (60 : Int) < (bs.length : Int) := by omega
    go_wp2
    go_ret
    exact ⟨rfl, XX.out⟩
  have h60' : decide ((60 : Int) < (bs.length : Int)) = false := by simp; omega
  go_upto_region 5 with fail
  obtain ⟨k, hk⟩ : ∃ k, k = who % xs.length := ⟨_, rfl⟩
  have hkl : k < xs.length := by rw [hk]; exact Nat.mod_lt _ (by omega)
  have hrem : Int.tmod (who : Int) (xs.length : Int) = (k : Int) := by rw [hk]; rfl
  have hne0 : ¬ xs = [] := by intro e; rw [e] at hkl; simp at hkl
  obtain ⟨ab, off, x, rfl, hcx, HXK⟩ := W_x.out.at_ hkl
  have hin : hasB xs x = true := hasB_iff.2 (List.mem_of_getElem? HXK.out)
  have hcv : IntKind.i64.wrap (who : Int) = (who : Int) := IntWalk.i64_in _ (by omega)
  have hk0 : (0 : Int) ≤ (k : Int) ∧ (k : Int) < (xs.length : Int) := ⟨by omega, by omega⟩
  have hrem2 : (who : Int) % (xs.length : Int) = (k : Int) := by rw [hk]; rfl
  have hkn : ((k : Int)).toNat = k := by simp
  clear hk
  go_cut [7, 8] (fun s7 s8 wx => ∃ (r : Nat) (b : BM), s7 = .pointer (some ⟨r, 0, none⟩) ∧ s8 = .int .i64 0 ∧ Hid (BIs wx r #[.int .i64 b.self, .slice b.Av b.vs.length b.cv, .int .i64 b.base, .slice b.Al b.log.length b.cl, .int .i64 b.stable, .int .i64 b.sent, .slice b.Ap b.pend.length b.cp, .slice b.Am b.marks.length b.cm, .slice b.Af b.fls.length b.cf] 28) ∧ Hid (b.Reads wx) ∧ Hid b.Fits ∧ Hid (Alone (n, xs) b.st) ∧ Hid (b.Far r) ∧ Hid (Ext w wx) ∧ Hid (w.heap.size ≤ r) ∧ Hid (Row wx B (bytesV bs)) ∧ Hid (FarR r B (bytesV bs)))
  case first =>
    refine E_begin 18 (fun w' => w'.cell? ⟨w.heap.size, 0, none⟩ = some (.int .i64 n) ∧ w'.cell? ⟨w.heap.size, 1, none⟩ = some (.slice (some ⟨ab, off, none⟩) xs.length c) ∧ w'.cell? ⟨ab, off + k, none⟩ = some (.int .i64 x)) (by kernel_rfl) ⟨B_v.out.cell 0, B_v.out.cell 1, W_x.out.cell HXK.out⟩ (fun hHeld => ?_)
    have XD : Hid (Ext w2 w2.drew) := Lib.hid Ext.drew1
    replace B_v := Lib.hid (B_v.out.ext XD.out)
    replace W_x := Lib.hid (W_x.out.ext XD.out)
    replace W_l := Lib.hid (W_l.out.ext XD.out)
    replace XX := Lib.hid (XX.out.trans XD.out)
    clear XD
    generalize w2.drew = u0 at *
    refine E_tk 0 (oi := ⟨some 32, _, _, _, _, _⟩) (v := ?_) ?_ ?_
    rotate_left
    · (intro w9 hSw; (try dsimp only at hSw); go_simp <;> with_reducible rfl)
    try simp only [Act.put, l1, l2, l3]
    refine E_tk 1 (oi := ⟨some 33, _, _, _, _, _⟩) (v := ?_) ?_ ?_
    rotate_left
    · (intro w9 hSw; (try dsimp only at hSw); go_simp <;> with_reducible rfl)
    try simp only [Act.put, l1, l2, l3]
    refine E_tk 2 (oi := ⟨some 34, _, _, _, _, _⟩) (v := ?_) ?_ ?_
    rotate_left
    · (intro w9 hSw; (try dsimp only at hSw); go_simp <;> with_reducible rfl)
    try simp only [Act.put, l1, l2, l3]
    refine E_tk 3 (oi := ⟨some 35, _, _, _, _, _⟩) (v := ?_) ?_ ?_
    rotate_left
    · (intro w9 hSw; (try dsimp only at hSw); go_simp <;> with_reducible rfl)
    try simp only [Act.put, l1, l2, l3]
    refine E_tk 4 (oi := ⟨some 36, _, _, _, _, _⟩) (v := ?_) ?_ ?_
    rotate_left
    · (intro w9 hSw; (try dsimp only at hSw); go_simp <;> with_reducible rfl)
    try simp only [Act.put, l1, l2, l3]
    refine E_tk 5 (oi := ⟨some 37, _, _, _, _, _⟩) (v := ?_) ?_ ?_
    rotate_left
    · (intro w9 hSw; (try dsimp only at hSw); go_simp <;> with_reducible rfl)
    try simp only [Act.put, l1, l2, l3]
    refine E_tk 6 (oi := ⟨some 38, _, _, _, _, _⟩) (v := ?_) ?_ ?_
    rotate_left
    · (intro w9 hSw; (try dsimp only at hSw); go_simp <;> with_reducible rfl)
    try simp only [Act.put, l1, l2, l3]
    refine E_tk 7 (oi := ⟨some 39, _, _, _, _, _⟩) (v := ?_) ?_ ?_
    rotate_left
    · (intro w9 hSw; (try dsimp only at hSw); go_simp <;> with_reducible rfl)
    try simp only [Act.put, l1, l2, l3]
    refine E_tk 8 (oi := ⟨some 40, _, _, _, _, _⟩) (v := ?_) ?_ ?_
    rotate_left
    · (intro w9 hSw; (try dsimp only at hSw); go_simp <;> with_reducible rfl)
    try simp only [Act.put, l1, l2, l3]
    refine E_tk 9 (oi := ⟨some 41, _, _, _, _, _⟩) (v := ?_) ?_ ?_
    rotate_left
    · (intro w9 hSw; (try dsimp only at hSw); go_simp <;> with_reducible rfl)
    try simp only [Act.put, l1, l2, l3]
    refine E_tk 10 (oi := ⟨some 42, _, _, _, _, _⟩) (v := ?_) ?_ ?_
    rotate_left
    · (intro w9 hSw; (try dsimp only at hSw); go_simp <;> with_reducible rfl)
    try simp only [Act.put, l1, l2, l3]
    refine E_ready [11, 15] (by kernel_rfl) (by simp) ?_
    refine (AllE.cons (o := ⟨some 43, _, _, _, _, _⟩) rfl (fun K hK => ?_) (AllE.cons (o := ⟨some 7, _, _, _, _, _⟩) rfl (fun K hK => ?_) AllE.nil))
    · go_simp
      go_at_call 22
      refine (genesis_any n (some ⟨ab, off, none⟩) c xs x _ W_x.out (by have := validB_len HV.out; omega)).mono ?_
      rintro en w3 ⟨b, rfl, hst, hrd, hft, hx3, hn3⟩
      have F_b_v : Hid (BM.Far b w.heap.size) := Lib.hid (hn3.far B_v.out.lt)
      replace B_v := Lib.hid (B_v.out.ext hx3)
      replace W_x := Lib.hid (W_x.out.ext hx3)
      replace W_l := Lib.hid (W_l.out.ext hx3)
      replace XX := Lib.hid (XX.out.trans hx3)
      have AL : Hid ((genesisF (n, xs) x).2 = 0 ∧ Alone (n, xs) (genesisF (n, xs) x).1) := Lib.hid (alone_genesis HV.out hin (by show 2 ≤ xs.length; omega))
      have ST_b := Lib.hid hst; have R_b := Lib.hid hrd; have FT_b := Lib.hid hft
      rw [AL.out.1]
      unfold BM.cells
      clear hst hrd hft hx3 hn3
      clear hHeld
      refine hK.out _ _ ⟨B_v.out.cell 0, B_v.out.cell 1, W_x.out.cell HXK.out⟩ (fun hHeld => ?_)
      clear hK K
      try simp only [Act.put, l1, l2, l3]
      refine E_tk 12 (oi := ⟨some 31, _, _, _, _, _⟩) (v := ?_) ?_ ?_
      rotate_left
      · (intro w9 hSw; (try dsimp only at hSw); go_simp <;> with_reducible rfl)
      try simp only [Act.put, l1, l2, l3]
      refine E_tk 13 (oi := ⟨some 44, _, _, _, _, _⟩) (v := ?_) ?_ ?_
      rotate_left
      · (intro w9 hSw; (try dsimp only at hSw); go_simp <;> with_reducible rfl)
      try simp only [Act.put, l1, l2, l3]
      refine E_tk 14 (oi := ⟨some 45, _, _, _, _, _⟩) (v := ?_) ?_ ?_
      rotate_left
      · (intro w9 hSw; (try dsimp only at hSw); go_simp <;> with_reducible rfl)
      try simp only [Act.put, l1, l2, l3]
      refine E_ready [15] (by kernel_rfl) (by simp) ?_
      refine (AllE.cons (o := ⟨some 7, _, _, _, _, _⟩) rfl (fun K hK => ?_) AllE.nil)
      go_simp
      have E1 : Hid (Ext w3 (w3.alloc (.cells #[.int .i64 0, .slice none 0 0, .int .i64 0, .slice none 0 0, .int .i64 0, .int .i64 0, .slice none 0 0, .slice none 0 0, .slice none 0 0] 28))) := Lib.hid (Ext.new _ _)
      have L_v_t : Hid (w.heap.size < w3.heap.size) := Lib.hid B_v.out.lt
      have F_b_t : Hid (BM.Far b w3.heap.size) := Lib.hid (R_b.out.far (Nat.le_refl _))
      have FR_x_t := Lib.hid (Row.far W_x.out (Nat.le_refl _))
      have FR_l_t := Lib.hid (Row.far W_l.out (Nat.le_refl _))
      have LW_t : Hid (w.heap.size ≤ w3.heap.size) := Lib.hid XX.out.size
      replace B_v := Lib.hid (B_v.out.ext E1.out)
      replace R_b := Lib.hid (R_b.out.ext E1.out)
      replace W_x := Lib.hid (W_x.out.ext E1.out)
      replace W_l := Lib.hid (W_l.out.ext E1.out)
      replace XX := Lib.hid (XX.out.trans E1.out)
      have B_t : Hid (BIs (w3.alloc (.cells #[.int .i64 0, .slice none 0 0, .int .i64 0, .slice none 0 0, .int .i64 0, .int .i64 0, .slice none 0 0, .slice none 0 0, .slice none 0 0] 28)) w3.heap.size #[.int .i64 0, .slice none 0 0, .int .i64 0, .slice none 0 0, .int .i64 0, .int .i64 0, .slice none 0 0, .slice none 0 0, .slice none 0 0] 28) := Lib.hid (BIs.new _ _ _)
      clear E1
      generalize (w3.alloc (.cells #[.int .i64 0, .slice none 0 0, .int .i64 0, .slice none 0 0, .int .i64 0, .int .i64 0, .slice none 0 0, .slice none 0 0, .slice none 0 0] 28)) = u3 at *
      generalize w3.heap.size = r_t at *
      clear hHeld
      refine hK.out _ _ ⟨B_v.out.cell 0, B_v.out.cell 1, W_x.out.cell HXK.out⟩ (fun hHeld => ?_)
      clear hK K
      try simp only [Act.put, l1, l2, l3]
      refine E_ready [16] (by kernel_rfl) (by simp) ?_
      refine (AllE.cons (o := ⟨none, _, _, _, _, _⟩) rfl (fun K hK => ?_) AllE.nil)
      obtain ⟨y0, y1, y2, y3, y4, y5, y6, y7, y8⟩ := nine B_t.out
      obtain ⟨z0, z1, z2, z3, z4, z5, z6, z7, z8⟩ := B_t.out.free9
      go_simp
      have W9 : Hid (Wrote r_t u3 (((((((((u3.setCell ⟨r_t, 0, none⟩ (.int .i64 b.self)).setCell ⟨r_t, 1, none⟩ (.slice b.Av b.vs.length b.cv)).setCell ⟨r_t, 2, none⟩ (.int .i64 b.base)).setCell ⟨r_t, 3, none⟩ (.slice b.Al b.log.length b.cl)).setCell ⟨r_t, 4, none⟩ (.int .i64 b.stable)).setCell ⟨r_t, 5, none⟩ (.int .i64 b.sent)).setCell ⟨r_t, 6, none⟩ (.slice b.Ap b.pend.length b.cp)).setCell ⟨r_t, 7, none⟩ (.slice b.Am b.marks.length b.cm)).setCell ⟨r_t, 8, none⟩ (.slice b.Af b.fls.length b.cf))) := Lib.hid nine_wrote
      have BN : Hid (BIs (((((((((u3.setCell ⟨r_t, 0, none⟩ (.int .i64 b.self)).setCell ⟨r_t, 1, none⟩ (.slice b.Av b.vs.length b.cv)).setCell ⟨r_t, 2, none⟩ (.int .i64 b.base)).setCell ⟨r_t, 3, none⟩ (.slice b.Al b.log.length b.cl)).setCell ⟨r_t, 4, none⟩ (.int .i64 b.stable)).setCell ⟨r_t, 5, none⟩ (.int .i64 b.sent)).setCell ⟨r_t, 6, none⟩ (.slice b.Ap b.pend.length b.cp)).setCell ⟨r_t, 7, none⟩ (.slice b.Am b.marks.length b.cm)).setCell ⟨r_t, 8, none⟩ (.slice b.Af b.fls.length b.cf)) r_t #[.int .i64 b.self, .slice b.Av b.vs.length b.cv, .int .i64 b.base, .slice b.Al b.log.length b.cl, .int .i64 b.stable, .int .i64 b.sent, .slice b.Ap b.pend.length b.cp, .slice b.Am b.marks.length b.cm, .slice b.Af b.fls.length b.cf] 28) := Lib.hid (nine_set B_t.out)
      clear y0 y1 y2 y3 y4 y5 y6 y7 y8 z0 z1 z2 z3 z4 z5 z6 z7 z8
      replace B_v := Lib.hid (B_v.out.wrote (Nat.ne_of_lt L_v_t.out) W9.out)
      replace B_t := Lib.hid (B_t.out)
      replace R_b := Lib.hid (R_b.out.wrote F_b_t.out W9.out)
      replace W_x := Lib.hid (W_x.out.wrote FR_x_t.out W9.out)
      replace W_l := Lib.hid (W_l.out.wrote FR_l_t.out W9.out)
      replace XX := Lib.hid (W9.out.ext XX.out LW_t.out)
      replace B_t := BN
      clear BN W9
      generalize (((((((((u3.setCell ⟨r_t, 0, none⟩ (.int .i64 b.self)).setCell ⟨r_t, 1, none⟩ (.slice b.Av b.vs.length b.cv)).setCell ⟨r_t, 2, none⟩ (.int .i64 b.base)).setCell ⟨r_t, 3, none⟩ (.slice b.Al b.log.length b.cl)).setCell ⟨r_t, 4, none⟩ (.int .i64 b.stable)).setCell ⟨r_t, 5, none⟩ (.int .i64 b.sent)).setCell ⟨r_t, 6, none⟩ (.slice b.Ap b.pend.length b.cp)).setCell ⟨r_t, 7, none⟩ (.slice b.Am b.marks.length b.cm)).setCell ⟨r_t, 8, none⟩ (.slice b.Af b.fls.length b.cf)) = u4 at *
      clear hHeld
      refine hK.out _ _ ⟨B_v.out.cell 0, B_v.out.cell 1, W_x.out.cell HXK.out⟩ (fun hHeld => ?_)
      clear hK K
      try simp only [Act.put, l1, l2, l3]
      refine E_tk 17 (oi := ⟨some 8, _, _, _, _, _⟩) (v := ?_) ?_ ?_
      rotate_left
      · (intro w9 hSw; (try dsimp only at hSw); go_simp <;> with_reducible rfl)
      try simp only [Act.put, l1, l2, l3]
      refine E_end (by kernel_rfl) (by rfl) ?_
      (try go_wp2)
      go_meet
      case rel => exact ⟨r_t, b, rfl, rfl, B_t, R_b, FT_b, Lib.hid (ST_b.out ▸ AL.out.2), F_b_t, XX, LW_t, W_l, FR_l_t⟩
    · go_simp
      have E1 : Hid (Ext u0 (u0.alloc (.cells #[.int .i64 0, .slice none 0 0, .int .i64 0, .slice none 0 0, .int .i64 0, .int .i64 0, .slice none 0 0, .slice none 0 0, .slice none 0 0] 28))) := Lib.hid (Ext.new _ _)
      have L_v_t : Hid (w.heap.size < u0.heap.size) := Lib.hid B_v.out.lt
      have FR_x_t := Lib.hid (Row.far W_x.out (Nat.le_refl _))
      have FR_l_t := Lib.hid (Row.far W_l.out (Nat.le_refl _))
      have LW_t : Hid (w.heap.size ≤ u0.heap.size) := Lib.hid XX.out.size
      replace B_v := Lib.hid (B_v.out.ext E1.out)
      replace W_x := Lib.hid (W_x.out.ext E1.out)
      replace W_l := Lib.hid (W_l.out.ext E1.out)
      replace XX := Lib.hid (XX.out.trans E1.out)
      have B_t : Hid (BIs (u0.alloc (.cells #[.int .i64 0, .slice none 0 0, .int .i64 0, .slice none 0 0, .int .i64 0, .int .i64 0, .slice none 0 0, .slice none 0 0, .slice none 0 0] 28)) u0.heap.size #[.int .i64 0, .slice none 0 0, .int .i64 0, .slice none 0 0, .int .i64 0, .int .i64 0, .slice none 0 0, .slice none 0 0, .slice none 0 0] 28) := Lib.hid (BIs.new _ _ _)
      clear E1
      generalize (u0.alloc (.cells #[.int .i64 0, .slice none 0 0, .int .i64 0, .slice none 0 0, .int .i64 0, .int .i64 0, .slice none 0 0, .slice none 0 0, .slice none 0 0] 28)) = u2 at *
      generalize u0.heap.size = r_t at *
      clear hHeld
      refine hK.out _ _ ⟨B_v.out.cell 0, B_v.out.cell 1, W_x.out.cell HXK.out⟩ (fun hHeld => ?_)
      clear hK K
      try simp only [Act.put, l1, l2, l3]
      refine E_ready [11] (by kernel_rfl) (by simp) ?_
      refine (AllE.cons (o := ⟨some 43, _, _, _, _, _⟩) rfl (fun K hK => ?_) AllE.nil)
      go_simp
      go_at_call 22
      refine (genesis_any n (some ⟨ab, off, none⟩) c xs x _ W_x.out (by have := validB_len HV.out; omega)).mono ?_
      rintro en w3 ⟨b, rfl, hst, hrd, hft, hx3, hn3⟩
      have F_b_v : Hid (BM.Far b w.heap.size) := Lib.hid (hn3.far B_v.out.lt)
      have F_b_t : Hid (BM.Far b r_t) := Lib.hid (hn3.far B_t.out.lt)
      replace B_v := Lib.hid (B_v.out.ext hx3)
      replace B_t := Lib.hid (B_t.out.ext hx3)
      replace W_x := Lib.hid (W_x.out.ext hx3)
      replace W_l := Lib.hid (W_l.out.ext hx3)
      replace XX := Lib.hid (XX.out.trans hx3)
      have AL : Hid ((genesisF (n, xs) x).2 = 0 ∧ Alone (n, xs) (genesisF (n, xs) x).1) := Lib.hid (alone_genesis HV.out hin (by show 2 ≤ xs.length; omega))
      have ST_b := Lib.hid hst; have R_b := Lib.hid hrd; have FT_b := Lib.hid hft
      rw [AL.out.1]
      unfold BM.cells
      clear hst hrd hft hx3 hn3
      clear hHeld
      refine hK.out _ _ ⟨B_v.out.cell 0, B_v.out.cell 1, W_x.out.cell HXK.out⟩ (fun hHeld => ?_)
      clear hK K
      try simp only [Act.put, l1, l2, l3]
      refine E_tk 12 (oi := ⟨some 31, _, _, _, _, _⟩) (v := ?_) ?_ ?_
      rotate_left
      · (intro w9 hSw; (try dsimp only at hSw); go_simp <;> with_reducible rfl)
      try simp only [Act.put, l1, l2, l3]
      refine E_tk 13 (oi := ⟨some 44, _, _, _, _, _⟩) (v := ?_) ?_ ?_
      rotate_left
      · (intro w9 hSw; (try dsimp only at hSw); go_simp <;> with_reducible rfl)
      try simp only [Act.put, l1, l2, l3]
      refine E_tk 14 (oi := ⟨some 45, _, _, _, _, _⟩) (v := ?_) ?_ ?_
      rotate_left
      · (intro w9 hSw; (try dsimp only at hSw); go_simp <;> with_reducible rfl)
      try simp only [Act.put, l1, l2, l3]
      refine E_ready [16] (by kernel_rfl) (by simp) ?_
      refine (AllE.cons (o := ⟨none, _, _, _, _, _⟩) rfl (fun K hK => ?_) AllE.nil)
      obtain ⟨y0, y1, y2, y3, y4, y5, y6, y7, y8⟩ := nine B_t.out
      obtain ⟨z0, z1, z2, z3, z4, z5, z6, z7, z8⟩ := B_t.out.free9
      go_simp
      have W9 : Hid (Wrote r_t w3 (((((((((w3.setCell ⟨r_t, 0, none⟩ (.int .i64 b.self)).setCell ⟨r_t, 1, none⟩ (.slice b.Av b.vs.length b.cv)).setCell ⟨r_t, 2, none⟩ (.int .i64 b.base)).setCell ⟨r_t, 3, none⟩ (.slice b.Al b.log.length b.cl)).setCell ⟨r_t, 4, none⟩ (.int .i64 b.stable)).setCell ⟨r_t, 5, none⟩ (.int .i64 b.sent)).setCell ⟨r_t, 6, none⟩ (.slice b.Ap b.pend.length b.cp)).setCell ⟨r_t, 7, none⟩ (.slice b.Am b.marks.length b.cm)).setCell ⟨r_t, 8, none⟩ (.slice b.Af b.fls.length b.cf))) := Lib.hid nine_wrote
      have BN : Hid (BIs (((((((((w3.setCell ⟨r_t, 0, none⟩ (.int .i64 b.self)).setCell ⟨r_t, 1, none⟩ (.slice b.Av b.vs.length b.cv)).setCell ⟨r_t, 2, none⟩ (.int .i64 b.base)).setCell ⟨r_t, 3, none⟩ (.slice b.Al b.log.length b.cl)).setCell ⟨r_t, 4, none⟩ (.int .i64 b.stable)).setCell ⟨r_t, 5, none⟩ (.int .i64 b.sent)).setCell ⟨r_t, 6, none⟩ (.slice b.Ap b.pend.length b.cp)).setCell ⟨r_t, 7, none⟩ (.slice b.Am b.marks.length b.cm)).setCell ⟨r_t, 8, none⟩ (.slice b.Af b.fls.length b.cf)) r_t #[.int .i64 b.self, .slice b.Av b.vs.length b.cv, .int .i64 b.base, .slice b.Al b.log.length b.cl, .int .i64 b.stable, .int .i64 b.sent, .slice b.Ap b.pend.length b.cp, .slice b.Am b.marks.length b.cm, .slice b.Af b.fls.length b.cf] 28) := Lib.hid (nine_set B_t.out)
      clear y0 y1 y2 y3 y4 y5 y6 y7 y8 z0 z1 z2 z3 z4 z5 z6 z7 z8
      replace B_v := Lib.hid (B_v.out.wrote (Nat.ne_of_lt L_v_t.out) W9.out)
      replace B_t := Lib.hid (B_t.out)
      replace R_b := Lib.hid (R_b.out.wrote F_b_t.out W9.out)
      replace W_x := Lib.hid (W_x.out.wrote FR_x_t.out W9.out)
      replace W_l := Lib.hid (W_l.out.wrote FR_l_t.out W9.out)
      replace XX := Lib.hid (W9.out.ext XX.out LW_t.out)
      replace B_t := BN
      clear BN W9
      generalize (((((((((w3.setCell ⟨r_t, 0, none⟩ (.int .i64 b.self)).setCell ⟨r_t, 1, none⟩ (.slice b.Av b.vs.length b.cv)).setCell ⟨r_t, 2, none⟩ (.int .i64 b.base)).setCell ⟨r_t, 3, none⟩ (.slice b.Al b.log.length b.cl)).setCell ⟨r_t, 4, none⟩ (.int .i64 b.stable)).setCell ⟨r_t, 5, none⟩ (.int .i64 b.sent)).setCell ⟨r_t, 6, none⟩ (.slice b.Ap b.pend.length b.cp)).setCell ⟨r_t, 7, none⟩ (.slice b.Am b.marks.length b.cm)).setCell ⟨r_t, 8, none⟩ (.slice b.Af b.fls.length b.cf)) = u4 at *
      clear hHeld
      refine hK.out _ _ ⟨B_v.out.cell 0, B_v.out.cell 1, W_x.out.cell HXK.out⟩ (fun hHeld => ?_)
      clear hK K
      try simp only [Act.put, l1, l2, l3]
      refine E_tk 17 (oi := ⟨some 8, _, _, _, _, _⟩) (v := ?_) ?_ ?_
      rotate_left
      · (intro w9 hSw; (try dsimp only at hSw); go_simp <;> with_reducible rfl)
      try simp only [Act.put, l1, l2, l3]
      refine E_end (by kernel_rfl) (by rfl) ?_
      (try go_wp2)
      go_meet
      case rel => exact ⟨r_t, b, rfl, rfl, B_t, R_b, FT_b, Lib.hid (ST_b.out ▸ AL.out.2), F_b_t, XX, LW_t, W_l, FR_l_t⟩
  case rest =>
    obtain ⟨r, b0, rfl, rfl, HB0, HR0, HF0, HAL0, HFAR0, HXX0, LW_s, HWL0, FR_l_s⟩ := hcut
    go_wp2
    go_loopw [9] (fun i wr => ∃ (k : Nat) (b : BM), k ≤ bs.length ∧ i = .int .i64 k ∧ Hid (BIs wr r #[.int .i64 b.self, .slice b.Av b.vs.length b.cv, .int .i64 b.base, .slice b.Al b.log.length b.cl, .int .i64 b.stable, .int .i64 b.sent, .slice b.Ap b.pend.length b.cp, .slice b.Am b.marks.length b.cm, .slice b.Af b.fls.length b.cf] 28) ∧ Hid (b.Reads wr) ∧ Hid b.Fits ∧ Hid (Alone (n, xs) b.st) ∧ Hid (b.Far r) ∧ Hid (Ext w wr) ∧ Hid (Row wr B (bytesV bs))) (fun i _ => bs.length - (intOf i).toNat)
    case atStart => exact ⟨0, b0, Nat.zero_le _, rfl, HB0, HR0, HF0, HAL0, HFAR0, HXX0, HWL0⟩
    case round =>
      obtain ⟨k, b, hk, rfl, B_s, R_b, FT_b, AL, F_b_s, XX, W_l⟩ := hrel
      clear HB0 HR0 HF0 HAL0 HFAR0 HXX0 HWL0
      by_cases hlt : k < bs.length
      rotate_left
      · have hk' : k = bs.length := by omega
        subst hk'
        clear hlt
        obtain ⟨q0, q1, q2, q3, q4, q5, q6, q7, q8⟩ := nine B_s.out
        go_wp2_with fail
        clear q0 q1 q2 q3 q4 q5 q6 q7 q8
        refine (valid12_any b _ R_b.out FT_b.out).mono ?_
        rintro en wv ⟨rfl, hxv⟩
        replace B_s := Lib.hid (B_s.out.ext hxv)
        replace R_b := Lib.hid (R_b.out.ext hxv)
        replace W_l := Lib.hid (W_l.out.ext hxv)
        replace XX := Lib.hid (XX.out.trans hxv)
        clear hxv
        rw [AL.out.val]
        have y4 : wv.cell? ⟨r, 4, none⟩ = some (.int .i64 0) := by have h := B_s.out.cell 4; simp only [show b.stable = 0 from AL.out.st] at h; exact h
        go_wp2
        go_ret
        exact ⟨rfl, XX.out⟩
      obtain ⟨x, hx⟩ : ∃ x, bs[k]? = some x := ⟨bs[k], List.getElem?_eq_getElem hlt⟩
      have HXB : Hid ((bytesV bs)[k]? = some (.int .u8 (x.toNat : Int))) := Lib.hid (by unfold bytesV; rw [List.getElem?_map, hx]; rfl)
      clear hx
      obtain ⟨ab2, off2, rfl, hab2, _⟩ := W_l.out.addr (k := k) (by unfold bytesV; simpa using hlt)
      have cx : wr.cell? ⟨ab2, off2 + k, none⟩ = some (.int .u8 (x.toNat : Int)) := W_l.out.get HXB.out
      have hlt' : (k : Int) < (bs.length : Int) := by omega
      by_cases hpar : (x.toNat : Int) % 2 = 0
      · go_upto_region 12 with fail
        go_cut [10, 11] (fun s10 s11 wx => ∃ (r2 : Nat) (b2 : BM), s10 = .pointer (some ⟨r2, 0, none⟩) ∧ s11 = .int .i64 (submitF b.st [x]).2 ∧ Hid (BIs wx r2 #[.int .i64 b2.self, .slice b2.Av b2.vs.length b2.cv, .int .i64 b2.base, .slice b2.Al b2.log.length b2.cl, .int .i64 b2.stable, .int .i64 b2.sent, .slice b2.Ap b2.pend.length b2.cp, .slice b2.Am b2.marks.length b2.cm, .slice b2.Af b2.fls.length b2.cf] 28) ∧ Hid (b2.Reads wx) ∧ Hid b2.Fits ∧ Hid (b2.st = (submitF b.st [x]).1) ∧ Hid (b2.Far r) ∧ Hid (BIs wx r #[.int .i64 b.self, .slice b.Av b.vs.length b.cv, .int .i64 b.base, .slice b.Al b.log.length b.cl, .int .i64 b.stable, .int .i64 b.sent, .slice b.Ap b.pend.length b.cp, .slice b.Am b.marks.length b.cm, .slice b.Af b.fls.length b.cf] 28) ∧ Hid (b.Reads wx) ∧ Hid (Ext w wx) ∧ Hid (Row wx (some ⟨ab2, off2, none⟩) (bytesV bs)) ∧ Hid (r < r2))
        case first =>
          refine E_begin 14 (fun w' => (w'.cell? ⟨r, 0, none⟩ = some (.int .i64 b.self) ∧ w'.cell? ⟨r, 1, none⟩ = some (.slice b.Av b.vs.length b.cv) ∧ w'.cell? ⟨r, 2, none⟩ = some (.int .i64 b.base) ∧ w'.cell? ⟨r, 3, none⟩ = some (.slice b.Al b.log.length b.cl) ∧ w'.cell? ⟨r, 4, none⟩ = some (.int .i64 b.stable) ∧ w'.cell? ⟨r, 5, none⟩ = some (.int .i64 b.sent) ∧ w'.cell? ⟨r, 6, none⟩ = some (.slice b.Ap b.pend.length b.cp) ∧ w'.cell? ⟨r, 7, none⟩ = some (.slice b.Am b.marks.length b.cm) ∧ w'.cell? ⟨r, 8, none⟩ = some (.slice b.Af b.fls.length b.cf) ∧ w'.cell? ⟨ab2, off2 + k, none⟩ = some (.int .u8 (x.toNat : Int)))) (by kernel_rfl) ⟨B_s.out.cell 0, B_s.out.cell 1, B_s.out.cell 2, B_s.out.cell 3, B_s.out.cell 4, B_s.out.cell 5, B_s.out.cell 6, B_s.out.cell 7, B_s.out.cell 8, W_l.out.get HXB.out⟩ (fun hHeld => ?_)
          have XD : Hid (Ext wr wr.drew) := Lib.hid Ext.drew1
          replace B_s := Lib.hid (B_s.out.ext XD.out)
          replace R_b := Lib.hid (R_b.out.ext XD.out)
          replace W_l := Lib.hid (W_l.out.ext XD.out)
          replace XX := Lib.hid (XX.out.trans XD.out)
          clear XD
          generalize wr.drew = u0 at *
          refine E_tk 0 (oi := ⟨some 61, _, _, _, _, _⟩) (v := ?_) ?_ ?_
          rotate_left
          · (intro w9 hSw; (try dsimp only at hSw); go_simp <;> with_reducible rfl)
          try simp only [Act.put, l1, l2, l3]
          refine E_tk 1 (oi := ⟨some 62, _, _, _, _, _⟩) (v := ?_) ?_ ?_
          rotate_left
          · (intro w9 hSw; (try dsimp only at hSw); go_simp <;> with_reducible rfl)
          try simp only [Act.put, l1, l2, l3]
          refine E_tk 2 (oi := ⟨some 63, _, _, _, _, _⟩) (v := ?_) ?_ ?_
          rotate_left
          · (intro w9 hSw; (try dsimp only at hSw); go_simp <;> with_reducible rfl)
          try simp only [Act.put, l1, l2, l3]
          refine E_tk 3 (oi := ⟨some 64, _, _, _, _, _⟩) (v := ?_) ?_ ?_
          rotate_left
          · (intro w9 hSw; (try dsimp only at hSw); go_simp <;> with_reducible rfl)
          try simp only [Act.put, l1, l2, l3]
          refine E_tk 4 (oi := ⟨some 65, _, _, _, _, _⟩) (v := ?_) ?_ ?_
          rotate_left
          · (intro w9 hSw; (try dsimp only at hSw); go_simp <;> with_reducible rfl)
          try simp only [Act.put, l1, l2, l3]
          refine E_ready [5, 11] (by kernel_rfl) (by simp) ?_
          refine (AllE.cons (o := ⟨some 66, _, _, _, _, _⟩) rfl (fun K hK => ?_) (AllE.cons (o := ⟨some 10, _, _, _, _, _⟩) rfl (fun K hK => ?_) AllE.nil))
          · go_simp
            have E1 : Hid (Ext u0 (u0.alloc (.cells #[.int .u8 (x.toNat : Int)] 5))) := Lib.hid (Ext.new _ _)
            have L_s_y : Hid (r < u0.heap.size) := Lib.hid B_s.out.lt
            have F_b_y : Hid (BM.Far b u0.heap.size) := Lib.hid (R_b.out.far (Nat.le_refl _))
            have FR_l_y := Lib.hid (Row.far W_l.out (Nat.le_refl _))
            have LW_y : Hid (w.heap.size ≤ u0.heap.size) := Lib.hid XX.out.size
            replace B_s := Lib.hid (B_s.out.ext E1.out)
            replace R_b := Lib.hid (R_b.out.ext E1.out)
            replace W_l := Lib.hid (W_l.out.ext E1.out)
            replace XX := Lib.hid (XX.out.trans E1.out)
            have B_y : Hid (BIs (u0.alloc (.cells #[.int .u8 (x.toNat : Int)] 5)) u0.heap.size #[.int .u8 (x.toNat : Int)] 5) := Lib.hid (BIs.new _ _ _)
            clear E1
            generalize (u0.alloc (.cells #[.int .u8 (x.toNat : Int)] 5)) = uy at *
            generalize u0.heap.size = r_y at *
            clear hHeld
            refine hK.out _ _ ⟨B_s.out.cell 0, B_s.out.cell 1, B_s.out.cell 2, B_s.out.cell 3, B_s.out.cell 4, B_s.out.cell 5, B_s.out.cell 6, B_s.out.cell 7, B_s.out.cell 8, W_l.out.get HXB.out⟩ (fun hHeld => ?_)
            clear hK K
            try simp only [Act.put, l1, l2, l3]
            refine E_strong (fun w' => (w'.cell? ⟨r, 0, none⟩ = some (.int .i64 b.self) ∧ w'.cell? ⟨r, 1, none⟩ = some (.slice b.Av b.vs.length b.cv) ∧ w'.cell? ⟨r, 2, none⟩ = some (.int .i64 b.base) ∧ w'.cell? ⟨r, 3, none⟩ = some (.slice b.Al b.log.length b.cl) ∧ w'.cell? ⟨r, 4, none⟩ = some (.int .i64 b.stable) ∧ w'.cell? ⟨r, 5, none⟩ = some (.int .i64 b.sent) ∧ w'.cell? ⟨r, 6, none⟩ = some (.slice b.Ap b.pend.length b.cp) ∧ w'.cell? ⟨r, 7, none⟩ = some (.slice b.Am b.marks.length b.cm) ∧ w'.cell? ⟨r, 8, none⟩ = some (.slice b.Af b.fls.length b.cf) ∧ w'.cell? ⟨ab2, off2 + k, none⟩ = some (.int .u8 (x.toNat : Int))) ∧ Row w' (some ⟨r_y, 0, none⟩) (bytesV [x])) (fun _ h => h.1) ⟨⟨B_s.out.cell 0, B_s.out.cell 1, B_s.out.cell 2, B_s.out.cell 3, B_s.out.cell 4, B_s.out.cell 5, B_s.out.cell 6, B_s.out.cell 7, B_s.out.cell 8, W_l.out.get HXB.out⟩, bytes1_is B_y.out⟩ (fun hHeld => ?_)
            refine E_take 6 (oi := ⟨some 67, _, _, _, _, _⟩) (v := ?_) rfl (by kernel_rfl) (fun _ _ _ h => h) (Or.inl ⟨by rfl, ?_⟩) (by assumption) ?_
            rotate_left
            · (intro w9 hSw; (try dsimp only at hSw); have hq := conv_bytes 1 1 hSw.2 rfl; go_simp <;> with_reducible rfl)
            try simp only [Act.put, l1, l2, l3]
            refine E_ready [7, 11] (by kernel_rfl) (by simp) ?_
            refine (AllE.cons (o := ⟨some 68, _, _, _, _, _⟩) rfl (fun K hK => ?_) (AllE.cons (o := ⟨some 10, _, _, _, _, _⟩) rfl (fun K hK => ?_) AllE.nil))
            · go_simp
              go_at_call 12
              refine (submit_any b [x] _ R_b.out FT_b.out (by simp)).mono ?_
              rintro en w3 ⟨b2, rfl, hst, hrd, hft, hx3, hn3⟩
              have F_b2_s : Hid (BM.Far b2 r) := Lib.hid (hn3.far B_s.out.lt)
              have F_b2_y : Hid (BM.Far b2 r_y) := Lib.hid (hn3.far B_y.out.lt)
              replace B_s := Lib.hid (B_s.out.ext hx3)
              replace B_y := Lib.hid (B_y.out.ext hx3)
              replace R_b := Lib.hid (R_b.out.ext hx3)
              replace W_l := Lib.hid (W_l.out.ext hx3)
              replace XX := Lib.hid (XX.out.trans hx3)
              have ST_b2 := Lib.hid hst; have R_b2 := Lib.hid hrd; have FT_b2 := Lib.hid hft
              unfold BM.cells
              clear hst hrd hft hx3 hn3
              clear hHeld
              refine hK.out _ _ ⟨⟨B_s.out.cell 0, B_s.out.cell 1, B_s.out.cell 2, B_s.out.cell 3, B_s.out.cell 4, B_s.out.cell 5, B_s.out.cell 6, B_s.out.cell 7, B_s.out.cell 8, W_l.out.get HXB.out⟩, bytes1_is B_y.out⟩ (fun hHeld => ?_)
              clear hK K
              try simp only [Act.put, l1, l2, l3]
              refine E_tk 8 (oi := ⟨some 60, _, _, _, _, _⟩) (v := ?_) ?_ ?_
              rotate_left
              · (intro w9 hSw; (try dsimp only at hSw); go_simp <;> with_reducible rfl)
              try simp only [Act.put, l1, l2, l3]
              refine E_tk 9 (oi := ⟨some 69, _, _, _, _, _⟩) (v := ?_) ?_ ?_
              rotate_left
              · (intro w9 hSw; (try dsimp only at hSw); go_simp <;> with_reducible rfl)
              try simp only [Act.put, l1, l2, l3]
              refine E_tk 10 (oi := ⟨some 70, _, _, _, _, _⟩) (v := ?_) ?_ ?_
              rotate_left
              · (intro w9 hSw; (try dsimp only at hSw); go_simp <;> with_reducible rfl)
              try simp only [Act.put, l1, l2, l3]
              refine E_ready [11] (by kernel_rfl) (by simp) ?_
              refine (AllE.cons (o := ⟨some 10, _, _, _, _, _⟩) rfl (fun K hK => ?_) AllE.nil)
              go_simp
              have E1 : Hid (Ext w3 (w3.alloc (.cells #[.int .i64 0, .slice none 0 0, .int .i64 0, .slice none 0 0, .int .i64 0, .int .i64 0, .slice none 0 0, .slice none 0 0, .slice none 0 0] 28))) := Lib.hid (Ext.new _ _)
              have L_s_t : Hid (r < w3.heap.size) := Lib.hid B_s.out.lt
              have L_y_t : Hid (r_y < w3.heap.size) := Lib.hid B_y.out.lt
              have F_b_t : Hid (BM.Far b w3.heap.size) := Lib.hid (R_b.out.far (Nat.le_refl _))
              have F_b2_t : Hid (BM.Far b2 w3.heap.size) := Lib.hid (R_b2.out.far (Nat.le_refl _))
              have FR_l_t := Lib.hid (Row.far W_l.out (Nat.le_refl _))
              have LW_t : Hid (w.heap.size ≤ w3.heap.size) := Lib.hid XX.out.size
              replace B_s := Lib.hid (B_s.out.ext E1.out)
              replace B_y := Lib.hid (B_y.out.ext E1.out)
              replace R_b := Lib.hid (R_b.out.ext E1.out)
              replace R_b2 := Lib.hid (R_b2.out.ext E1.out)
              replace W_l := Lib.hid (W_l.out.ext E1.out)
              replace XX := Lib.hid (XX.out.trans E1.out)
              have B_t : Hid (BIs (w3.alloc (.cells #[.int .i64 0, .slice none 0 0, .int .i64 0, .slice none 0 0, .int .i64 0, .int .i64 0, .slice none 0 0, .slice none 0 0, .slice none 0 0] 28)) w3.heap.size #[.int .i64 0, .slice none 0 0, .int .i64 0, .slice none 0 0, .int .i64 0, .int .i64 0, .slice none 0 0, .slice none 0 0, .slice none 0 0] 28) := Lib.hid (BIs.new _ _ _)
              clear E1
              generalize (w3.alloc (.cells #[.int .i64 0, .slice none 0 0, .int .i64 0, .slice none 0 0, .int .i64 0, .int .i64 0, .slice none 0 0, .slice none 0 0, .slice none 0 0] 28)) = ut at *
              generalize w3.heap.size = r_t at *
              clear hHeld
              refine hK.out _ _ ⟨⟨B_s.out.cell 0, B_s.out.cell 1, B_s.out.cell 2, B_s.out.cell 3, B_s.out.cell 4, B_s.out.cell 5, B_s.out.cell 6, B_s.out.cell 7, B_s.out.cell 8, W_l.out.get HXB.out⟩, bytes1_is B_y.out⟩ (fun hHeld => ?_)
              clear hK K
              try simp only [Act.put, l1, l2, l3]
              refine E_ready [12] (by kernel_rfl) (by simp) ?_
              refine (AllE.cons (o := ⟨none, _, _, _, _, _⟩) rfl (fun K hK => ?_) AllE.nil)
              obtain ⟨y0, y1, y2, y3, y4, y5, y6, y7, y8⟩ := nine B_t.out
              obtain ⟨z0, z1, z2, z3, z4, z5, z6, z7, z8⟩ := B_t.out.free9
              go_simp
              have W9 : Hid (Wrote r_t ut (((((((((ut.setCell ⟨r_t, 0, none⟩ (.int .i64 b2.self)).setCell ⟨r_t, 1, none⟩ (.slice b2.Av b2.vs.length b2.cv)).setCell ⟨r_t, 2, none⟩ (.int .i64 b2.base)).setCell ⟨r_t, 3, none⟩ (.slice b2.Al b2.log.length b2.cl)).setCell ⟨r_t, 4, none⟩ (.int .i64 b2.stable)).setCell ⟨r_t, 5, none⟩ (.int .i64 b2.sent)).setCell ⟨r_t, 6, none⟩ (.slice b2.Ap b2.pend.length b2.cp)).setCell ⟨r_t, 7, none⟩ (.slice b2.Am b2.marks.length b2.cm)).setCell ⟨r_t, 8, none⟩ (.slice b2.Af b2.fls.length b2.cf))) := Lib.hid nine_wrote
              have BN : Hid (BIs (((((((((ut.setCell ⟨r_t, 0, none⟩ (.int .i64 b2.self)).setCell ⟨r_t, 1, none⟩ (.slice b2.Av b2.vs.length b2.cv)).setCell ⟨r_t, 2, none⟩ (.int .i64 b2.base)).setCell ⟨r_t, 3, none⟩ (.slice b2.Al b2.log.length b2.cl)).setCell ⟨r_t, 4, none⟩ (.int .i64 b2.stable)).setCell ⟨r_t, 5, none⟩ (.int .i64 b2.sent)).setCell ⟨r_t, 6, none⟩ (.slice b2.Ap b2.pend.length b2.cp)).setCell ⟨r_t, 7, none⟩ (.slice b2.Am b2.marks.length b2.cm)).setCell ⟨r_t, 8, none⟩ (.slice b2.Af b2.fls.length b2.cf)) r_t #[.int .i64 b2.self, .slice b2.Av b2.vs.length b2.cv, .int .i64 b2.base, .slice b2.Al b2.log.length b2.cl, .int .i64 b2.stable, .int .i64 b2.sent, .slice b2.Ap b2.pend.length b2.cp, .slice b2.Am b2.marks.length b2.cm, .slice b2.Af b2.fls.length b2.cf] 28) := Lib.hid (nine_set B_t.out)
              clear y0 y1 y2 y3 y4 y5 y6 y7 y8 z0 z1 z2 z3 z4 z5 z6 z7 z8
              replace B_s := Lib.hid (B_s.out.wrote (Nat.ne_of_lt L_s_t.out) W9.out)
              replace B_y := Lib.hid (B_y.out.wrote (Nat.ne_of_lt L_y_t.out) W9.out)
              replace B_t := Lib.hid (B_t.out)
              replace R_b := Lib.hid (R_b.out.wrote F_b_t.out W9.out)
              replace R_b2 := Lib.hid (R_b2.out.wrote F_b2_t.out W9.out)
              replace W_l := Lib.hid (W_l.out.wrote FR_l_t.out W9.out)
              replace XX := Lib.hid (W9.out.ext XX.out LW_t.out)
              replace B_t := BN
              clear BN W9
              generalize (((((((((ut.setCell ⟨r_t, 0, none⟩ (.int .i64 b2.self)).setCell ⟨r_t, 1, none⟩ (.slice b2.Av b2.vs.length b2.cv)).setCell ⟨r_t, 2, none⟩ (.int .i64 b2.base)).setCell ⟨r_t, 3, none⟩ (.slice b2.Al b2.log.length b2.cl)).setCell ⟨r_t, 4, none⟩ (.int .i64 b2.stable)).setCell ⟨r_t, 5, none⟩ (.int .i64 b2.sent)).setCell ⟨r_t, 6, none⟩ (.slice b2.Ap b2.pend.length b2.cp)).setCell ⟨r_t, 7, none⟩ (.slice b2.Am b2.marks.length b2.cm)).setCell ⟨r_t, 8, none⟩ (.slice b2.Af b2.fls.length b2.cf)) = u4 at *
              clear hHeld
              refine hK.out _ _ ⟨⟨B_s.out.cell 0, B_s.out.cell 1, B_s.out.cell 2, B_s.out.cell 3, B_s.out.cell 4, B_s.out.cell 5, B_s.out.cell 6, B_s.out.cell 7, B_s.out.cell 8, W_l.out.get HXB.out⟩, bytes1_is B_y.out⟩ (fun hHeld => ?_)
              clear hK K
              try simp only [Act.put, l1, l2, l3]
              refine E_tk 13 (oi := ⟨some 11, _, _, _, _, _⟩) (v := ?_) ?_ ?_
              rotate_left
              · (intro w9 hSw; (try dsimp only at hSw); go_simp <;> with_reducible rfl)
              try simp only [Act.put, l1, l2, l3]
              refine E_end (by kernel_rfl) (by rfl) ?_
              (try go_wp2)
              go_meet
              case rel => exact ⟨r_t, b2, rfl, rfl, B_t, R_b2, FT_b2, ST_b2, F_b2_s, B_s, R_b, XX, W_l, L_s_t⟩
            · go_simp
              have E1 : Hid (Ext uy (uy.alloc (.cells #[.int .i64 0, .slice none 0 0, .int .i64 0, .slice none 0 0, .int .i64 0, .int .i64 0, .slice none 0 0, .slice none 0 0, .slice none 0 0] 28))) := Lib.hid (Ext.new _ _)
              have L_s_t : Hid (r < uy.heap.size) := Lib.hid B_s.out.lt
              have L_y_t : Hid (r_y < uy.heap.size) := Lib.hid B_y.out.lt
              have F_b_t : Hid (BM.Far b uy.heap.size) := Lib.hid (R_b.out.far (Nat.le_refl _))
              have FR_l_t := Lib.hid (Row.far W_l.out (Nat.le_refl _))
              have LW_t : Hid (w.heap.size ≤ uy.heap.size) := Lib.hid XX.out.size
              replace B_s := Lib.hid (B_s.out.ext E1.out)
              replace B_y := Lib.hid (B_y.out.ext E1.out)
              replace R_b := Lib.hid (R_b.out.ext E1.out)
              replace W_l := Lib.hid (W_l.out.ext E1.out)
              replace XX := Lib.hid (XX.out.trans E1.out)
              have B_t : Hid (BIs (uy.alloc (.cells #[.int .i64 0, .slice none 0 0, .int .i64 0, .slice none 0 0, .int .i64 0, .int .i64 0, .slice none 0 0, .slice none 0 0, .slice none 0 0] 28)) uy.heap.size #[.int .i64 0, .slice none 0 0, .int .i64 0, .slice none 0 0, .int .i64 0, .int .i64 0, .slice none 0 0, .slice none 0 0, .slice none 0 0] 28) := Lib.hid (BIs.new _ _ _)
              clear E1
              generalize (uy.alloc (.cells #[.int .i64 0, .slice none 0 0, .int .i64 0, .slice none 0 0, .int .i64 0, .int .i64 0, .slice none 0 0, .slice none 0 0, .slice none 0 0] 28)) = ut at *
              generalize uy.heap.size = r_t at *
              clear hHeld
              refine hK.out _ _ ⟨⟨B_s.out.cell 0, B_s.out.cell 1, B_s.out.cell 2, B_s.out.cell 3, B_s.out.cell 4, B_s.out.cell 5, B_s.out.cell 6, B_s.out.cell 7, B_s.out.cell 8, W_l.out.get HXB.out⟩, bytes1_is B_y.out⟩ (fun hHeld => ?_)
              clear hK K
              try simp only [Act.put, l1, l2, l3]
              refine E_ready [7] (by kernel_rfl) (by simp) ?_
              refine (AllE.cons (o := ⟨some 68, _, _, _, _, _⟩) rfl (fun K hK => ?_) AllE.nil)
              go_simp
              go_at_call 12
              refine (submit_any b [x] _ R_b.out FT_b.out (by simp)).mono ?_
              rintro en w3 ⟨b2, rfl, hst, hrd, hft, hx3, hn3⟩
              have F_b2_s : Hid (BM.Far b2 r) := Lib.hid (hn3.far B_s.out.lt)
              have F_b2_y : Hid (BM.Far b2 r_y) := Lib.hid (hn3.far B_y.out.lt)
              have F_b2_t : Hid (BM.Far b2 r_t) := Lib.hid (hn3.far B_t.out.lt)
              replace B_s := Lib.hid (B_s.out.ext hx3)
              replace B_y := Lib.hid (B_y.out.ext hx3)
              replace B_t := Lib.hid (B_t.out.ext hx3)
              replace R_b := Lib.hid (R_b.out.ext hx3)
              replace W_l := Lib.hid (W_l.out.ext hx3)
              replace XX := Lib.hid (XX.out.trans hx3)
              have ST_b2 := Lib.hid hst; have R_b2 := Lib.hid hrd; have FT_b2 := Lib.hid hft
              unfold BM.cells
              clear hst hrd hft hx3 hn3
              clear hHeld
              refine hK.out _ _ ⟨⟨B_s.out.cell 0, B_s.out.cell 1, B_s.out.cell 2, B_s.out.cell 3, B_s.out.cell 4, B_s.out.cell 5, B_s.out.cell 6, B_s.out.cell 7, B_s.out.cell 8, W_l.out.get HXB.out⟩, bytes1_is B_y.out⟩ (fun hHeld => ?_)
              clear hK K
              try simp only [Act.put, l1, l2, l3]
              refine E_tk 8 (oi := ⟨some 60, _, _, _, _, _⟩) (v := ?_) ?_ ?_
              rotate_left
              · (intro w9 hSw; (try dsimp only at hSw); go_simp <;> with_reducible rfl)
              try simp only [Act.put, l1, l2, l3]
              refine E_tk 9 (oi := ⟨some 69, _, _, _, _, _⟩) (v := ?_) ?_ ?_
              rotate_left
              · (intro w9 hSw; (try dsimp only at hSw); go_simp <;> with_reducible rfl)
              try simp only [Act.put, l1, l2, l3]
              refine E_tk 10 (oi := ⟨some 70, _, _, _, _, _⟩) (v := ?_) ?_ ?_
              rotate_left
              · (intro w9 hSw; (try dsimp only at hSw); go_simp <;> with_reducible rfl)
              try simp only [Act.put, l1, l2, l3]
              refine E_ready [12] (by kernel_rfl) (by simp) ?_
              refine (AllE.cons (o := ⟨none, _, _, _, _, _⟩) rfl (fun K hK => ?_) AllE.nil)
              obtain ⟨y0, y1, y2, y3, y4, y5, y6, y7, y8⟩ := nine B_t.out
              obtain ⟨z0, z1, z2, z3, z4, z5, z6, z7, z8⟩ := B_t.out.free9
              go_simp
              have W9 : Hid (Wrote r_t w3 (((((((((w3.setCell ⟨r_t, 0, none⟩ (.int .i64 b2.self)).setCell ⟨r_t, 1, none⟩ (.slice b2.Av b2.vs.length b2.cv)).setCell ⟨r_t, 2, none⟩ (.int .i64 b2.base)).setCell ⟨r_t, 3, none⟩ (.slice b2.Al b2.log.length b2.cl)).setCell ⟨r_t, 4, none⟩ (.int .i64 b2.stable)).setCell ⟨r_t, 5, none⟩ (.int .i64 b2.sent)).setCell ⟨r_t, 6, none⟩ (.slice b2.Ap b2.pend.length b2.cp)).setCell ⟨r_t, 7, none⟩ (.slice b2.Am b2.marks.length b2.cm)).setCell ⟨r_t, 8, none⟩ (.slice b2.Af b2.fls.length b2.cf))) := Lib.hid nine_wrote
              have BN : Hid (BIs (((((((((w3.setCell ⟨r_t, 0, none⟩ (.int .i64 b2.self)).setCell ⟨r_t, 1, none⟩ (.slice b2.Av b2.vs.length b2.cv)).setCell ⟨r_t, 2, none⟩ (.int .i64 b2.base)).setCell ⟨r_t, 3, none⟩ (.slice b2.Al b2.log.length b2.cl)).setCell ⟨r_t, 4, none⟩ (.int .i64 b2.stable)).setCell ⟨r_t, 5, none⟩ (.int .i64 b2.sent)).setCell ⟨r_t, 6, none⟩ (.slice b2.Ap b2.pend.length b2.cp)).setCell ⟨r_t, 7, none⟩ (.slice b2.Am b2.marks.length b2.cm)).setCell ⟨r_t, 8, none⟩ (.slice b2.Af b2.fls.length b2.cf)) r_t #[.int .i64 b2.self, .slice b2.Av b2.vs.length b2.cv, .int .i64 b2.base, .slice b2.Al b2.log.length b2.cl, .int .i64 b2.stable, .int .i64 b2.sent, .slice b2.Ap b2.pend.length b2.cp, .slice b2.Am b2.marks.length b2.cm, .slice b2.Af b2.fls.length b2.cf] 28) := Lib.hid (nine_set B_t.out)
              clear y0 y1 y2 y3 y4 y5 y6 y7 y8 z0 z1 z2 z3 z4 z5 z6 z7 z8
              replace B_s := Lib.hid (B_s.out.wrote (Nat.ne_of_lt L_s_t.out) W9.out)
              replace B_y := Lib.hid (B_y.out.wrote (Nat.ne_of_lt L_y_t.out) W9.out)
              replace B_t := Lib.hid (B_t.out)
              replace R_b := Lib.hid (R_b.out.wrote F_b_t.out W9.out)
              replace R_b2 := Lib.hid (R_b2.out.wrote F_b2_t.out W9.out)
              replace W_l := Lib.hid (W_l.out.wrote FR_l_t.out W9.out)
              replace XX := Lib.hid (W9.out.ext XX.out LW_t.out)
              replace B_t := BN
              clear BN W9
              generalize (((((((((w3.setCell ⟨r_t, 0, none⟩ (.int .i64 b2.self)).setCell ⟨r_t, 1, none⟩ (.slice b2.Av b2.vs.length b2.cv)).setCell ⟨r_t, 2, none⟩ (.int .i64 b2.base)).setCell ⟨r_t, 3, none⟩ (.slice b2.Al b2.log.length b2.cl)).setCell ⟨r_t, 4, none⟩ (.int .i64 b2.stable)).setCell ⟨r_t, 5, none⟩ (.int .i64 b2.sent)).setCell ⟨r_t, 6, none⟩ (.slice b2.Ap b2.pend.length b2.cp)).setCell ⟨r_t, 7, none⟩ (.slice b2.Am b2.marks.length b2.cm)).setCell ⟨r_t, 8, none⟩ (.slice b2.Af b2.fls.length b2.cf)) = u4 at *
              clear hHeld
              refine hK.out _ _ ⟨⟨B_s.out.cell 0, B_s.out.cell 1, B_s.out.cell 2, B_s.out.cell 3, B_s.out.cell 4, B_s.out.cell 5, B_s.out.cell 6, B_s.out.cell 7, B_s.out.cell 8, W_l.out.get HXB.out⟩, bytes1_is B_y.out⟩ (fun hHeld => ?_)
              clear hK K
              try simp only [Act.put, l1, l2, l3]
              refine E_tk 13 (oi := ⟨some 11, _, _, _, _, _⟩) (v := ?_) ?_ ?_
              rotate_left
              · (intro w9 hSw; (try dsimp only at hSw); go_simp <;> with_reducible rfl)
              try simp only [Act.put, l1, l2, l3]
              refine E_end (by kernel_rfl) (by rfl) ?_
              (try go_wp2)
              go_meet
              case rel => exact ⟨r_t, b2, rfl, rfl, B_t, R_b2, FT_b2, ST_b2, F_b2_s, B_s, R_b, XX, W_l, L_s_t⟩
          · go_simp
            have E1 : Hid (Ext u0 (u0.alloc (.cells #[.int .i64 0, .slice none 0 0, .int .i64 0, .slice none 0 0, .int .i64 0, .int .i64 0, .slice none 0 0, .slice none 0 0, .slice none 0 0] 28))) := Lib.hid (Ext.new _ _)
            have L_s_t : Hid (r < u0.heap.size) := Lib.hid B_s.out.lt
            have F_b_t : Hid (BM.Far b u0.heap.size) := Lib.hid (R_b.out.far (Nat.le_refl _))
            have FR_l_t := Lib.hid (Row.far W_l.out (Nat.le_refl _))
            have LW_t : Hid (w.heap.size ≤ u0.heap.size) := Lib.hid XX.out.size
            replace B_s := Lib.hid (B_s.out.ext E1.out)
            replace R_b := Lib.hid (R_b.out.ext E1.out)
            replace W_l := Lib.hid (W_l.out.ext E1.out)
            replace XX := Lib.hid (XX.out.trans E1.out)
            have B_t : Hid (BIs (u0.alloc (.cells #[.int .i64 0, .slice none 0 0, .int .i64 0, .slice none 0 0, .int .i64 0, .int .i64 0, .slice none 0 0, .slice none 0 0, .slice none 0 0] 28)) u0.heap.size #[.int .i64 0, .slice none 0 0, .int .i64 0, .slice none 0 0, .int .i64 0, .int .i64 0, .slice none 0 0, .slice none 0 0, .slice none 0 0] 28) := Lib.hid (BIs.new _ _ _)
            clear E1
            generalize (u0.alloc (.cells #[.int .i64 0, .slice none 0 0, .int .i64 0, .slice none 0 0, .int .i64 0, .int .i64 0, .slice none 0 0, .slice none 0 0, .slice none 0 0] 28)) = ut at *
            generalize u0.heap.size = r_t at *
            clear hHeld
            refine hK.out _ _ ⟨B_s.out.cell 0, B_s.out.cell 1, B_s.out.cell 2, B_s.out.cell 3, B_s.out.cell 4, B_s.out.cell 5, B_s.out.cell 6, B_s.out.cell 7, B_s.out.cell 8, W_l.out.get HXB.out⟩ (fun hHeld => ?_)
            clear hK K
            try simp only [Act.put, l1, l2, l3]
            refine E_ready [5] (by kernel_rfl) (by simp) ?_
            refine (AllE.cons (o := ⟨some 66, _, _, _, _, _⟩) rfl (fun K hK => ?_) AllE.nil)
            go_simp
            have E1 : Hid (Ext ut (ut.alloc (.cells #[.int .u8 (x.toNat : Int)] 5))) := Lib.hid (Ext.new _ _)
            have L_s_y : Hid (r < ut.heap.size) := Lib.hid B_s.out.lt
            have L_t_y : Hid (r_t < ut.heap.size) := Lib.hid B_t.out.lt
            have F_b_y : Hid (BM.Far b ut.heap.size) := Lib.hid (R_b.out.far (Nat.le_refl _))
            have FR_l_y := Lib.hid (Row.far W_l.out (Nat.le_refl _))
            have LW_y : Hid (w.heap.size ≤ ut.heap.size) := Lib.hid XX.out.size
            replace B_s := Lib.hid (B_s.out.ext E1.out)
            replace B_t := Lib.hid (B_t.out.ext E1.out)
            replace R_b := Lib.hid (R_b.out.ext E1.out)
            replace W_l := Lib.hid (W_l.out.ext E1.out)
            replace XX := Lib.hid (XX.out.trans E1.out)
            have B_y : Hid (BIs (ut.alloc (.cells #[.int .u8 (x.toNat : Int)] 5)) ut.heap.size #[.int .u8 (x.toNat : Int)] 5) := Lib.hid (BIs.new _ _ _)
            clear E1
            generalize (ut.alloc (.cells #[.int .u8 (x.toNat : Int)] 5)) = uy at *
            generalize ut.heap.size = r_y at *
            clear hHeld
            refine hK.out _ _ ⟨B_s.out.cell 0, B_s.out.cell 1, B_s.out.cell 2, B_s.out.cell 3, B_s.out.cell 4, B_s.out.cell 5, B_s.out.cell 6, B_s.out.cell 7, B_s.out.cell 8, W_l.out.get HXB.out⟩ (fun hHeld => ?_)
            clear hK K
            try simp only [Act.put, l1, l2, l3]
            refine E_strong (fun w' => (w'.cell? ⟨r, 0, none⟩ = some (.int .i64 b.self) ∧ w'.cell? ⟨r, 1, none⟩ = some (.slice b.Av b.vs.length b.cv) ∧ w'.cell? ⟨r, 2, none⟩ = some (.int .i64 b.base) ∧ w'.cell? ⟨r, 3, none⟩ = some (.slice b.Al b.log.length b.cl) ∧ w'.cell? ⟨r, 4, none⟩ = some (.int .i64 b.stable) ∧ w'.cell? ⟨r, 5, none⟩ = some (.int .i64 b.sent) ∧ w'.cell? ⟨r, 6, none⟩ = some (.slice b.Ap b.pend.length b.cp) ∧ w'.cell? ⟨r, 7, none⟩ = some (.slice b.Am b.marks.length b.cm) ∧ w'.cell? ⟨r, 8, none⟩ = some (.slice b.Af b.fls.length b.cf) ∧ w'.cell? ⟨ab2, off2 + k, none⟩ = some (.int .u8 (x.toNat : Int))) ∧ Row w' (some ⟨r_y, 0, none⟩) (bytesV [x])) (fun _ h => h.1) ⟨⟨B_s.out.cell 0, B_s.out.cell 1, B_s.out.cell 2, B_s.out.cell 3, B_s.out.cell 4, B_s.out.cell 5, B_s.out.cell 6, B_s.out.cell 7, B_s.out.cell 8, W_l.out.get HXB.out⟩, bytes1_is B_y.out⟩ (fun hHeld => ?_)
            refine E_take 6 (oi := ⟨some 67, _, _, _, _, _⟩) (v := ?_) rfl (by kernel_rfl) (fun _ _ _ h => h) (Or.inl ⟨by rfl, ?_⟩) (by assumption) ?_
            rotate_left
            · (intro w9 hSw; (try dsimp only at hSw); have hq := conv_bytes 1 1 hSw.2 rfl; go_simp <;> with_reducible rfl)
            try simp only [Act.put, l1, l2, l3]
            refine E_ready [7] (by kernel_rfl) (by simp) ?_
            refine (AllE.cons (o := ⟨some 68, _, _, _, _, _⟩) rfl (fun K hK => ?_) AllE.nil)
            go_simp
            go_at_call 12
            refine (submit_any b [x] _ R_b.out FT_b.out (by simp)).mono ?_
            rintro en w3 ⟨b2, rfl, hst, hrd, hft, hx3, hn3⟩
            have F_b2_s : Hid (BM.Far b2 r) := Lib.hid (hn3.far B_s.out.lt)
            have F_b2_t : Hid (BM.Far b2 r_t) := Lib.hid (hn3.far B_t.out.lt)
            have F_b2_y : Hid (BM.Far b2 r_y) := Lib.hid (hn3.far B_y.out.lt)
            replace B_s := Lib.hid (B_s.out.ext hx3)
            replace B_t := Lib.hid (B_t.out.ext hx3)
            replace B_y := Lib.hid (B_y.out.ext hx3)
            replace R_b := Lib.hid (R_b.out.ext hx3)
            replace W_l := Lib.hid (W_l.out.ext hx3)
            replace XX := Lib.hid (XX.out.trans hx3)
            have ST_b2 := Lib.hid hst; have R_b2 := Lib.hid hrd; have FT_b2 := Lib.hid hft
            unfold BM.cells
            clear hst hrd hft hx3 hn3
            clear hHeld
            refine hK.out _ _ ⟨⟨B_s.out.cell 0, B_s.out.cell 1, B_s.out.cell 2, B_s.out.cell 3, B_s.out.cell 4, B_s.out.cell 5, B_s.out.cell 6, B_s.out.cell 7, B_s.out.cell 8, W_l.out.get HXB.out⟩, bytes1_is B_y.out⟩ (fun hHeld => ?_)
            clear hK K
            try simp only [Act.put, l1, l2, l3]
            refine E_tk 8 (oi := ⟨some 60, _, _, _, _, _⟩) (v := ?_) ?_ ?_
            rotate_left
            · (intro w9 hSw; (try dsimp only at hSw); go_simp <;> with_reducible rfl)
            try simp only [Act.put, l1, l2, l3]
            refine E_tk 9 (oi := ⟨some 69, _, _, _, _, _⟩) (v := ?_) ?_ ?_
            rotate_left
            · (intro w9 hSw; (try dsimp only at hSw); go_simp <;> with_reducible rfl)
            try simp only [Act.put, l1, l2, l3]
            refine E_tk 10 (oi := ⟨some 70, _, _, _, _, _⟩) (v := ?_) ?_ ?_
            rotate_left
            · (intro w9 hSw; (try dsimp only at hSw); go_simp <;> with_reducible rfl)
            try simp only [Act.put, l1, l2, l3]
            refine E_ready [12] (by kernel_rfl) (by simp) ?_
            refine (AllE.cons (o := ⟨none, _, _, _, _, _⟩) rfl (fun K hK => ?_) AllE.nil)
            obtain ⟨y0, y1, y2, y3, y4, y5, y6, y7, y8⟩ := nine B_t.out
            obtain ⟨z0, z1, z2, z3, z4, z5, z6, z7, z8⟩ := B_t.out.free9
            go_simp
            have W9 : Hid (Wrote r_t w3 (((((((((w3.setCell ⟨r_t, 0, none⟩ (.int .i64 b2.self)).setCell ⟨r_t, 1, none⟩ (.slice b2.Av b2.vs.length b2.cv)).setCell ⟨r_t, 2, none⟩ (.int .i64 b2.base)).setCell ⟨r_t, 3, none⟩ (.slice b2.Al b2.log.length b2.cl)).setCell ⟨r_t, 4, none⟩ (.int .i64 b2.stable)).setCell ⟨r_t, 5, none⟩ (.int .i64 b2.sent)).setCell ⟨r_t, 6, none⟩ (.slice b2.Ap b2.pend.length b2.cp)).setCell ⟨r_t, 7, none⟩ (.slice b2.Am b2.marks.length b2.cm)).setCell ⟨r_t, 8, none⟩ (.slice b2.Af b2.fls.length b2.cf))) := Lib.hid nine_wrote
            have BN : Hid (BIs (((((((((w3.setCell ⟨r_t, 0, none⟩ (.int .i64 b2.self)).setCell ⟨r_t, 1, none⟩ (.slice b2.Av b2.vs.length b2.cv)).setCell ⟨r_t, 2, none⟩ (.int .i64 b2.base)).setCell ⟨r_t, 3, none⟩ (.slice b2.Al b2.log.length b2.cl)).setCell ⟨r_t, 4, none⟩ (.int .i64 b2.stable)).setCell ⟨r_t, 5, none⟩ (.int .i64 b2.sent)).setCell ⟨r_t, 6, none⟩ (.slice b2.Ap b2.pend.length b2.cp)).setCell ⟨r_t, 7, none⟩ (.slice b2.Am b2.marks.length b2.cm)).setCell ⟨r_t, 8, none⟩ (.slice b2.Af b2.fls.length b2.cf)) r_t #[.int .i64 b2.self, .slice b2.Av b2.vs.length b2.cv, .int .i64 b2.base, .slice b2.Al b2.log.length b2.cl, .int .i64 b2.stable, .int .i64 b2.sent, .slice b2.Ap b2.pend.length b2.cp, .slice b2.Am b2.marks.length b2.cm, .slice b2.Af b2.fls.length b2.cf] 28) := Lib.hid (nine_set B_t.out)
            clear y0 y1 y2 y3 y4 y5 y6 y7 y8 z0 z1 z2 z3 z4 z5 z6 z7 z8
            replace B_s := Lib.hid (B_s.out.wrote (Nat.ne_of_lt L_s_t.out) W9.out)
            replace B_t := Lib.hid (B_t.out)
            replace B_y := Lib.hid (B_y.out.wrote (Nat.ne_of_gt L_t_y.out) W9.out)
            replace R_b := Lib.hid (R_b.out.wrote F_b_t.out W9.out)
            replace R_b2 := Lib.hid (R_b2.out.wrote F_b2_t.out W9.out)
            replace W_l := Lib.hid (W_l.out.wrote FR_l_t.out W9.out)
            replace XX := Lib.hid (W9.out.ext XX.out LW_t.out)
            replace B_t := BN
            clear BN W9
            generalize (((((((((w3.setCell ⟨r_t, 0, none⟩ (.int .i64 b2.self)).setCell ⟨r_t, 1, none⟩ (.slice b2.Av b2.vs.length b2.cv)).setCell ⟨r_t, 2, none⟩ (.int .i64 b2.base)).setCell ⟨r_t, 3, none⟩ (.slice b2.Al b2.log.length b2.cl)).setCell ⟨r_t, 4, none⟩ (.int .i64 b2.stable)).setCell ⟨r_t, 5, none⟩ (.int .i64 b2.sent)).setCell ⟨r_t, 6, none⟩ (.slice b2.Ap b2.pend.length b2.cp)).setCell ⟨r_t, 7, none⟩ (.slice b2.Am b2.marks.length b2.cm)).setCell ⟨r_t, 8, none⟩ (.slice b2.Af b2.fls.length b2.cf)) = u4 at *
            clear hHeld
            refine hK.out _ _ ⟨⟨B_s.out.cell 0, B_s.out.cell 1, B_s.out.cell 2, B_s.out.cell 3, B_s.out.cell 4, B_s.out.cell 5, B_s.out.cell 6, B_s.out.cell 7, B_s.out.cell 8, W_l.out.get HXB.out⟩, bytes1_is B_y.out⟩ (fun hHeld => ?_)
            clear hK K
            try simp only [Act.put, l1, l2, l3]
            refine E_tk 13 (oi := ⟨some 11, _, _, _, _, _⟩) (v := ?_) ?_ ?_
            rotate_left
            · (intro w9 hSw; (try dsimp only at hSw); go_simp <;> with_reducible rfl)
            try simp only [Act.put, l1, l2, l3]
            refine E_end (by kernel_rfl) (by rfl) ?_
            (try go_wp2)
            go_meet
            case rel => exact ⟨r_t, b2, rfl, rfl, B_t, R_b2, FT_b2, ST_b2, F_b2_s, B_s, R_b, XX, W_l, L_s_t⟩
        case rest =>
          obtain ⟨r_t, b2, rfl, rfl, B_t, R_b2, FT_b2, ST_b2, F_b2_s, HBs, HRb, HXX, HWl, L_s_t⟩ := hcut
          clear B_s R_b XX W_l cx
          obtain ⟨B_s, R_b, XX, W_l⟩ : Hid (BIs wc r #[.int .i64 b.self, .slice b.Av b.vs.length b.cv, .int .i64 b.base, .slice b.Al b.log.length b.cl, .int .i64 b.stable, .int .i64 b.sent, .slice b.Ap b.pend.length b.cp, .slice b.Am b.marks.length b.cm, .slice b.Af b.fls.length b.cf] 28) ∧ Hid (b.Reads wc) ∧ Hid (Ext w wc) ∧ Hid (Row wc (some ⟨ab2, off2, none⟩) (bytesV bs)) := ⟨HBs, HRb, HXX, HWl⟩
          clear HBs HRb HXX HWl
          rcases AL.out.submit (p := [x]) (by simp) with ⟨he, hal⟩ | ⟨he, hpd⟩
          · have AL2 : Hid (Alone (n, xs) b2.st) := Lib.hid (by rw [ST_b2.out]; exact hal)
            rw [he]
            clear hal he
            obtain ⟨q0, q1, q2, q3, q4, q5, q6, q7, q8⟩ := nine B_t.out
            obtain ⟨y0, y1, y2, y3, y4, y5, y6, y7, y8⟩ := nine B_s.out
            obtain ⟨z0, z1, z2, z3, z4, z5, z6, z7, z8⟩ := B_s.out.free9
            go_upto_region 10 with fail
            clear q0 q1 q2 q3 q4 q5 q6 q7 q8
            have W9 : Hid (Wrote r wc (((((((((wc.setCell ⟨r, 0, none⟩ (.int .i64 b2.self)).setCell ⟨r, 1, none⟩ (.slice b2.Av b2.vs.length b2.cv)).setCell ⟨r, 2, none⟩ (.int .i64 b2.base)).setCell ⟨r, 3, none⟩ (.slice b2.Al b2.log.length b2.cl)).setCell ⟨r, 4, none⟩ (.int .i64 b2.stable)).setCell ⟨r, 5, none⟩ (.int .i64 b2.sent)).setCell ⟨r, 6, none⟩ (.slice b2.Ap b2.pend.length b2.cp)).setCell ⟨r, 7, none⟩ (.slice b2.Am b2.marks.length b2.cm)).setCell ⟨r, 8, none⟩ (.slice b2.Af b2.fls.length b2.cf))) := Lib.hid nine_wrote
            have BN : Hid (BIs (((((((((wc.setCell ⟨r, 0, none⟩ (.int .i64 b2.self)).setCell ⟨r, 1, none⟩ (.slice b2.Av b2.vs.length b2.cv)).setCell ⟨r, 2, none⟩ (.int .i64 b2.base)).setCell ⟨r, 3, none⟩ (.slice b2.Al b2.log.length b2.cl)).setCell ⟨r, 4, none⟩ (.int .i64 b2.stable)).setCell ⟨r, 5, none⟩ (.int .i64 b2.sent)).setCell ⟨r, 6, none⟩ (.slice b2.Ap b2.pend.length b2.cp)).setCell ⟨r, 7, none⟩ (.slice b2.Am b2.marks.length b2.cm)).setCell ⟨r, 8, none⟩ (.slice b2.Af b2.fls.length b2.cf)) r #[.int .i64 b2.self, .slice b2.Av b2.vs.length b2.cv, .int .i64 b2.base, .slice b2.Al b2.log.length b2.cl, .int .i64 b2.stable, .int .i64 b2.sent, .slice b2.Ap b2.pend.length b2.cp, .slice b2.Am b2.marks.length b2.cm, .slice b2.Af b2.fls.length b2.cf] 28) := Lib.hid (nine_set B_s.out)
            clear y0 y1 y2 y3 y4 y5 y6 y7 y8 z0 z1 z2 z3 z4 z5 z6 z7 z8
            replace B_s := Lib.hid (B_s.out)
            replace B_t := Lib.hid (B_t.out.wrote (Nat.ne_of_gt L_s_t.out) W9.out)
            replace R_b := Lib.hid (R_b.out.wrote F_b_s.out W9.out)
            replace R_b2 := Lib.hid (R_b2.out.wrote F_b2_s.out W9.out)
            replace W_l := Lib.hid (W_l.out.wrote FR_l_s.out W9.out)
            replace XX := Lib.hid (W9.out.ext XX.out LW_s.out)
            replace B_s := BN
            clear BN W9
            generalize (((((((((wc.setCell ⟨r, 0, none⟩ (.int .i64 b2.self)).setCell ⟨r, 1, none⟩ (.slice b2.Av b2.vs.length b2.cv)).setCell ⟨r, 2, none⟩ (.int .i64 b2.base)).setCell ⟨r, 3, none⟩ (.slice b2.Al b2.log.length b2.cl)).setCell ⟨r, 4, none⟩ (.int .i64 b2.stable)).setCell ⟨r, 5, none⟩ (.int .i64 b2.sent)).setCell ⟨r, 6, none⟩ (.slice b2.Ap b2.pend.length b2.cp)).setCell ⟨r, 7, none⟩ (.slice b2.Am b2.marks.length b2.cm)).setCell ⟨r, 8, none⟩ (.slice b2.Af b2.fls.length b2.cf)) = W5 at *
            go_wp2
            go_roundw
            case rel => exact ⟨k + 1, b2, by omega, by go_num, B_s, R_b2, FT_b2, AL2, F_b2_s, XX, W_l⟩
            case measure => go_light; simp [intOf]; omega
          · rw [he]
            have hp32 : b.pend.length = 32 := hpd
            clear he hpd
            have y6 : wc.cell? ⟨r, 6, none⟩ = some (.slice b.Ap 32 b.cp) := by have h := B_s.out.cell 6; simp only [hp32] at h; exact h
            go_wp2
            go_roundw
            case rel => exact ⟨k + 1, b, by omega, by go_num, B_s, R_b, FT_b, AL, F_b_s, XX, W_l⟩
            case measure => go_light; simp [intOf]; omega
      · obtain ⟨q0, q1, q2, q3, q4, q5, q6, q7, q8⟩ := nine B_s.out
        go_wp2_with fail
        clear q0 q1 q2 q3 q4 q5 q6 q7 q8
        refine (tick_open b _ R_b.out FT_b.out AL.out.val AL.out.open).mono ?_
        rintro en w3 ⟨m, rfl, hcs, hrd, hft, hpk, hdl, hx3, hn, hnd⟩
        have AL2 : Hid (Alone (n, xs) m.b.st) := Lib.hid (by have h := AL.out.tick.1; rw [← hcs] at h; exact h)
        have hd0 : m.dl = [] := by have h := AL.out.tick.2; rw [← hcs] at h; exact h
        have F_m_s : Hid (m.b.Far r) := Lib.hid (hn.far B_s.out.lt)
        replace B_s := Lib.hid (B_s.out.ext hx3)
        replace R_b := Lib.hid (R_b.out.ext hx3)
        replace W_l := Lib.hid (W_l.out.ext hx3)
        replace XX := Lib.hid (XX.out.trans hx3)
        have R_m := Lib.hid hrd; have FT_m := Lib.hid hft
        clear hcs hrd hft hpk hdl hx3 hn hnd
        rw [hd0]
        simp only [List.length_nil]
        unfold BM.cells
        have E1 : Hid (Ext w3 (w3.alloc (.cells #[.int .i64 m.b.self, .slice m.b.Av m.b.vs.length m.b.cv, .int .i64 m.b.base, .slice m.b.Al m.b.log.length m.b.cl, .int .i64 m.b.stable, .int .i64 m.b.sent, .slice m.b.Ap m.b.pend.length m.b.cp, .slice m.b.Am m.b.marks.length m.b.cm, .slice m.b.Af m.b.fls.length m.b.cf] 28))) := Lib.hid (Ext.new _ _)
        have L_s_t : Hid (r < w3.heap.size) := Lib.hid B_s.out.lt
        have F_b_t : Hid (BM.Far b w3.heap.size) := Lib.hid (R_b.out.far (Nat.le_refl _))
        have FR_l_t := Lib.hid (Row.far W_l.out (Nat.le_refl _))
        have LW_t : Hid (w.heap.size ≤ w3.heap.size) := Lib.hid XX.out.size
        replace B_s := Lib.hid (B_s.out.ext E1.out)
        replace R_b := Lib.hid (R_b.out.ext E1.out)
        replace W_l := Lib.hid (W_l.out.ext E1.out)
        replace XX := Lib.hid (XX.out.trans E1.out)
        have B_t : Hid (BIs (w3.alloc (.cells #[.int .i64 m.b.self, .slice m.b.Av m.b.vs.length m.b.cv, .int .i64 m.b.base, .slice m.b.Al m.b.log.length m.b.cl, .int .i64 m.b.stable, .int .i64 m.b.sent, .slice m.b.Ap m.b.pend.length m.b.cp, .slice m.b.Am m.b.marks.length m.b.cm, .slice m.b.Af m.b.fls.length m.b.cf] 28)) w3.heap.size #[.int .i64 m.b.self, .slice m.b.Av m.b.vs.length m.b.cv, .int .i64 m.b.base, .slice m.b.Al m.b.log.length m.b.cl, .int .i64 m.b.stable, .int .i64 m.b.sent, .slice m.b.Ap m.b.pend.length m.b.cp, .slice m.b.Am m.b.marks.length m.b.cm, .slice m.b.Af m.b.fls.length m.b.cf] 28) := Lib.hid (BIs.new _ _ _)
        clear E1
        have R_mb := Lib.hid (R_m.out.ext (Ext.new w3 (.cells #[.int .i64 m.b.self, .slice m.b.Av m.b.vs.length m.b.cv, .int .i64 m.b.base, .slice m.b.Al m.b.log.length m.b.cl, .int .i64 m.b.stable, .int .i64 m.b.sent, .slice m.b.Ap m.b.pend.length m.b.cp, .slice m.b.Am m.b.marks.length m.b.cm, .slice m.b.Af m.b.fls.length m.b.cf] 28)))
        go_upto_region 20 with fail
        generalize (w3.alloc (.cells #[.int .i64 m.b.self, .slice m.b.Av m.b.vs.length m.b.cv, .int .i64 m.b.base, .slice m.b.Al m.b.log.length m.b.cl, .int .i64 m.b.stable, .int .i64 m.b.sent, .slice m.b.Ap m.b.pend.length m.b.cp, .slice m.b.Am m.b.marks.length m.b.cm, .slice m.b.Af m.b.fls.length m.b.cf] 28)) = u5 at *
        generalize w3.heap.size = r_t at *
        obtain ⟨q0, q1, q2, q3, q4, q5, q6, q7, q8⟩ := nine B_t.out
        obtain ⟨y0, y1, y2, y3, y4, y5, y6, y7, y8⟩ := nine B_s.out
        obtain ⟨z0, z1, z2, z3, z4, z5, z6, z7, z8⟩ := B_s.out.free9
        go_upto_region 10 with fail
        clear q0 q1 q2 q3 q4 q5 q6 q7 q8
        have R_m2 : Hid (m.b.Reads (((((((((u5.setCell ⟨r, 0, none⟩ (.int .i64 m.b.self)).setCell ⟨r, 1, none⟩ (.slice m.b.Av m.b.vs.length m.b.cv)).setCell ⟨r, 2, none⟩ (.int .i64 m.b.base)).setCell ⟨r, 3, none⟩ (.slice m.b.Al m.b.log.length m.b.cl)).setCell ⟨r, 4, none⟩ (.int .i64 m.b.stable)).setCell ⟨r, 5, none⟩ (.int .i64 m.b.sent)).setCell ⟨r, 6, none⟩ (.slice m.b.Ap m.b.pend.length m.b.cp)).setCell ⟨r, 7, none⟩ (.slice m.b.Am m.b.marks.length m.b.cm)).setCell ⟨r, 8, none⟩ (.slice m.b.Af m.b.fls.length m.b.cf))) := Lib.hid (R_mb.out.wrote F_m_s.out nine_wrote)
        clear R_b
        have W9 : Hid (Wrote r u5 (((((((((u5.setCell ⟨r, 0, none⟩ (.int .i64 m.b.self)).setCell ⟨r, 1, none⟩ (.slice m.b.Av m.b.vs.length m.b.cv)).setCell ⟨r, 2, none⟩ (.int .i64 m.b.base)).setCell ⟨r, 3, none⟩ (.slice m.b.Al m.b.log.length m.b.cl)).setCell ⟨r, 4, none⟩ (.int .i64 m.b.stable)).setCell ⟨r, 5, none⟩ (.int .i64 m.b.sent)).setCell ⟨r, 6, none⟩ (.slice m.b.Ap m.b.pend.length m.b.cp)).setCell ⟨r, 7, none⟩ (.slice m.b.Am m.b.marks.length m.b.cm)).setCell ⟨r, 8, none⟩ (.slice m.b.Af m.b.fls.length m.b.cf))) := Lib.hid nine_wrote
        have BN : Hid (BIs (((((((((u5.setCell ⟨r, 0, none⟩ (.int .i64 m.b.self)).setCell ⟨r, 1, none⟩ (.slice m.b.Av m.b.vs.length m.b.cv)).setCell ⟨r, 2, none⟩ (.int .i64 m.b.base)).setCell ⟨r, 3, none⟩ (.slice m.b.Al m.b.log.length m.b.cl)).setCell ⟨r, 4, none⟩ (.int .i64 m.b.stable)).setCell ⟨r, 5, none⟩ (.int .i64 m.b.sent)).setCell ⟨r, 6, none⟩ (.slice m.b.Ap m.b.pend.length m.b.cp)).setCell ⟨r, 7, none⟩ (.slice m.b.Am m.b.marks.length m.b.cm)).setCell ⟨r, 8, none⟩ (.slice m.b.Af m.b.fls.length m.b.cf)) r #[.int .i64 m.b.self, .slice m.b.Av m.b.vs.length m.b.cv, .int .i64 m.b.base, .slice m.b.Al m.b.log.length m.b.cl, .int .i64 m.b.stable, .int .i64 m.b.sent, .slice m.b.Ap m.b.pend.length m.b.cp, .slice m.b.Am m.b.marks.length m.b.cm, .slice m.b.Af m.b.fls.length m.b.cf] 28) := Lib.hid (nine_set B_s.out)
        clear y0 y1 y2 y3 y4 y5 y6 y7 y8 z0 z1 z2 z3 z4 z5 z6 z7 z8
        replace B_s := Lib.hid (B_s.out)
        replace B_t := Lib.hid (B_t.out.wrote (Nat.ne_of_gt L_s_t.out) W9.out)
        replace W_l := Lib.hid (W_l.out.wrote FR_l_s.out W9.out)
        replace XX := Lib.hid (W9.out.ext XX.out LW_s.out)
        replace B_s := BN
        clear BN W9
        generalize (((((((((u5.setCell ⟨r, 0, none⟩ (.int .i64 m.b.self)).setCell ⟨r, 1, none⟩ (.slice m.b.Av m.b.vs.length m.b.cv)).setCell ⟨r, 2, none⟩ (.int .i64 m.b.base)).setCell ⟨r, 3, none⟩ (.slice m.b.Al m.b.log.length m.b.cl)).setCell ⟨r, 4, none⟩ (.int .i64 m.b.stable)).setCell ⟨r, 5, none⟩ (.int .i64 m.b.sent)).setCell ⟨r, 6, none⟩ (.slice m.b.Ap m.b.pend.length m.b.cp)).setCell ⟨r, 7, none⟩ (.slice m.b.Am m.b.marks.length m.b.cm)).setCell ⟨r, 8, none⟩ (.slice m.b.Af m.b.fls.length m.b.cf)) = W5 at *
        go_wp2
        go_roundw
        case rel => exact ⟨k + 1, m.b, by omega, by go_num, B_s, R_m2, FT_m, AL2, F_m_s, XX, W_l⟩
        case measure => go_light; simp [intOf]; omega
set_option maxRecDepth 100000 in
theorem argU8 {H : Type} {enc : TypeId × Value → H} {w : World} {base : Nat} {spare : Nat → Bool} {held : Bool} {r : Reach} {b0 : Nat} {v : Value} {d : DataW H} {p : List MemPlace} (hv : Value.okWide Tryz.prog w r b0 5 v) (h : DataW.Trod enc Tryz.prog w base spare held 5 v d p) : ∃ n, v = .int .u8 n ∧ 0 ≤ n ∧ n < 256 := by
  obtain ⟨n, rfl, _, _, h3⟩ := Go.ChangeShapes.open_int Tryz.underlying5 hv h
  have := bounds_u8 h3
  exact ⟨n, rfl, by omega, by omega⟩
theorem walk (num : Int) (A : Option Addr) (c : Nat) (xs : List Int) {w : World} (_hi : I64 num) (hr : Row w A (ints xs)) (hc : xs.length ≤ c) (hm : c ≤ maxLen) (_hx : ∀ x ∈ xs, I64 x)
    (u : Int) (hu : 0 ≤ u ∧ u < 256) (B : Option Addr) (d : Nat) (bs : List UInt8) (hb : Row w B (bytesV bs)) (_hd : bs.length ≤ d) (_hd2 : d ≤ maxLen) (W : World) (hW : w = W) :
    Calls Tryz.prog 4 #[.agg #[.int .i64 num, .slice A xs.length c], .int .u8 u, .slice B bs.length d] W fun e w' => e = .returned (.bool true) ∧ Ext W w' := by
  subst hW
  have := walk0 num A B c d u.toNat xs bs w hr hb ⟨hc, hm⟩ (by omega)
  rwa [Int.toNat_of_nonneg hu.1] at this
open Go.ChangeShapes Go.WideShapes Go.ChangeAt
set_option maxRecDepth 100000 in
theorem lifted (os : Os) (started : os.Started) (H : Type) (enc : TypeId × Value → H) :
    ReturnsInHanded {} Tryz.checked os 4 .any (Rows.castAloneSpec.pre6 enc Tryz.prog Tryz.f4 Rows.castAloneRow.domain false) (Rows.castAloneSpec.post enc Tryz.prog Tryz.f4 false true false false) := by
  refine returnsInHanded_of_change (C := Tryz.checked) own started (by kernel_rfl) Tryz.func4
    (ChangeSpec.witness6 (enc := enc) (C := Tryz.checked) false ⟨#[], #[.agg #[.int .i64 0, .slice none 0 0], .int .u8 0, .slice none 0 0], []⟩ 8 (by kernel_rfl) (by kernel_rfl) (by kernel_rfl) (by kernel_rfl)) ?_
  intro W base args ds gs before hval0 hW hcnd _
  have hval : ∀ (j : Nat) t v, Tryz.f4.params[j]? = some t → args[j]? = some v → Value.okWide Tryz.prog W .any base t v := hval0
  have hW' := hW
  obtain ⟨p, q, hA0, hV, rfl, hfz, hnd⟩ := hW
  have hA : DataW.TrodAll enc Tryz.prog W 0 (fun _ => true) true Tryz.f4.params.toList args.toList ds p := hA0
  rw [Tryz.params4] at hA hval
  obtain ⟨v0, vs0, d0, ds0, p0, q0, hargs, rfl, rfl, h0, r0⟩ := trodAll_cons hA
  obtain ⟨v1, vs1, d1, ds1, p1, q1, rfl, rfl, rfl, h1, r1⟩ := trodAll_cons r0
  obtain ⟨v2, vs2, d2, ds2, p2, q2, rfl, rfl, rfl, h2, r2⟩ := trodAll_cons r1
  obtain ⟨rfl, rfl, rfl⟩ := trodAll_nil r2
  obtain rfl : args = #[v0, v1, v2] := by cases args; simp_all
  obtain ⟨rfl, rfl⟩ := trodVars_none hV
  have lt0 : ∀ x ∈ p0, x.block < W.heap.size := by obtain ⟨m, hm⟩ := h0; exact DataW.trod_lt m _ _ _ hm
  have lt1 : ∀ x ∈ p1, x.block < W.heap.size := by obtain ⟨m, hm⟩ := h1; exact DataW.trod_lt m _ _ _ hm
  have lt2 : ∀ x ∈ p2, x.block < W.heap.size := by obtain ⟨m, hm⟩ := h2; exact DataW.trod_lt m _ _ _ hm
  obtain ⟨n0, A0, c0, x0, e0, hi0, hc0, hm0, hr0, hx0⟩ := argView (hval 0 46 v0 rfl rfl) h0
  obtain ⟨n1, e1, hi1⟩ := argU8 (hval 1 5 v1 rfl rfl) h1
  obtain ⟨A2, c2, x2, e2, hc2, hm2, hr2⟩ := argBytes (hval 2 29 v2 rfl rfl) h2
  clear hA0 hval0
  have wk := walk n0 A0 c0 x0 hi0 hr0 hc0 hm0 hx0 n1 hi1 A2 c2 x2 hr2 hc2 hm2 W rfl
  rw [← e0, ← e1, ← e2] at wk
  refine wk.mono fun e W' ⟨he, bel⟩ => ?_
  subst he
  exact ⟨_, rfl, _, _, _, [], _, [], hW', trodAll_mk1 (shut_bool Tryz.underlying4 _), (trodAll_cons_mk (Below.trod laidOut (by kernel_rfl) (of_decide_eq_true (by kernel_rfl)) h0 bel lt0) (trodAll_cons_mk (Below.trod laidOut (by kernel_rfl) (of_decide_eq_true (by kernel_rfl)) h1 bel lt1) (trodAll_cons_mk (Below.trod laidOut (by kernel_rfl) (of_decide_eq_true (by kernel_rfl)) h2 bel lt2) trodAll_mk0))), rfl, bel.frame _, fun h => by cases h⟩
theorem over : Rows.castAloneRow.holds Tryz.pinned (OpenSpec.ofChange Rows.castAloneSpec) :=
  OpenClaim.holds_of_wide 4 Tryz.f4 rfl rfl rfl rfl rfl rfl rfl ⟨rfl, rfl, rfl, rfl, rfl⟩ rfl rfl rfl rfl rfl (by kernel_rfl) Tryz.func4 (by kernel_rfl)
    (of_decide_eq_true (by kernel_rfl)) (by unfold Func.isWrapper; first | (rw [if_pos (by decide +kernel)]; kernel_rfl) | (rw [if_neg (by decide +kernel)]; exact ⟨rfl, rfl⟩))
    (fun os started H enc _ => lifted os started H enc)
/-- the statement -/
theorem proved : Rows.CastAloneSaid := over
#print axioms proved
end Go.Proofs.YtponbabbabnaeaaGreat.castAlone
