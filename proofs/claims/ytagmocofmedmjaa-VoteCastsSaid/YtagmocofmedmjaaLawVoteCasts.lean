/- For every input the statement VoteCasts returns true and leaves its arguments as they were. Conditions: none. -/
import Derived.Test.YtagmocofmedmjaaVote9
import Derived.Test.YtagmocofmedmjaaRowKit8
namespace Go.Proofs.Ytagmocofmedmjaa.voteCasts
open Go.RowKit

set_option maxRecDepth 100000 in
set_option maxHeartbeats 4000000 in
theorem walk0 (num m : Int) (A B Y P Q : Option Addr) (c d cy cp cq : Nat) (xs ct ps qs : List Int) (bs : List Bal) (w : World) (hx : Row w A (ints xs)) (hb : Box w B bs) (hy : Row w Y (ints ct)) (hy1 : ct.length ≤ cy) (hy2 : cy ≤ maxLen)
    (hp : Row w P (ints ps)) (hq : Row w Q (ints qs)) (hn : xs.length ≤ 9223372036854775807) (hm : bs.length ≤ 9223372036854775807) (hnc : ct.length ≤ 9223372036854775807) (hnp : ps.length ≤ 9223372036854775807) (hnq : qs.length ≤ 9223372036854775807) :
    Calls Try.prog 6 #[.agg #[.int .i64 num, .slice A xs.length c], .slice B bs.length d, .agg #[.int .i64 m, .slice Y ct.length cy], .slice P ps.length cp, .slice Q qs.length cq] w fun e w' => e = .returned (.bool true) ∧ Ext w w' := by
  have H0 := Lib.hid ((Ext.new w (.cells #[.int .i64 num, .slice A xs.length c] 36)).alloc (.cells #[.int .i64 m, .slice Y ct.length cy] 44))
  have HX := Lib.hid (hx.ext H0.out); have HB := Lib.hid (hb.ext H0.out); have HY := Lib.hid (hy.ext H0.out); have HP := Lib.hid (hp.ext H0.out); have HQ := Lib.hid (hq.ext H0.out)
  clear hx hb hy hp hq
  go_enter Try.func6, Try.ntmps6
  go_wp2_with fail
  refine (awake8_any _).mono ?_
  rintro e w1 ⟨rfl, hx1⟩
  have X1 := Lib.hid hx1; clear hx1
  obtain ⟨q0, q1, q2, q3, zz⟩ := cells2 X1.out
  go_wp2_with fail
  refine (small8_any num A B c d xs bs _ (HB.out.ext X1.out) hn hm).mono ?_
  clear q0 q1 q2 q3 zz
  cases hs : smallX xs.length (prs bs)
  · rintro e w2 ⟨rfl, hx2⟩
    have X2 := Lib.hid (X1.out.trans hx2); clear hx2
    go_wp2
    go_ret
    exact ⟨ret_bool rfl, H0.out.trans X2.out⟩
  rintro e w2 ⟨rfl, hx2⟩
  have X2 := Lib.hid (X1.out.trans hx2); clear hx2 X1
  obtain ⟨q0, q1, q2, q3, zz⟩ := cells2 X2.out
  have hs1 := (small_iff hs).1
  have hs2 := (small_iff hs).2
  rw [prs_len] at hs2
  clear hs
  by_cases h1 : ct.length ≤ 60
  rotate_left
  · have h1' : 60 < ct.length := by omega
    clear h1
    go_wp2
    go_ret
    exact ⟨ret_bool rfl, H0.out.trans X2.out⟩
  have h1' : ¬ 60 < ct.length := by omega
  clear h1
  by_cases h2 : ps.length ≤ 100
  rotate_left
  · have h2' : 100 < ps.length := by omega
    clear h2
    go_wp2
    go_ret
    exact ⟨ret_bool rfl, H0.out.trans X2.out⟩
  have h2' : ¬ 100 < ps.length := by omega
  clear h2
  by_cases h3 : qs.length ≤ 100
  rotate_left
  · have h3' : 100 < qs.length := by omega
    clear h3
    go_wp2
    go_ret
    exact ⟨ret_bool rfl, H0.out.trans X2.out⟩
  have h3' : ¬ 100 < qs.length := by omega
  clear h3
  have hb1 : bs.length ≤ 1000 := by omega
  go_wp2_with fail
  refine (cast_any num m A B Y c d cy xs ct bs _ (HX.out.ext X2.out) (HB.out.ext X2.out) (HY.out.ext X2.out) hy2 hy1 hn hb1).mono ?_
  have HCL := Lib.hid (cast_len num xs (prs bs) m ct)
  obtain ⟨⟨ls, er⟩, hr⟩ : ∃ r, castF num xs (prs bs) m ct = r := ⟨_, rfl⟩
  have HR := Lib.hid hr
  rw [hr, prs_len] at HCL
  rw [hr]
  clear hr
  rintro e w3 ⟨A3, c3, bs3, rfl, _, _, HP3, HB3, hx3⟩
  have X3 := Lib.hid (X2.out.trans hx3)
  clear hx3 q0 q1 q2 q3 zz X2
  obtain ⟨q0, q1, q2, q3, zz⟩ := cells2 X3.out
  go_wp2_with fail
  refine (rcast_any num m A B Y c d cy xs ct bs _ (HX.out.ext X3.out) (HB.out.ext X3.out) (HY.out.ext X3.out) hy1 hy2 hn hb1).mono ?_
  rw [HR.out]
  rintro e w4 ⟨A4, c4, bs4, rfl, _, _, HP4, HB4, hx4⟩
  have X4 := Lib.hid (X3.out.trans hx4)
  have HB3' := Lib.hid (HB3.out.ext hx4)
  clear hx4 q0 q1 q2 q3 zz X3 HB3
  obtain ⟨q0, q1, q2, q3, zz0⟩ := cells2 X4.out
  have zz : w.heap.size < w4.heap.size := by omega
  clear q2 q3 zz0
  have hl3 : bs3.length ≤ 1000 := by rw [← prs_len, HP3.out]; exact Nat.le_trans HCL.out (by omega)
  have HE : Hid (prs bs3 = prs bs4) := Lib.hid (HP3.out.trans HP4.out.symm)
  have R0 := Lib.hid ((HX.out.ext X4.out).ext (Ext.drew (Ext.refl _))); have RB := Lib.hid ((HB.out.ext X4.out).ext (Ext.drew (Ext.refl _)))
  have RP := Lib.hid ((HP.out.ext X4.out).ext (Ext.drew (Ext.refl _))); have RQ := Lib.hid ((HQ.out.ext X4.out).ext (Ext.drew (Ext.refl _)))
  have R3 := Lib.hid (HB3'.out.ext (Ext.drew (Ext.refl _))); have R4 := Lib.hid (HB4.out.ext (Ext.drew (Ext.refl _)))
  obtain ⟨vb, hvb⟩ : ∃ r, boxB num xs (prs bs) = r := ⟨_, rfl⟩
  have HV := Lib.hid hvb
  obtain ⟨sb, hsb⟩ : ∃ r, sameB ps qs = r := ⟨_, rfl⟩
  have HS := Lib.hid hsb
  clear hvb hsb HP3 HP4 HCL HR HX HB HY HP HQ HB3' HB4
  go_wp2
  have XE0 := Lib.hid (Ext.refl (w4.drew))
  go_region_held3 (fun w' => w'.cell? ⟨w.heap.size, 0, none⟩ = some (.int .i64 num) ∧ w'.cell? ⟨w.heap.size, 1, none⟩ = some (.slice A xs.length c))
    (first | exact ⟨q0, q1⟩ | exact ⟨r0_5, r1_5⟩ | exact ⟨r0_4, r1_4⟩ | exact ⟨r0_3, r1_3⟩ | exact ⟨r0_2, r1_2⟩ | exact ⟨r0_1, r1_1⟩)
    (first
      | (go_at_call 35; (with_reducible refine (rsame8_t A3 A4 c3 c4 bs3 bs4 _ (by exact R3.out.ext XE0.out) (by exact R4.out.ext XE0.out) hl3 (by exact HE.out)).mono ?_); rintro e v1 ⟨rfl, hx1⟩; have XE1 := Lib.hid (Ext.trans XE0.out hx1.ext); clear hx1; have r0_1 : v1.cell? ⟨w.heap.size, 0, none⟩ = some (.int .i64 num) := (by rw [XE1.out.cell (by exact zz)]; exact q0); have r1_1 : v1.cell? ⟨w.heap.size, 1, none⟩ = some (.slice A xs.length c) := (by rw [XE1.out.cell (by exact zz)]; exact q1))
      | (go_at_call 36; (with_reducible refine (valid8_b num A B c d xs bs _ (by exact R0.out.ext XE1.out) (by exact RB.out.ext XE1.out) hn hb1 _ (by exact HV.out)).mono ?_); rintro e v2 ⟨rfl, hx2⟩; have XE2 := Lib.hid (Ext.trans XE1.out hx2); clear hx2; have r0_2 : v2.cell? ⟨w.heap.size, 0, none⟩ = some (.int .i64 num) := (by rw [XE2.out.cell (by exact zz)]; exact q0); have r1_2 : v2.cell? ⟨w.heap.size, 1, none⟩ = some (.slice A xs.length c) := (by rw [XE2.out.cell (by exact zz)]; exact q1))
      | (go_at_call 37; (with_reducible refine (rvalid8_b num A B c d xs bs _ (by exact R0.out.ext XE2.out) (by exact RB.out.ext XE2.out) hn hb1 _ (by exact HV.out)).mono ?_); rintro e v3 ⟨rfl, hx3⟩; have XE3 := Lib.hid (Ext.trans XE2.out hx3); clear hx3; have r0_3 : v3.cell? ⟨w.heap.size, 0, none⟩ = some (.int .i64 num) := (by rw [XE3.out.cell (by exact zz)]; exact q0); have r1_3 : v3.cell? ⟨w.heap.size, 1, none⟩ = some (.slice A xs.length c) := (by rw [XE3.out.cell (by exact zz)]; exact q1))
      | (go_at_call 38; (with_reducible refine (fsame_b P Q cp cq ps qs _ (by exact RP.out.ext XE3.out) (by exact RQ.out.ext XE3.out) hnp _ (by exact HS.out)).mono ?_); rintro e v4 ⟨rfl, hx4⟩; have XE4 := Lib.hid (Ext.trans XE3.out hx4); clear hx4; have r0_4 : v4.cell? ⟨w.heap.size, 0, none⟩ = some (.int .i64 num) := (by rw [XE4.out.cell (by exact zz)]; exact q0); have r1_4 : v4.cell? ⟨w.heap.size, 1, none⟩ = some (.slice A xs.length c) := (by rw [XE4.out.cell (by exact zz)]; exact q1))
      | (go_at_call 39; (with_reducible refine (same8_b P Q cp cq ps qs _ (by exact RP.out.ext XE4.out) (by exact RQ.out.ext XE4.out) hnp _ (by exact HS.out)).mono ?_); rintro e v5 ⟨rfl, hx5⟩; have XE5 := Lib.hid (Ext.trans XE4.out hx5.ext); clear hx5; have r0_5 : v5.cell? ⟨w.heap.size, 0, none⟩ = some (.int .i64 num) := (by rw [XE5.out.cell (by exact zz)]; exact q0); have r1_5 : v5.cell? ⟨w.heap.size, 1, none⟩ = some (.slice A xs.length c) := (by rw [XE5.out.cell (by exact zz)]; exact q1)))
  go_wp2
  go_ret
  exact ⟨ret_bool rfl, H0.out.trans (X4.out.trans ((Ext.drew (Ext.refl _)).trans XE5.out))⟩

theorem walk (num : Int) (A : Option Addr) (c : Nat) (xs : List Int) {w : World} (_hi : I64 num) (hr : Row w A (ints xs)) (hc : xs.length ≤ c) (hm : c ≤ maxLen) (_hx : ∀ x ∈ xs, I64 x)
    (B : Option Addr) (d : Nat) (bs : List Bal) (hb : Box w B bs) (hd : bs.length ≤ d) (hdm : d ≤ maxLen)
    (m : Int) (Y : Option Addr) (cy : Nat) (ct : List Int) (_hi2 : I64 m) (hr2 : Row w Y (ints ct)) (hc2 : ct.length ≤ cy) (hm2 : cy ≤ maxLen) (_hx2 : ∀ x ∈ ct, I64 x)
    (P : Option Addr) (cp : Nat) (ps : List Int) (hr3 : Row w P (ints ps)) (hc3 : ps.length ≤ cp) (hm3 : cp ≤ maxLen) (_hx3 : ∀ x ∈ ps, I64 x)
    (Q : Option Addr) (cq : Nat) (qs : List Int) (hr4 : Row w Q (ints qs)) (hc4 : qs.length ≤ cq) (hm4 : cq ≤ maxLen) (_hx4 : ∀ x ∈ qs, I64 x) (W : World) (hW : w = W) :
    Calls Try.prog 6 #[.agg #[.int .i64 num, .slice A xs.length c], .slice B bs.length d, .agg #[.int .i64 m, .slice Y ct.length cy], .slice P ps.length cp, .slice Q qs.length cq] W fun e w' => e = .returned (.bool true) ∧ Ext W w' := by
  subst hW
  have h5 := hm2
  unfold maxLen at hm hdm h5 hm3 hm4
  exact walk0 num m A B Y P Q c d cy cp cq xs ct ps qs bs w hr hb hr2 hc2 hm2 hr3 hr4 (by omega) (by omega) (by omega) (by omega) (by omega)


open Go.ChangeShapes Go.WideShapes Go.ChangeAt
set_option maxRecDepth 100000 in
theorem lifted (os : Os) (started : os.Started) (H : Type) (enc : TypeId × Value → H) :
    ReturnsInHanded {} Try.checked os 6 .any (Rows.voteCastsSpec.pre6 enc Try.prog Try.f6 Rows.voteCastsRow.domain false) (Rows.voteCastsSpec.post enc Try.prog Try.f6 false true false false) := by
  refine returnsInHanded_of_change (C := Try.checked) own started (by kernel_rfl) Try.func6
    (ChangeSpec.witness6 (enc := enc) (C := Try.checked) false ⟨#[], #[.agg #[.int .i64 0, .slice none 0 0], .slice none 0 0, .agg #[.int .i64 0, .slice none 0 0], .slice none 0 0, .slice none 0 0], []⟩ 8 (by kernel_rfl) (by kernel_rfl) (by kernel_rfl) (by kernel_rfl)) ?_
  intro W base args ds gs before hval0 hW hcnd _
  have hval : ∀ (j : Nat) t v, Try.f6.params[j]? = some t → args[j]? = some v → Value.okWide Try.prog W .any base t v := hval0
  have hW' := hW
  obtain ⟨p, q, hA0, hV, rfl, hfz, hnd⟩ := hW
  have hA : DataW.TrodAll enc Try.prog W 0 (fun _ => true) true Try.f6.params.toList args.toList ds p := hA0
  rw [Try.params6] at hA hval
  obtain ⟨v0, vs0, d0, ds0, p0, q0, hargs, rfl, rfl, h0, r0⟩ := trodAll_cons hA
  obtain ⟨v1, vs1, d1, ds1, p1, q1, rfl, rfl, rfl, h1, r1⟩ := trodAll_cons r0
  obtain ⟨v2, vs2, d2, ds2, p2, q2, rfl, rfl, rfl, h2, r2⟩ := trodAll_cons r1
  obtain ⟨v3, vs3, d3, ds3, p3, q3, rfl, rfl, rfl, h3, r3⟩ := trodAll_cons r2
  obtain ⟨v4, vs4, d4, ds4, p4, q4, rfl, rfl, rfl, h4, r4⟩ := trodAll_cons r3
  obtain ⟨rfl, rfl, rfl⟩ := trodAll_nil r4
  obtain rfl : args = #[v0, v1, v2, v3, v4] := by cases args; simp_all
  obtain ⟨rfl, rfl⟩ := trodVars_none hV
  have lt0 : ∀ x ∈ p0, x.block < W.heap.size := by obtain ⟨m, hm⟩ := h0; exact DataW.trod_lt m _ _ _ hm
  have lt1 : ∀ x ∈ p1, x.block < W.heap.size := by obtain ⟨m, hm⟩ := h1; exact DataW.trod_lt m _ _ _ hm
  have lt2 : ∀ x ∈ p2, x.block < W.heap.size := by obtain ⟨m, hm⟩ := h2; exact DataW.trod_lt m _ _ _ hm
  have lt3 : ∀ x ∈ p3, x.block < W.heap.size := by obtain ⟨m, hm⟩ := h3; exact DataW.trod_lt m _ _ _ hm
  have lt4 : ∀ x ∈ p4, x.block < W.heap.size := by obtain ⟨m, hm⟩ := h4; exact DataW.trod_lt m _ _ _ hm
  obtain ⟨n0, A0, c0, x0, e0, hi0, hc0, hm0, hr0, hx0⟩ := argView (hval 0 36 v0 rfl rfl) h0
  obtain ⟨A1, c1, x1, e1, hc1, hm1, hr1⟩ := argBallots (hval 1 42 v1 rfl rfl) h1
  obtain ⟨n2, A2, c2, x2, e2, hi2, hc2, hm2, hr2, hx2⟩ := argBallot (hval 2 44 v2 rfl rfl) h2
  obtain ⟨A3, c3, x3, e3, hc3, hm3, hr3, hi3⟩ := argInts (hval 3 22 v3 rfl rfl) h3
  obtain ⟨A4, c4, x4, e4, hc4, hm4, hr4, hi4⟩ := argInts (hval 4 22 v4 rfl rfl) h4
  clear hA0 hval0
  have wk := walk n0 A0 c0 x0 hi0 hr0 hc0 hm0 hx0 A1 c1 x1 hr1 hc1 hm1 n2 A2 c2 x2 hi2 hr2 hc2 hm2 hx2 A3 c3 x3 hr3 hc3 hm3 hi3 A4 c4 x4 hr4 hc4 hm4 hi4 W rfl
  rw [← e0, ← e1, ← e2, ← e3, ← e4] at wk
  refine wk.mono fun e W' ⟨he, bel⟩ => ?_
  subst he
  exact ⟨_, rfl, _, _, _, [], _, [], hW', trodAll_mk1 (shut_bool Try.underlying4 _), (trodAll_cons_mk (Below.trod laidOut (by kernel_rfl) (of_decide_eq_true (by kernel_rfl)) h0 bel lt0) (trodAll_cons_mk (Below.trod laidOut (by kernel_rfl) (of_decide_eq_true (by kernel_rfl)) h1 bel lt1) (trodAll_cons_mk (Below.trod laidOut (by kernel_rfl) (of_decide_eq_true (by kernel_rfl)) h2 bel lt2) (trodAll_cons_mk (Below.trod laidOut (by kernel_rfl) (of_decide_eq_true (by kernel_rfl)) h3 bel lt3) (trodAll_cons_mk (Below.trod laidOut (by kernel_rfl) (of_decide_eq_true (by kernel_rfl)) h4 bel lt4) trodAll_mk0))))), rfl, bel.frame _, fun h => by cases h⟩

theorem over : Rows.voteCastsRow.holds Try.pinned (OpenSpec.ofChange Rows.voteCastsSpec) :=
  OpenClaim.holds_of_wide 6 Try.f6 rfl rfl rfl rfl rfl rfl rfl ⟨rfl, rfl, rfl, rfl, rfl⟩ rfl rfl rfl rfl rfl (by kernel_rfl) Try.func6 (by kernel_rfl)
    (of_decide_eq_true (by kernel_rfl)) (by unfold Func.isWrapper; first | (rw [if_pos (by decide +kernel)]; kernel_rfl) | (rw [if_neg (by decide +kernel)]; exact ⟨rfl, rfl⟩))
    (fun os started H enc _ => lifted os started H enc)

/-- the statement -/
theorem proved : Rows.VoteCastsSaid := over
#print axioms proved

end Go.Proofs.Ytagmocofmedmjaa.voteCasts
