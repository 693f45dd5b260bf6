/- For every input the statement VoteCounts returns true and leaves its arguments as they were. Conditions: none. -/
import Derived.Test.YtagmocofmedmjaaVote9
import Derived.Test.YtagmocofmedmjaaRowKit8
namespace Go.Proofs.Ytagmocofmedmjaa.voteCounts
open Go.RowKit

set_option maxRecDepth 100000 in
set_option maxHeartbeats 4000000 in
theorem walk0 (num : Int) (A B P : Option Addr) (c d cp : Nat) (xs ps : List Int) (bs : List Bal) (w : World) (hx : Row w A (ints xs)) (hb : Box w B bs)
    (hp : Row w P (ints ps)) (hn : xs.length ≤ 9223372036854775807) (hm : bs.length ≤ 9223372036854775807) (hnp : ps.length ≤ 9223372036854775807) :
    Calls Try.prog 7 #[.agg #[.int .i64 num, .slice A xs.length c], .slice B bs.length d, .slice P ps.length cp] w fun e w' => e = .returned (.bool true) ∧ Ext w w' := by
  have H0 := Lib.hid (Ext.new w (.cells #[.int .i64 num, .slice A xs.length c] 36))
  have HX := Lib.hid (hx.ext H0.out); have HB := Lib.hid (hb.ext H0.out); have HP := Lib.hid (hp.ext H0.out)
  clear hx hb hp
  go_enter Try.func7, Try.ntmps7
  go_wp2_with fail
  refine (awake8_any _).mono ?_
  rintro e w1 ⟨rfl, hx1⟩
  have X1 := Lib.hid hx1; clear hx1
  have q0 : w1.cell? ⟨w.heap.size, 0, none⟩ = some (.int .i64 num) := by simpa using X1.out.cell_new 0
  have q1 : w1.cell? ⟨w.heap.size, 1, none⟩ = some (.slice A xs.length c) := by simpa using X1.out.cell_new 1
  go_wp2_with fail
  refine (small8_any num A B c d xs bs _ (HB.out.ext X1.out) hn hm).mono ?_
  clear q0 q1
  cases hs : smallX xs.length (prs bs)
  · rintro e w2 ⟨rfl, hx2⟩
    have X2 := Lib.hid (X1.out.trans hx2); clear hx2
    go_wp2
    go_ret
    exact ⟨ret_bool rfl, H0.out.trans X2.out⟩
  rintro e w2 ⟨rfl, hx2⟩
  have X2 := Lib.hid (X1.out.trans hx2); clear hx2 X1
  have q0 : w2.cell? ⟨w.heap.size, 0, none⟩ = some (.int .i64 num) := by simpa using X2.out.cell_new 0
  have q1 : w2.cell? ⟨w.heap.size, 1, none⟩ = some (.slice A xs.length c) := by simpa using X2.out.cell_new 1
  have hs1 := (small_iff hs).1
  have hs2 := (small_iff hs).2
  rw [prs_len] at hs2
  clear hs
  by_cases h2 : ps.length ≤ 60
  rotate_left
  · have h2' : 60 < ps.length := by omega
    clear h2
    go_wp2
    go_ret
    exact ⟨ret_bool rfl, H0.out.trans X2.out⟩
  have h2' : ¬ 60 < ps.length := by omega
  clear h2
  have hb1 : bs.length ≤ 1000 := by omega
  go_wp2_with fail
  refine (winner_any num A B c d xs bs _ (HX.out.ext X2.out) (HB.out.ext X2.out) hn hb1).mono ?_
  have HWL : Hid (((winF num xs (prs bs)).getD []).length ≤ 1000000) := Lib.hid (by
    cases h : winF num xs (prs bs) with
    | none => simp
    | some ct =>
      obtain ⟨hb, ⟨p, hp, rfl⟩, _⟩ := win_some h
      exact box_cuts hb p hp)
  obtain ⟨r, hr⟩ : ∃ r, winF num xs (prs bs) = r := ⟨_, rfl⟩
  have HR := Lib.hid hr
  rw [hr] at HWL ⊢
  clear hr
  obtain ⟨ok, hok⟩ : ∃ b, r.isSome = b := ⟨_, rfl⟩
  obtain ⟨wc, hwc⟩ : ∃ l, r.getD [] = l := ⟨_, rfl⟩
  unfold GivesW
  rw [hok, hwc]
  have HOK := Lib.hid hok; have HWC := Lib.hid hwc
  rw [hwc] at HWL
  clear hok hwc
  rintro e w3 ⟨A3, c3, rfl, _, _, HR3, hx3⟩
  have X3 := Lib.hid (X2.out.trans hx3)
  clear hx3 q0 q1 X2
  have q0 : w3.cell? ⟨w.heap.size, 0, none⟩ = some (.int .i64 num) := by simpa using X3.out.cell_new 0
  have q1 : w3.cell? ⟨w.heap.size, 1, none⟩ = some (.slice A xs.length c) := by simpa using X3.out.cell_new 1
  go_wp2_with fail
  refine (rwinner_any num A B c d xs bs _ (HX.out.ext X3.out) (HB.out.ext X3.out) hn hb1).mono ?_
  unfold GivesW
  rw [HR.out, HOK.out, HWC.out]
  rintro e w4 ⟨A4, c4, rfl, _, _, HR4, hx4⟩
  have X4 := Lib.hid (X3.out.trans hx4)
  have HR3' := Lib.hid (HR3.out.ext hx4)
  clear hx4 q0 q1 X3 HR3
  have q0 : w4.cell? ⟨w.heap.size, 0, none⟩ = some (.int .i64 num) := by simpa using X4.out.cell_new 0
  have q1 : w4.cell? ⟨w.heap.size, 1, none⟩ = some (.slice A xs.length c) := by simpa using X4.out.cell_new 1
  have zz : w.heap.size < w4.heap.size := by have := X4.out.size; simp at this; omega
  have hwl : wc.length ≤ 9223372036854775807 := by have := HWL.out; omega
  have R0 := Lib.hid ((HX.out.ext X4.out).ext (Ext.drew (Ext.refl _))); have RB := Lib.hid ((HB.out.ext X4.out).ext (Ext.drew (Ext.refl _)))
  have RP := Lib.hid ((HP.out.ext X4.out).ext (Ext.drew (Ext.refl _)))
  have R3 := Lib.hid (HR3'.out.ext (Ext.drew (Ext.refl _))); have R4 := Lib.hid (HR4.out.ext (Ext.drew (Ext.refl _)))
  have HSS : Hid (sameB wc wc = true) := Lib.hid (decide_eq_true rfl)
  obtain ⟨nv, hnv⟩ : ∃ r, votesF (prs bs) ps = r := ⟨_, rfl⟩
  have HN := Lib.hid hnv
  obtain ⟨ub, hub⟩ : ∃ r, undF num xs (prs bs) = r := ⟨_, rfl⟩
  have HU := Lib.hid hub
  clear hnv hub HR HOK HWC HWL HX HB HP HR3' HR4
  go_wp2
  have XE0 := Lib.hid (Ext.refl (w4.drew))
  go_region_held3 (fun w' => w'.cell? ⟨w.heap.size, 0, none⟩ = some (.int .i64 num) ∧ w'.cell? ⟨w.heap.size, 1, none⟩ = some (.slice A xs.length c))
    (first | exact ⟨q0, q1⟩ | exact ⟨r0_5, r1_5⟩ | exact ⟨r0_4, r1_4⟩ | exact ⟨r0_3, r1_3⟩ | exact ⟨r0_2, r1_2⟩ | exact ⟨r0_1, r1_1⟩)
    (first
      | (go_at_call 39; (with_reducible refine (same8_b A3 A4 c3 c4 wc wc _ (by exact R3.out.ext XE0.out) (by exact R4.out.ext XE0.out) hwl _ (by exact HSS.out)).mono ?_); rintro e v1 ⟨rfl, hx1⟩; have XE1 := Lib.hid (Ext.trans XE0.out hx1.ext); clear hx1; have r0_1 : v1.cell? ⟨w.heap.size, 0, none⟩ = some (.int .i64 num) := (by rw [XE1.out.cell (by exact zz)]; exact q0); have r1_1 : v1.cell? ⟨w.heap.size, 1, none⟩ = some (.slice A xs.length c) := (by rw [XE1.out.cell (by exact zz)]; exact q1))
      | (go_at_call 42; (with_reducible refine (votes_b B P d cp bs ps _ (by exact RB.out.ext XE1.out) (by exact RP.out.ext XE1.out) hb1 _ (by exact HN.out)).mono ?_); rintro e v2 ⟨rfl, hx2⟩; have XE2 := Lib.hid (Ext.trans XE1.out hx2); clear hx2; have r0_2 : v2.cell? ⟨w.heap.size, 0, none⟩ = some (.int .i64 num) := (by rw [XE2.out.cell (by exact zz)]; exact q0); have r1_2 : v2.cell? ⟨w.heap.size, 1, none⟩ = some (.slice A xs.length c) := (by rw [XE2.out.cell (by exact zz)]; exact q1))
      | (go_at_call 43; (with_reducible refine (rvotes_b B P d cp bs ps _ (by exact RB.out.ext XE2.out) (by exact RP.out.ext XE2.out) hb1 _ (by exact HN.out)).mono ?_); rintro e v3 ⟨rfl, hx3⟩; have XE3 := Lib.hid (Ext.trans XE2.out hx3.ext); clear hx3; have r0_3 : v3.cell? ⟨w.heap.size, 0, none⟩ = some (.int .i64 num) := (by rw [XE3.out.cell (by exact zz)]; exact q0); have r1_3 : v3.cell? ⟨w.heap.size, 1, none⟩ = some (.slice A xs.length c) := (by rw [XE3.out.cell (by exact zz)]; exact q1))
      | (go_at_call 44; (with_reducible refine (undecidable_b num A B c d xs bs _ (by exact R0.out.ext XE3.out) (by exact RB.out.ext XE3.out) hn hb1 _ (by exact HU.out)).mono ?_); rintro e v4 ⟨rfl, hx4⟩; have XE4 := Lib.hid (Ext.trans XE3.out hx4); clear hx4; have r0_4 : v4.cell? ⟨w.heap.size, 0, none⟩ = some (.int .i64 num) := (by rw [XE4.out.cell (by exact zz)]; exact q0); have r1_4 : v4.cell? ⟨w.heap.size, 1, none⟩ = some (.slice A xs.length c) := (by rw [XE4.out.cell (by exact zz)]; exact q1))
      | (go_at_call 45; (with_reducible refine (rundecidable_b num A B c d xs bs _ (by exact R0.out.ext XE4.out) (by exact RB.out.ext XE4.out) hn hb1 _ (by exact HU.out)).mono ?_); rintro e v5 ⟨rfl, hx5⟩; have XE5 := Lib.hid (Ext.trans XE4.out hx5); clear hx5; have r0_5 : v5.cell? ⟨w.heap.size, 0, none⟩ = some (.int .i64 num) := (by rw [XE5.out.cell (by exact zz)]; exact q0); have r1_5 : v5.cell? ⟨w.heap.size, 1, none⟩ = some (.slice A xs.length c) := (by rw [XE5.out.cell (by exact zz)]; exact q1)))
  go_wp2
  go_ret
  exact ⟨ret_bool rfl, H0.out.trans (X4.out.trans ((Ext.drew (Ext.refl _)).trans XE5.out))⟩

theorem walk (num : Int) (A : Option Addr) (c : Nat) (xs : List Int) {w : World} (_hi : I64 num) (hr : Row w A (ints xs)) (hc : xs.length ≤ c) (hm : c ≤ maxLen) (_hx : ∀ x ∈ xs, I64 x)
    (B : Option Addr) (d : Nat) (bs : List Bal) (hb : Box w B bs) (hd : bs.length ≤ d) (hdm : d ≤ maxLen)
    (P : Option Addr) (cp : Nat) (ps : List Int) (hr3 : Row w P (ints ps)) (hc3 : ps.length ≤ cp) (hm3 : cp ≤ maxLen) (_hx3 : ∀ x ∈ ps, I64 x) (W : World) (hW : w = W) :
    Calls Try.prog 7 #[.agg #[.int .i64 num, .slice A xs.length c], .slice B bs.length d, .slice P ps.length cp] W fun e w' => e = .returned (.bool true) ∧ Ext W w' := by
  subst hW
  unfold maxLen at hm hdm hm3
  exact walk0 num A B P c d cp xs ps bs w hr hb hr3 (by omega) (by omega) (by omega)


open Go.ChangeShapes Go.WideShapes Go.ChangeAt
set_option maxRecDepth 100000 in
theorem lifted (os : Os) (started : os.Started) (H : Type) (enc : TypeId × Value → H) :
    ReturnsInHanded {} Try.checked os 7 .any (Rows.voteCountsSpec.pre6 enc Try.prog Try.f7 Rows.voteCountsRow.domain false) (Rows.voteCountsSpec.post enc Try.prog Try.f7 false true false false) := by
  refine returnsInHanded_of_change (C := Try.checked) own started (by kernel_rfl) Try.func7
    (ChangeSpec.witness6 (enc := enc) (C := Try.checked) false ⟨#[], #[.agg #[.int .i64 0, .slice none 0 0], .slice none 0 0, .slice none 0 0], []⟩ 8 (by kernel_rfl) (by kernel_rfl) (by kernel_rfl) (by kernel_rfl)) ?_
  intro W base args ds gs before hval0 hW hcnd _
  have hval : ∀ (j : Nat) t v, Try.f7.params[j]? = some t → args[j]? = some v → Value.okWide Try.prog W .any base t v := hval0
  have hW' := hW
  obtain ⟨p, q, hA0, hV, rfl, hfz, hnd⟩ := hW
  have hA : DataW.TrodAll enc Try.prog W 0 (fun _ => true) true Try.f7.params.toList args.toList ds p := hA0
  rw [Try.params7] at hA hval
  obtain ⟨v0, vs0, d0, ds0, p0, q0, hargs, rfl, rfl, h0, r0⟩ := trodAll_cons hA
  obtain ⟨v1, vs1, d1, ds1, p1, q1, rfl, rfl, rfl, h1, r1⟩ := trodAll_cons r0
  obtain ⟨v2, vs2, d2, ds2, p2, q2, rfl, rfl, rfl, h2, r2⟩ := trodAll_cons r1
  obtain ⟨rfl, rfl, rfl⟩ := trodAll_nil r2
  obtain rfl : args = #[v0, v1, v2] := by cases args; simp_all
  obtain ⟨rfl, rfl⟩ := trodVars_none hV
  have lt0 : ∀ x ∈ p0, x.block < W.heap.size := by obtain ⟨m, hm⟩ := h0; exact DataW.trod_lt m _ _ _ hm
  have lt1 : ∀ x ∈ p1, x.block < W.heap.size := by obtain ⟨m, hm⟩ := h1; exact DataW.trod_lt m _ _ _ hm
  have lt2 : ∀ x ∈ p2, x.block < W.heap.size := by obtain ⟨m, hm⟩ := h2; exact DataW.trod_lt m _ _ _ hm
  obtain ⟨n0, A0, c0, x0, e0, hi0, hc0, hm0, hr0, hx0⟩ := argView (hval 0 36 v0 rfl rfl) h0
  obtain ⟨A1, c1, x1, e1, hc1, hm1, hr1⟩ := argBallots (hval 1 42 v1 rfl rfl) h1
  obtain ⟨A2, c2, x2, e2, hc2, hm2, hr2, hi2⟩ := argInts (hval 2 22 v2 rfl rfl) h2
  clear hA0 hval0
  have wk := walk n0 A0 c0 x0 hi0 hr0 hc0 hm0 hx0 A1 c1 x1 hr1 hc1 hm1 A2 c2 x2 hr2 hc2 hm2 hi2 W rfl
  rw [← e0, ← e1, ← e2] at wk
  refine wk.mono fun e W' ⟨he, bel⟩ => ?_
  subst he
  exact ⟨_, rfl, _, _, _, [], _, [], hW', trodAll_mk1 (shut_bool Try.underlying4 _), (trodAll_cons_mk (Below.trod laidOut (by kernel_rfl) (of_decide_eq_true (by kernel_rfl)) h0 bel lt0) (trodAll_cons_mk (Below.trod laidOut (by kernel_rfl) (of_decide_eq_true (by kernel_rfl)) h1 bel lt1) (trodAll_cons_mk (Below.trod laidOut (by kernel_rfl) (of_decide_eq_true (by kernel_rfl)) h2 bel lt2) trodAll_mk0))), rfl, bel.frame _, fun h => by cases h⟩

theorem over : Rows.voteCountsRow.holds Try.pinned (OpenSpec.ofChange Rows.voteCountsSpec) :=
  OpenClaim.holds_of_wide 7 Try.f7 rfl rfl rfl rfl rfl rfl rfl ⟨rfl, rfl, rfl, rfl, rfl⟩ rfl rfl rfl rfl rfl (by kernel_rfl) Try.func7 (by kernel_rfl)
    (of_decide_eq_true (by kernel_rfl)) (by unfold Func.isWrapper; first | (rw [if_pos (by decide +kernel)]; kernel_rfl) | (rw [if_neg (by decide +kernel)]; exact ⟨rfl, rfl⟩))
    (fun os started H enc _ => lifted os started H enc)

/-- the statement -/
theorem proved : Rows.VoteCountsSaid := over
#print axioms proved

end Go.Proofs.Ytagmocofmedmjaa.voteCounts
