/- For every input the statement ViewLists returns true and leaves its arguments as they were. Conditions: none. -/
import Derived.Test.YtagmocofmedmjaaAwake3
import Derived.Test.YtagmocofmedmjaaSmall3
import Derived.Test.YtagmocofmedmjaaRowKit
namespace Go.Proofs.Ytagmocofmedmjaa.viewLists
open Go.RowKit

theorem row1 {w : World} {b off n c : Nat} {a : Option Addr} (h0 : w.cell? ⟨b, off, none⟩ = some (.slice a n c)) : Row w (some ⟨b, off, none⟩) (slV [(a, n, c)]) := by
  intro _
  refine ⟨b, off, rfl, World.block_lt_of_cell? w _ h0, fun j v hj => ?_⟩
  match j, hj with
  | 0, hj => simp [slV] at hj; subst hj; exact h0

set_option maxRecDepth 100000 in
set_option maxHeartbeats 800000 in
theorem walk0 (A : Option Addr) (c : Nat) (xs : List Int) (id n : Int) (w : World) (h : Row w A (ints xs)) (hn : xs.length ≤ 9223372036854775807) :
    Calls Try.prog 3 #[.slice A xs.length c, .int .i64 id, .int .i64 n] w fun e w' => e = .returned (.bool true) ∧ Ext w w' := by
  have H := Lib.hid h; clear h
  go_enter Try.func3, Try.ntmps3
  go_wp2_with fail
  refine (awake3_any w).mono ?_
  rintro e w1 ⟨rfl, hx1⟩
  have H1 := Lib.hid (H.out.ext hx1)
  go_wp2_with fail
  have X2 := Lib.hid (Ext.trans hx1 (Ext.new w1 (.cells #[.slice A xs.length c] 22)))
  have HX := Lib.hid (H1.out.ext (Ext.new w1 (.cells #[.slice A xs.length c] 22)))
  by_cases hs : xs.length ≤ 100
  · refine (small3_any (some ⟨w1.heap.size, 0, none⟩) 1 [(A, xs.length, c)] _ (row1 (by simp)) (by simp)).mono ?_
    have hsm : smallB [(A, xs.length, c)] = true := by simp [smallB, hs]
    rw [hsm]
    rintro e w2 ⟨rfl, rfl⟩
    clear hsm hx1 H1
    go_wp2_with (first
      | (go_at_call 16; refine (validMembers_any _ _ _ _ HX.out hn).mono ?_; rintro e w' ⟨rfl, rfl⟩)
      | (go_at_call 17; refine (rvalidMembers_any _ _ _ _ HX.out hn).mono ?_; rintro e w3 ⟨rfl, hs3⟩; have HX3 := Lib.hid (hs3.row HX.out); have X3 := Lib.hid (X2.out.trans hs3.ext); clear hs3)
      | (go_at_call 18; refine (validCut_any _ _ _ _ HX3.out hn).mono ?_; rintro e w' ⟨rfl, rfl⟩)
      | (go_at_call 19; refine (rvalidCut_any _ _ _ _ HX3.out hn).mono ?_; rintro e w4 ⟨rfl, hs4⟩; have HX4 := Lib.hid (hs4.row HX3.out); have X4 := Lib.hid (X3.out.trans hs4.ext); clear hs4)
      | (go_at_call 20; refine (contains_any _ _ _ _ _ HX4.out hn).mono ?_; rintro e w' ⟨rfl, rfl⟩)
      | (go_at_call 21; refine (rcontains_any _ _ _ _ _ HX4.out hn).mono ?_; rintro e w' ⟨rfl, rfl⟩)
      | (go_at_call 22; refine (place_any _ _ _ _ _ HX4.out hn).mono ?_; rintro e w' ⟨rfl, rfl⟩)
      | (go_at_call 23; refine (rplace_any _ _ _ _ _ HX4.out hn).mono ?_; rintro e w' ⟨rfl, rfl⟩)
      | (go_at_call 24; refine (majority_any _ _).mono ?_; rintro e w' ⟨rfl, rfl⟩)
      | (go_at_call 25; refine (rmajority_any _ _).mono ?_; rintro e w' ⟨rfl, rfl⟩)
      | (go_at_call 26; refine (fastQuorum_any _ _).mono ?_; rintro e w' ⟨rfl, rfl⟩)
      | (go_at_call 27; refine (rfastQuorum_any _ _).mono ?_; rintro e w' ⟨rfl, rfl⟩))
    go_ret
    exact ⟨rfl, X4.out⟩
  · refine (small3_any (some ⟨w1.heap.size, 0, none⟩) 1 [(A, xs.length, c)] _ (row1 (by simp)) (by simp)).mono ?_
    have hsm : smallB [(A, xs.length, c)] = false := by simp [smallB, hs]
    rw [hsm]
    rintro e w2 ⟨rfl, rfl⟩
    go_wp2
    go_ret
    exact ⟨rfl, X2.out⟩

theorem walk (A : Option Addr) (c : Nat) (xs : List Int) {w : World} (h : Row w A (ints xs)) (hc : xs.length ≤ c) (hm : c ≤ maxLen) (_hi : ∀ x ∈ xs, I64 x) (id : Int) (_h1 : I64 id) (n : Int) (_h2 : I64 n) (W : World) (hW : w = W) :
    Calls Try.prog 3 #[.slice A xs.length c, .int .i64 id, .int .i64 n] W fun e w' => e = .returned (.bool true) ∧ Ext W w' := by
  subst hW; exact walk0 A c xs id n w h (by unfold maxLen at hm; omega)

open Go.ChangeShapes Go.WideShapes Go.ChangeAt
set_option maxRecDepth 100000 in
theorem lifted (os : Os) (started : os.Started) (H : Type) (enc : TypeId × Value → H) :
    ReturnsInHanded {} Try.checked os 3 .any (Rows.viewListsSpec.pre6 enc Try.prog Try.f3 Rows.viewListsRow.domain false) (Rows.viewListsSpec.post enc Try.prog Try.f3 false true false false) := by
  refine returnsInHanded_of_change (C := Try.checked) own started (by kernel_rfl) Try.func3
    (ChangeSpec.witness6 (enc := enc) (C := Try.checked) false ⟨#[], #[.slice none 0 0, .int .i64 0, .int .i64 0], []⟩ 8 (by kernel_rfl) (by kernel_rfl) (by kernel_rfl) (by kernel_rfl)) ?_
  intro W base args ds gs before hval0 hW hcnd _
  have hval : ∀ (j : Nat) t v, Try.f3.params[j]? = some t → args[j]? = some v → Value.okWide Try.prog W .any base t v := hval0
  have hW' := hW
  obtain ⟨p, q, hA0, hV, rfl, hfz, hnd⟩ := hW
  have hA : DataW.TrodAll enc Try.prog W 0 (fun _ => true) true Try.f3.params.toList args.toList ds p := hA0
  rw [Try.params3] at hA hval
  obtain ⟨v0, vs0, d0, ds0, p0, q0, hargs, rfl, rfl, h0, r0⟩ := trodAll_cons hA
  obtain ⟨v1, vs1, d1, ds1, p1, q1, rfl, rfl, rfl, h1, r1⟩ := trodAll_cons r0
  obtain ⟨v2, vs2, d2, ds2, p2, q2, rfl, rfl, rfl, h2, r2⟩ := trodAll_cons r1
  obtain ⟨rfl, rfl, rfl⟩ := trodAll_nil r2
  obtain rfl : args = #[v0, v1, v2] := by cases args; simp_all
  obtain ⟨rfl, rfl⟩ := trodVars_none hV
  have lt0 : ∀ x ∈ p0, x.block < W.heap.size := by obtain ⟨m, hm⟩ := h0; exact DataW.trod_lt m _ _ _ hm
  have lt1 : ∀ x ∈ p1, x.block < W.heap.size := by obtain ⟨m, hm⟩ := h1; exact DataW.trod_lt m _ _ _ hm
  have lt2 : ∀ x ∈ p2, x.block < W.heap.size := by obtain ⟨m, hm⟩ := h2; exact DataW.trod_lt m _ _ _ hm
  obtain ⟨A0, c0, x0, e0, hc0, hm0, hr0, hi0⟩ := argInts (hval 0 22 v0 rfl rfl) h0
  obtain ⟨n1, e1, hi1⟩ := argInt (hval 1 3 v1 rfl rfl) h1
  obtain ⟨n2, e2, hi2⟩ := argInt (hval 2 3 v2 rfl rfl) h2
  clear hA0 hval0
  have wk := walk A0 c0 x0 hr0 hc0 hm0 hi0 n1 hi1 n2 hi2 W rfl
  rw [← e0, ← e1, ← e2] at wk
  refine wk.mono fun e W' ⟨he, bel⟩ => ?_
  subst he
  exact ⟨_, rfl, _, _, _, [], _, [], hW', trodAll_mk1 (shut_bool Try.underlying4 _), (trodAll_cons_mk (Below.trod laidOut (by kernel_rfl) (of_decide_eq_true (by kernel_rfl)) h0 bel lt0) (trodAll_cons_mk (Below.trod laidOut (by kernel_rfl) (of_decide_eq_true (by kernel_rfl)) h1 bel lt1) (trodAll_cons_mk (Below.trod laidOut (by kernel_rfl) (of_decide_eq_true (by kernel_rfl)) h2 bel lt2) trodAll_mk0))), rfl, bel.frame _, fun h => by cases h⟩

theorem over : Rows.viewListsRow.holds Try.pinned (OpenSpec.ofChange Rows.viewListsSpec) :=
  OpenClaim.holds_of_wide 3 Try.f3 rfl rfl rfl rfl rfl rfl rfl ⟨rfl, rfl, rfl, rfl, rfl⟩ rfl rfl rfl rfl rfl (by kernel_rfl) Try.func3 (by kernel_rfl)
    (of_decide_eq_true (by kernel_rfl)) (by unfold Func.isWrapper; first | (rw [if_pos (by decide +kernel)]; kernel_rfl) | (rw [if_neg (by decide +kernel)]; exact ⟨rfl, rfl⟩))
    (fun os started H enc _ => lifted os started H enc)

/-- the statement -/
theorem proved : Rows.ViewListsSaid := over
#print axioms proved

end Go.Proofs.Ytagmocofmedmjaa.viewLists
