/- Contracts: the encoding of a view, in package view and in the reference. -/
import Derived.Test.YtagmocofmedmjaaWire3
import Derived.Test.YtagmocofmedmjaaStep
namespace Go.Proofs.Ytagmocofmedmjaa
open Go.RowKit

theorem num_u64 {num : Int} {xs : List Int} (h : validB num xs = true) : num.toNat < U64 := by
  have := validB_num h; unfold U64; omega
theorem GivesB.from {a w w' : World} {bs : List UInt8} {en : Ending} (e : Ext a w) (h : GivesB w bs en w') : GivesB a bs en w' := by
  obtain ⟨A, c, h1, h2, h3, h4, h5⟩ := h
  exact ⟨A, c, h1, h2, h3, h4.base e.size, e.trans h5⟩

set_option maxRecDepth 100000 in
theorem encode_any (num : Int) (A : Option Addr) (c : Nat) (xs : List Int) (w : World) (h : Row w A (ints xs)) (hn : xs.length ≤ 9223372036854775807) :
    Calls Try.prog 59 #[.agg #[.int .i64 num, .slice A xs.length c]] w (GivesB w (encV num xs)) := by
  have H0 := Lib.hid (Ext.new w (.cells #[.int .i64 num, .slice A xs.length c] 36))
  have HX := Lib.hid (h.ext H0.out)
  clear h
  by_cases hv : validB num xs = true
  · have HE := Lib.hid (encV_yes hv)
    have HV := Lib.hid hv
    have hnum := validB_num hv
    have hl1 : xs.length ≤ 16 := (validB_len hv).2
    clear hv
    obtain ⟨k, hk⟩ : ∃ k : Nat, num = (k : Int) := ⟨num.toNat, by omega⟩
    subst hk
    have hwl : IntKind.u64.wrap (k : Int) = (k : Int) := u64_nat (by have := num_u64 HV.out; simpa using this)
    have hwl' := Lib.hid (show k < U64 by have := num_u64 HV.out; simpa using this)
    go_enter Try.func59, Try.ntmps59
    go_wp2_with fail
    refine (valid_yes _ _ _ _ _ HX.out hn HV.out).mono ?_
    rintro e w1 ⟨rfl, hx1⟩
    have q0 : w1.cell? ⟨w.heap.size, 0, none⟩ = some (.int .i64 k) := by simpa using hx1.cell_new 0
    have q1 : w1.cell? ⟨w.heap.size, 1, none⟩ = some (.slice A xs.length c) := by simpa using hx1.cell_new 1
    have q2 : w.heap.size + 1 ≤ w1.heap.size := by have := hx1.size; simp at this; omega
    have HX1 := Lib.hid (HX.out.ext hx1)
    have H1 := Lib.hid (H0.out.trans hx1)
    clear hx1
    go_wp2
    go_region_held3 (fun w' => w'.cell? ⟨w.heap.size, 0, none⟩ = some (.int .i64 k) ∧ w'.cell? ⟨w.heap.size, 1, none⟩ = some (.slice A xs.length c))
      (first | go_keep | (go_split_ands; refine ⟨?_, ?_⟩ <;> first | (rw [hx3.cell (by simp; omega)]; assumption) | (rw [hx2.cell (by simp; omega)]; assumption)))
      (first
        | (go_at_call 83; refine (appendUint_any none 0 [] k _ (by exact Row.nil _ _) (by simp) hwl').mono ?_; rintro e w2 ⟨A2, c2, rfl, hc2, hm2, ho2, hx2⟩; have s2 : w1.heap.size ≤ w2.heap.size := hx2.size; have HX2 := Lib.hid (Row.ext (w := w1.drew) HX1.out hx2))
        | (go_at_call 82; refine (appendInts_any _ _ _ _ _ _ _ (by exact ho2.row) (by exact HX2.out) (by have := encU_len10 hwl'.out; simp; omega) (by omega) (valid_i64 HV.out)).mono ?_; rintro e w3 ⟨A3, c3, rfl, hc3, hm3, ho3, hx3⟩))
    go_wp2
    go_ret
    exact GivesB.from (Ext.drew H1.out |>.trans hx2) (gives_b (by rw [HE.out]; simpa using ho3) hx3)
  · have hv' : validB num xs = false := by simpa using hv
    have HE := Lib.hid (encV_no hv')
    have HV := Lib.hid hv'
    clear hv hv'
    go_enter Try.func59, Try.ntmps59
    go_wp2_with fail
    refine (valid_no _ _ _ _ _ HX.out hn HV.out).mono ?_
    rintro e w1 ⟨rfl, hx1⟩
    go_wp2
    go_ret
    exact gives_b (by rw [HE.out]; exact Own.nil _ _ _) (H0.out.trans hx1)

set_option maxRecDepth 100000 in
theorem rencode_any (num : Int) (A : Option Addr) (c : Nat) (xs : List Int) (w : World) (h : Row w A (ints xs)) (hn : xs.length ≤ 9223372036854775807) :
    Calls Try.prog 60 #[.agg #[.int .i64 num, .slice A xs.length c]] w (GivesB w (encV num xs)) := by
  have H0 := Lib.hid (Ext.new w (.cells #[.int .i64 num, .slice A xs.length c] 36))
  have HX := Lib.hid (h.ext H0.out)
  clear h
  by_cases hv : validB num xs = true
  · have HE := Lib.hid (encV_yes hv)
    have HV := Lib.hid hv
    have hnum := validB_num hv
    have hl1 : xs.length ≤ 16 := (validB_len hv).2
    clear hv
    obtain ⟨k, hk⟩ : ∃ k : Nat, num = (k : Int) := ⟨num.toNat, by omega⟩
    subst hk
    have hwl : IntKind.u64.wrap (k : Int) = (k : Int) := u64_nat (by have := num_u64 HV.out; simpa using this)
    have hwl' := Lib.hid (show k < U64 by have := num_u64 HV.out; simpa using this)
    have hle := encU_len10 hwl'.out
    have hle2 : (encU xs.length).length + (encL xs).length ≤ 1000 := by
      have h1 := encL_len (valid_i64 HV.out) xs.length
      have h2 := encU_len10 (len_u64 (n := xs.length) (by omega))
      rw [List.take_length] at h1
      omega
    go_enter Try.func60, Try.ntmps60
    go_wp2_with fail
    refine (rvalid_yes _ _ _ _ _ HX.out hn HV.out).mono ?_
    rintro e w1 ⟨rfl, hx1⟩
    have q0 : w1.cell? ⟨w.heap.size, 0, none⟩ = some (.int .i64 k) := by simpa using hx1.cell_new 0
    have q1 : w1.cell? ⟨w.heap.size, 1, none⟩ = some (.slice A xs.length c) := by simpa using hx1.cell_new 1
    have q2 : w.heap.size + 1 ≤ w1.heap.size := by have := hx1.size; simp at this; omega
    have HX1 := Lib.hid (HX.out.ext hx1)
    have H1 := Lib.hid (H0.out.trans hx1)
    clear hx1
    go_wp2
    go_region_held3 (fun w' => w'.cell? ⟨w.heap.size, 0, none⟩ = some (.int .i64 k) ∧ w'.cell? ⟨w.heap.size, 1, none⟩ = some (.slice A xs.length c))
      (first | go_keep | (go_split_ands; refine ⟨?_, ?_⟩ <;> first | (rw [hx4.cell (by simp; omega)]; assumption) | (rw [hx3.cell (by simp; omega)]; assumption) | (rw [hx2.cell (by simp; omega)]; assumption)))
      (first
        | (go_at_call 84; refine (rUint_any k _ hwl').mono ?_; rintro e w2 ⟨A2, c2, rfl, hc2, hm2, ho2, hx2⟩; have s2 : w1.heap.size ≤ w2.heap.size := hx2.size; have HX2 := Lib.hid (Row.ext (w := w1.drew) HX1.out hx2))
        | (go_at_call 85; refine (rIntList_any _ _ _ _ (by exact HX2.out) (by omega) (valid_i64 HV.out)).mono ?_; rintro e w3 ⟨A3, c3, rfl, hc3, hm3, ho3, hx3⟩; have s3 := hx3.size; have HO2 := Lib.hid (ho2.ext hx3))
        | (refine step_push_row (by rfl) (.tmp 9) (.tmp 12) _ 5 _ 1 (by rfl) Try.underlying54 info_u8 rfl (by decide) w3 w1.heap.size _ (bytesV (encU k)) (by rfl) _ _ _ (bytesV (encU xs.length ++ encL xs)) (by rfl) (by simp only [bytesV_len, List.length_append]) ho3.row (bytesV_one _) HO2.out (by rw [bytesV_len]; omega) (by omega) ?_; intro v4 w4 ho4 hg4 hs4; have hx4 : Below w1.heap.size w3 w4 := (Below.refl _ _).grown hg4 (by omega) (fun q hq => (HO2.out.lt q hq).1)))
    go_wp2
    go_ret
    refine GivesB.from H1.out (gives_b (w := w1) (by rw [HE.out, List.append_assoc, bytesV_app]; simpa using ho4) ?_)
    exact Below.trans (Ext.trans (Ext.drew (Ext.refl w1)) (Ext.trans hx2 hx3)) hx4
  · have hv' : validB num xs = false := by simpa using hv
    have HE := Lib.hid (encV_no hv')
    have HV := Lib.hid hv'
    clear hv hv'
    go_enter Try.func60, Try.ntmps60
    go_wp2_with fail
    refine (rvalid_no _ _ _ _ _ HX.out hn HV.out).mono ?_
    rintro e w1 ⟨rfl, hx1⟩
    go_wp2
    go_ret
    exact gives_b (by rw [HE.out]; exact Own.nil _ _ _) (H0.out.trans hx1)
end Go.Proofs.Ytagmocofmedmjaa
