/- For every input the statement ViewPartition returns true and leaves its arguments as they were. Conditions: none. -/
import Derived.Test.YtagmocofmedmjaaAwake3
import Derived.Test.YtagmocofmedmjaaSmall3
import Derived.Test.YtagmocofmedmjaaPlain4
import Derived.Test.YtagmocofmedmjaaRowKit
import Derived.Deep.DrawnRows
namespace Go.Proofs.Ytagmocofmedmjaa.viewPartition
open Go.RowKit
attribute [local go_sem ↓] Go.wp_at_zero Go.wp_at_succ

theorem row2s {w : World} {b off n c n' c' : Nat} {a a' : Option Addr} (h0 : w.cell? ⟨b, off, none⟩ = some (.slice a n c)) (h1 : w.cell? ⟨b, off + 1, none⟩ = some (.slice a' n' c')) : Row w (some ⟨b, off, none⟩) (slV [(a, n, c), (a', n', c')]) := by
  intro _
  refine ⟨b, off, rfl, World.block_lt_of_cell? w _ h0, fun j v hj => ?_⟩
  match j, hj with
  | 0, hj => simp [slV] at hj; subst hj; exact h0
  | 1, hj => simp [slV] at hj; subst hj; exact h1


theorem contains_b (A : Option Addr) (c : Nat) (xs : List Int) (id : Int) (w : World) (h : Row w A (ints xs)) (hn : xs.length ≤ 9223372036854775807) (b : Bool) (hb : hasB xs id = b) :
    Calls Try.prog 20 #[.slice A xs.length c, .int .i64 id] w fun e w' => e = .returned (.bool b) ∧ w = w' := by
  subst hb; exact contains_any A c xs id w h hn
theorem len_next {num : Int} {xs cut : List Int} {n : Int} {ys : List Int} (h : nextF num xs cut = (n, ys, 0)) : ys.length = (among xs cut false).length + (among cut xs false).length := by
  rw [(nextF_inv h).2.2.2.1, len_mergeL]

set_option maxRecDepth 100000 in
set_option maxHeartbeats 4000000 in
theorem walkff (num : Int) (A Ac : Option Addr) (c cc : Nat) (xs cut : List Int) (id : Int) (w : World) (hx : Row w A (ints xs)) (hc : Row w Ac (ints cut)) (hn : xs.length ≤ 9223372036854775807) (hnc : cut.length ≤ 9223372036854775807)
    (hs : smallB [(A, xs.length, c), (Ac, cut.length, cc)] = true) (hv : validB num xs = true) (hcv : idsB cut 32 = true) (hi0 : hasB xs id = false) (ho0 : hasB cut id = false) :
    Calls Try.prog 11 #[.agg #[.int .i64 num, .slice A xs.length c], .slice Ac cut.length cc, .int .i64 id] w fun e w' => e = .returned (.bool true) ∧ Ext w w' := by
  have H0 := Lib.hid (Ext.new w (.cells #[.int .i64 num, .slice A xs.length c] 36))
  have HX := Lib.hid (hx.ext H0.out); have HC := Lib.hid (hc.ext H0.out)
  have HI := Lib.hid hi0; have HO := Lib.hid ho0; have HCV := Lib.hid hcv; have HSM := Lib.hid hs; have HVV := Lib.hid hv
  clear hx hc hi0 ho0 hcv hs hv
  go_enter Try.func11, Try.ntmps11
  go_wp2_with fail
  refine (awake3_any _).mono ?_
  rintro e w1 ⟨rfl, hx1⟩
  have q0 : w1.cell? ⟨w.heap.size, 0, none⟩ = some (.int .i64 num) := by simpa using hx1.cell_new 0
  have q1 : w1.cell? ⟨w.heap.size, 1, none⟩ = some (.slice A xs.length c) := by simpa using hx1.cell_new 1
  have z1 : w.heap.size < w1.heap.size := by have := hx1.size; simp at this; omega
  have HX1 := Lib.hid (HX.out.ext hx1); have HC1 := Lib.hid (HC.out.ext hx1)
  have X1 := Lib.hid (H0.out.trans hx1)
  clear hx1 HX HC H0
  go_wp2_with fail
  have X2 := Lib.hid (Ext.new w1 (.cells #[.slice A xs.length c, .slice Ac cut.length cc] 22))
  refine (small3_any (some ⟨w1.heap.size, 0, none⟩) 2 [(A, xs.length, c), (Ac, cut.length, cc)] _ (row2s (by simp) (by simp)) (by simp)).mono ?_
  rw [HSM.out]
  rintro e w2 ⟨rfl, rfl⟩
  go_wp2_with fail
  refine (valid_yes num A c xs _ (HX1.out.ext X2.out) hn HVV.out).mono ?_
  rintro e w3 ⟨rfl, hx3⟩
  have p0 : w3.cell? ⟨w.heap.size, 0, none⟩ = some (.int .i64 num) := by rw [(X2.out.trans hx3).cell z1]; exact q0
  have p1 : w3.cell? ⟨w.heap.size, 1, none⟩ = some (.slice A xs.length c) := by rw [(X2.out.trans hx3).cell z1]; exact q1
  have z3 : w.heap.size < w3.heap.size := by have := (X2.out.trans hx3).size; omega
  have HX3 := Lib.hid (HX1.out.ext (X2.out.trans hx3)); have HC3 := Lib.hid (HC1.out.ext (X2.out.trans hx3))
  have X3 := Lib.hid (X1.out.trans (X2.out.trans hx3))
  have HV := HVV
  clear hx3 q0 q1 z1 HX1 HC1 X2 X1
  have hv := HCV.out
  go_wp2_with fail
  refine (validCut_yes _ _ _ _ HC3.out hnc hv).mono ?_
  rintro e w4 ⟨rfl, rfl⟩
  have HOK := Lib.hid (okCut_iff.2 ⟨HV.out, hv⟩)
  clear hv
  have hsv : leavers num xs cut = among cut xs true := if_pos HOK.out
  have hsj : joiners num xs cut = among cut xs false := if_pos HOK.out
  have hss : survivors num xs cut = among xs cut false := if_pos HOK.out
  have hxl : xs.length ≤ 16 := (validB_len HV.out).2
  have hcl : cut.length ≤ 32 := (idsB_len (okCut_iff.1 HOK.out).2).2
  have hp := okCut_parts HOK.out
  have HP := Lib.hid (And.intro hsv (And.intro hsj hss))
  rw [← hsv, ← hsj, ← hss] at hp
  clear hsv hsj hss
  have RX0 := Lib.hid (HX3.out.ext (Ext.drew (Ext.refl w3))); have RC0 := Lib.hid (HC3.out.ext (Ext.drew (Ext.refl w3)))
  have X4 := Lib.hid (Ext.drew (Ext.refl w3))
  go_wp2
  go_region_held3 (fun w' => w'.cell? ⟨w.heap.size, 0, none⟩ = some (.int .i64 num) ∧ w'.cell? ⟨w.heap.size, 1, none⟩ = some (.slice A xs.length c))
    (first | (go_keep; done) | (go_split_ands; (repeat' apply And.intro) <;> first | (go_keep; done) | (rw [hx3.cell (by simp only <;> omega)]; assumption) | (rw [hx2.cell (by simp only <;> omega)]; assumption) | (rw [hx1.cell (by simp <;> omega)]; assumption)))
    (first
        | (go_at_call 51; ((refine (leavers_any _ _ _ _ _ _ _ _ (by exact RX0.out) (by exact RC0.out) hn hnc).mono ?_); rintro e v1 ⟨B1, d1, rfl, hcd1, _, ho1, hx1⟩); have RX1 := Lib.hid (Row.ext (w := w3.drew) RX0.out hx1); have RC1 := Lib.hid (Row.ext (w := w3.drew) RC0.out hx1); have y1 : w.heap.size < v1.heap.size := Nat.lt_of_lt_of_le (by exact z3) hx1.size; have XE1 := Lib.hid hx1; have L1 := Lib.hid ho1.row)
        | (go_at_call 53; ((refine (joiners_any _ _ _ _ _ _ _ _ (by exact RX1.out) (by exact RC1.out) hn hnc).mono ?_); rintro e v2 ⟨B2, d2, rfl, hcd2, _, ho2, hx2⟩); have RX2 := Lib.hid (Row.ext (w := v1) RX1.out hx2); have RC2 := Lib.hid (Row.ext (w := v1) RC1.out hx2); have y2 : w.heap.size < v2.heap.size := Nat.lt_of_lt_of_le (by exact y1) hx2.size; have XE2 := Lib.hid (Ext.trans XE1.out hx2); have L2 := Lib.hid (Row.ext (w := v1) L1.out hx2); have J2 := Lib.hid ho2.row)
        | (go_at_call 55; ((refine (survivors_any _ _ _ _ _ _ _ _ (by exact RX2.out) (by exact RC2.out) hn hnc).mono ?_); rintro e v3 ⟨B3, d3, rfl, hcd3, _, ho3, hx3⟩); have RX3 := Lib.hid (Row.ext (w := v2) RX2.out hx3); have RC3 := Lib.hid (Row.ext (w := v2) RC2.out hx3); have y3 : w.heap.size < v3.heap.size := Nat.lt_of_lt_of_le (by exact y2) hx3.size; have XE3 := Lib.hid (Ext.trans XE2.out hx3); have L3 := Lib.hid (Row.ext (w := v2) L2.out hx3); have J3 := Lib.hid (Row.ext (w := v2) J2.out hx3); have S3 := Lib.hid ho3.row))
  have p0' : v3.cell? ⟨w.heap.size, 0, none⟩ = some (.int .i64 num) := by rw [(X4.out.trans XE3.out).cell z3]; exact p0
  have p1' : v3.cell? ⟨w.heap.size, 1, none⟩ = some (.slice A xs.length c) := by rw [(X4.out.trans XE3.out).cell z3]; exact p1
  have z4 : w.heap.size < v3.heap.size := by have := (X4.out.trans XE3.out).size; omega
  have X5 := Lib.hid (X3.out.trans (X4.out.trans XE3.out))
  have HL := Lib.hid (show hasB (leavers num xs cut) id = (hasB cut id && hasB xs id) by rw [HP.out.1, has_t])
  have HJ := Lib.hid (show hasB (joiners num xs cut) id = (hasB cut id && !hasB xs id) by rw [HP.out.2.1, has_f])
  have HS := Lib.hid (show hasB (survivors num xs cut) id = (hasB xs id && !hasB cut id) by rw [HP.out.2.2, has_f])
  have HNL := Lib.hid (show ∀ n ys, nextF num xs cut = (n, ys, 0) → ys.length = (survivors num xs cut).length + (joiners num xs cut).length ∧ xs.length < 2 * (survivors num xs cut).length by
    intro n ys h; rw [HP.out.2.1, HP.out.2.2]; exact ⟨len_next h, (nextF_inv h).2.2.2.2.2.2.1⟩)
  clear RX0 RC0 RX1 RC1 RX2 RC2 L1 L2 J2 XE1 XE2 XE3 hx1 hx2 hx3 ho1 ho2 ho3 y1 y2 y3 X3 X4 HX3 HC3 p0 p1 z3 HP
  generalize leavers num xs cut = l at *
  generalize joiners num xs cut = j at *
  generalize survivors num xs cut = s at *
  have g1 : ((l.length : Int) + (j.length : Int) != (cut.length : Int)) = false := by simp; omega
  have g2 : ((l.length : Int) + (s.length : Int) != (xs.length : Int)) = false := by simp; omega
  go_wp2_with fail
  refine (contains_b _ _ _ _ _ RX3.out hn _ HI.out).mono ?_
  rintro e w5 ⟨rfl, rfl⟩
  go_wp2_with fail
  refine (contains_b _ _ _ _ _ RC3.out hnc _ HO.out).mono ?_
  rintro e w5 ⟨rfl, rfl⟩
  rw [HI.out, HO.out] at HL HJ HS
  go_wp2_with fail
  refine (contains_b _ _ _ _ _ L3.out (by omega) _ HL.out).mono ?_
  rintro e w5 ⟨rfl, rfl⟩
  have fin : ∀ (n : Int) (ys : List Int), nextF num xs cut = (n, ys, 0) → hasB ys id = (false != false) := fun n ys h => by rw [has_next h, HI.out, HO.out]
  have FIN := Lib.hid fin
  clear fin
  have HL' : Hid (hasB l id = (false && false)) := HL
  go_wp2_with fail
  refine (contains_b _ _ _ _ _ J3.out (by omega) _ HJ.out).mono ?_
  rintro e w5 ⟨rfl, rfl⟩
  go_wp2_with fail
  refine (contains_b _ _ _ _ _ S3.out (by omega) _ HS.out).mono ?_
  rintro e w5 ⟨rfl, rfl⟩
  go_wp2_with fail
  refine (next_any num A Ac c cc xs cut _ RX3.out RC3.out hn hnc).mono ?_
  rintro e w6 ⟨A3, c3, rfl, hc3, hm3, ho3, hx3⟩
  have p0 : w6.cell? ⟨w.heap.size, 0, none⟩ = some (.int .i64 num) := by rw [hx3.cell z4]; exact p0'
  have p1 : w6.cell? ⟨w.heap.size, 1, none⟩ = some (.slice A xs.length c) := by rw [hx3.cell z4]; exact p1'
  have z6 : w.heap.size < w6.heap.size := by have := hx3.size; omega
  have X6 := Lib.hid (X5.out.trans hx3)
  have HR6 := Lib.hid ho3.row
  clear hx3 p0' p1' z4 RX3 RC3 X5 ho3
  generalize hN : nextF num xs cut = r at *
  obtain ⟨n', ys, er⟩ := r
  simp only at *
  by_cases he : er = 0
  · subst he
    have HN := Lib.hid hN
    clear hN
    have hinv := nextF_inv HN.out
    have hyl : ys.length ≤ 16 := (validB_len hinv.2.2.2.2.2.2.2.2).2
    have hnum : 0 ≤ num ∧ num < 1099511627776 := ⟨(validB_num (okCut_iff.1 hinv.1).1).1, hinv.2.2.1⟩
    have HLN := Lib.hid (HNL.out n' ys rfl)
    have HF := Lib.hid (FIN.out n' ys rfl)
    have g3 : (n' == num + 1) = true := by simpa using hinv.2.1
    have g4 : ((ys.length : Int) == (s.length : Int) + (j.length : Int)) = true := by have := HLN.out.1; simp; omega
    have hvy := hinv.2.2.2.2.2.2.2.2
    clear hinv
    go_wp2_with fail
    have X7 := Lib.hid (Ext.new w6 (.cells #[.int .i64 n', .slice A3 ys.length c3] 36))
    refine (valid_yes n' A3 c3 ys _ (HR6.out.ext X7.out) (by omega) hvy).mono ?_
    rintro e w8 ⟨rfl, hx8⟩
    have q0 : w8.cell? ⟨w.heap.size, 0, none⟩ = some (.int .i64 num) := by rw [(X7.out.trans hx8).cell z6]; exact p0
    have q1 : w8.cell? ⟨w.heap.size, 1, none⟩ = some (.slice A xs.length c) := by rw [(X7.out.trans hx8).cell z6]; exact p1
    have q2 : w8.cell? ⟨w6.heap.size, 0, none⟩ = some (.int .i64 n') := by simpa using hx8.cell_new 0
    have q3 : w8.cell? ⟨w6.heap.size, 1, none⟩ = some (.slice A3 ys.length c3) := by simpa using hx8.cell_new 1
    have HR8 := Lib.hid (HR6.out.ext (X7.out.trans hx8))
    have X8 := Lib.hid (X6.out.trans (X7.out.trans hx8))
    clear hx8 p0 p1 z6 HR6 X6 X7 hvy
    go_wp2_with fail
    refine (contains_b _ _ _ _ _ HR8.out (by omega) _ HF.out).mono ?_
    rintro e w9 ⟨rfl, rfl⟩
    have hl2 := HLN.out.2
    go_wp2
    go_ret
    exact ⟨by simp <;> omega, X8.out⟩
  · have hE := nextF_err (num := num) (xs := xs) (cut := cut) (by rw [hN]; exact he)
    rw [hN] at hE
    simp only at hE
    obtain ⟨rfl, rfl⟩ := hE
    have he' : (er != 0) = true := by simpa using he
    clear hN HNL FIN
    go_wp2
    go_ret
    exact ⟨rfl, X6.out.alloc _⟩

set_option maxRecDepth 100000 in
set_option maxHeartbeats 4000000 in
theorem walkft (num : Int) (A Ac : Option Addr) (c cc : Nat) (xs cut : List Int) (id : Int) (w : World) (hx : Row w A (ints xs)) (hc : Row w Ac (ints cut)) (hn : xs.length ≤ 9223372036854775807) (hnc : cut.length ≤ 9223372036854775807)
    (hs : smallB [(A, xs.length, c), (Ac, cut.length, cc)] = true) (hv : validB num xs = true) (hcv : idsB cut 32 = true) (hi0 : hasB xs id = false) (ho0 : hasB cut id = true) :
    Calls Try.prog 11 #[.agg #[.int .i64 num, .slice A xs.length c], .slice Ac cut.length cc, .int .i64 id] w fun e w' => e = .returned (.bool true) ∧ Ext w w' := by
  have H0 := Lib.hid (Ext.new w (.cells #[.int .i64 num, .slice A xs.length c] 36))
  have HX := Lib.hid (hx.ext H0.out); have HC := Lib.hid (hc.ext H0.out)
  have HI := Lib.hid hi0; have HO := Lib.hid ho0; have HCV := Lib.hid hcv; have HSM := Lib.hid hs; have HVV := Lib.hid hv
  clear hx hc hi0 ho0 hcv hs hv
  go_enter Try.func11, Try.ntmps11
  go_wp2_with fail
  refine (awake3_any _).mono ?_
  rintro e w1 ⟨rfl, hx1⟩
  have q0 : w1.cell? ⟨w.heap.size, 0, none⟩ = some (.int .i64 num) := by simpa using hx1.cell_new 0
  have q1 : w1.cell? ⟨w.heap.size, 1, none⟩ = some (.slice A xs.length c) := by simpa using hx1.cell_new 1
  have z1 : w.heap.size < w1.heap.size := by have := hx1.size; simp at this; omega
  have HX1 := Lib.hid (HX.out.ext hx1); have HC1 := Lib.hid (HC.out.ext hx1)
  have X1 := Lib.hid (H0.out.trans hx1)
  clear hx1 HX HC H0
  go_wp2_with fail
  have X2 := Lib.hid (Ext.new w1 (.cells #[.slice A xs.length c, .slice Ac cut.length cc] 22))
  refine (small3_any (some ⟨w1.heap.size, 0, none⟩) 2 [(A, xs.length, c), (Ac, cut.length, cc)] _ (row2s (by simp) (by simp)) (by simp)).mono ?_
  rw [HSM.out]
  rintro e w2 ⟨rfl, rfl⟩
  go_wp2_with fail
  refine (valid_yes num A c xs _ (HX1.out.ext X2.out) hn HVV.out).mono ?_
  rintro e w3 ⟨rfl, hx3⟩
  have p0 : w3.cell? ⟨w.heap.size, 0, none⟩ = some (.int .i64 num) := by rw [(X2.out.trans hx3).cell z1]; exact q0
  have p1 : w3.cell? ⟨w.heap.size, 1, none⟩ = some (.slice A xs.length c) := by rw [(X2.out.trans hx3).cell z1]; exact q1
  have z3 : w.heap.size < w3.heap.size := by have := (X2.out.trans hx3).size; omega
  have HX3 := Lib.hid (HX1.out.ext (X2.out.trans hx3)); have HC3 := Lib.hid (HC1.out.ext (X2.out.trans hx3))
  have X3 := Lib.hid (X1.out.trans (X2.out.trans hx3))
  have HV := HVV
  clear hx3 q0 q1 z1 HX1 HC1 X2 X1
  have hv := HCV.out
  go_wp2_with fail
  refine (validCut_yes _ _ _ _ HC3.out hnc hv).mono ?_
  rintro e w4 ⟨rfl, rfl⟩
  have HOK := Lib.hid (okCut_iff.2 ⟨HV.out, hv⟩)
  clear hv
  have hsv : leavers num xs cut = among cut xs true := if_pos HOK.out
  have hsj : joiners num xs cut = among cut xs false := if_pos HOK.out
  have hss : survivors num xs cut = among xs cut false := if_pos HOK.out
  have hxl : xs.length ≤ 16 := (validB_len HV.out).2
  have hcl : cut.length ≤ 32 := (idsB_len (okCut_iff.1 HOK.out).2).2
  have hp := okCut_parts HOK.out
  have HP := Lib.hid (And.intro hsv (And.intro hsj hss))
  rw [← hsv, ← hsj, ← hss] at hp
  clear hsv hsj hss
  have RX0 := Lib.hid (HX3.out.ext (Ext.drew (Ext.refl w3))); have RC0 := Lib.hid (HC3.out.ext (Ext.drew (Ext.refl w3)))
  have X4 := Lib.hid (Ext.drew (Ext.refl w3))
  go_wp2
  go_region_held3 (fun w' => w'.cell? ⟨w.heap.size, 0, none⟩ = some (.int .i64 num) ∧ w'.cell? ⟨w.heap.size, 1, none⟩ = some (.slice A xs.length c))
    (first | (go_keep; done) | (go_split_ands; (repeat' apply And.intro) <;> first | (go_keep; done) | (rw [hx3.cell (by simp only <;> omega)]; assumption) | (rw [hx2.cell (by simp only <;> omega)]; assumption) | (rw [hx1.cell (by simp <;> omega)]; assumption)))
    (first
        | (go_at_call 51; ((refine (leavers_any _ _ _ _ _ _ _ _ (by exact RX0.out) (by exact RC0.out) hn hnc).mono ?_); rintro e v1 ⟨B1, d1, rfl, hcd1, _, ho1, hx1⟩); have RX1 := Lib.hid (Row.ext (w := w3.drew) RX0.out hx1); have RC1 := Lib.hid (Row.ext (w := w3.drew) RC0.out hx1); have y1 : w.heap.size < v1.heap.size := Nat.lt_of_lt_of_le (by exact z3) hx1.size; have XE1 := Lib.hid hx1; have L1 := Lib.hid ho1.row)
        | (go_at_call 53; ((refine (joiners_any _ _ _ _ _ _ _ _ (by exact RX1.out) (by exact RC1.out) hn hnc).mono ?_); rintro e v2 ⟨B2, d2, rfl, hcd2, _, ho2, hx2⟩); have RX2 := Lib.hid (Row.ext (w := v1) RX1.out hx2); have RC2 := Lib.hid (Row.ext (w := v1) RC1.out hx2); have y2 : w.heap.size < v2.heap.size := Nat.lt_of_lt_of_le (by exact y1) hx2.size; have XE2 := Lib.hid (Ext.trans XE1.out hx2); have L2 := Lib.hid (Row.ext (w := v1) L1.out hx2); have J2 := Lib.hid ho2.row)
        | (go_at_call 55; ((refine (survivors_any _ _ _ _ _ _ _ _ (by exact RX2.out) (by exact RC2.out) hn hnc).mono ?_); rintro e v3 ⟨B3, d3, rfl, hcd3, _, ho3, hx3⟩); have RX3 := Lib.hid (Row.ext (w := v2) RX2.out hx3); have RC3 := Lib.hid (Row.ext (w := v2) RC2.out hx3); have y3 : w.heap.size < v3.heap.size := Nat.lt_of_lt_of_le (by exact y2) hx3.size; have XE3 := Lib.hid (Ext.trans XE2.out hx3); have L3 := Lib.hid (Row.ext (w := v2) L2.out hx3); have J3 := Lib.hid (Row.ext (w := v2) J2.out hx3); have S3 := Lib.hid ho3.row))
  have p0' : v3.cell? ⟨w.heap.size, 0, none⟩ = some (.int .i64 num) := by rw [(X4.out.trans XE3.out).cell z3]; exact p0
  have p1' : v3.cell? ⟨w.heap.size, 1, none⟩ = some (.slice A xs.length c) := by rw [(X4.out.trans XE3.out).cell z3]; exact p1
  have z4 : w.heap.size < v3.heap.size := by have := (X4.out.trans XE3.out).size; omega
  have X5 := Lib.hid (X3.out.trans (X4.out.trans XE3.out))
  have HL := Lib.hid (show hasB (leavers num xs cut) id = (hasB cut id && hasB xs id) by rw [HP.out.1, has_t])
  have HJ := Lib.hid (show hasB (joiners num xs cut) id = (hasB cut id && !hasB xs id) by rw [HP.out.2.1, has_f])
  have HS := Lib.hid (show hasB (survivors num xs cut) id = (hasB xs id && !hasB cut id) by rw [HP.out.2.2, has_f])
  have HNL := Lib.hid (show ∀ n ys, nextF num xs cut = (n, ys, 0) → ys.length = (survivors num xs cut).length + (joiners num xs cut).length ∧ xs.length < 2 * (survivors num xs cut).length by
    intro n ys h; rw [HP.out.2.1, HP.out.2.2]; exact ⟨len_next h, (nextF_inv h).2.2.2.2.2.2.1⟩)
  clear RX0 RC0 RX1 RC1 RX2 RC2 L1 L2 J2 XE1 XE2 XE3 hx1 hx2 hx3 ho1 ho2 ho3 y1 y2 y3 X3 X4 HX3 HC3 p0 p1 z3 HP
  generalize leavers num xs cut = l at *
  generalize joiners num xs cut = j at *
  generalize survivors num xs cut = s at *
  have g1 : ((l.length : Int) + (j.length : Int) != (cut.length : Int)) = false := by simp; omega
  have g2 : ((l.length : Int) + (s.length : Int) != (xs.length : Int)) = false := by simp; omega
  go_wp2_with fail
  refine (contains_b _ _ _ _ _ RX3.out hn _ HI.out).mono ?_
  rintro e w5 ⟨rfl, rfl⟩
  go_wp2_with fail
  refine (contains_b _ _ _ _ _ RC3.out hnc _ HO.out).mono ?_
  rintro e w5 ⟨rfl, rfl⟩
  rw [HI.out, HO.out] at HL HJ HS
  go_wp2_with fail
  refine (contains_b _ _ _ _ _ L3.out (by omega) _ HL.out).mono ?_
  rintro e w5 ⟨rfl, rfl⟩
  have fin : ∀ (n : Int) (ys : List Int), nextF num xs cut = (n, ys, 0) → hasB ys id = (false != true) := fun n ys h => by rw [has_next h, HI.out, HO.out]
  have FIN := Lib.hid fin
  clear fin
  have HL' : Hid (hasB l id = (true && false)) := HL
  go_wp2_with fail
  refine (contains_b _ _ _ _ _ J3.out (by omega) _ HJ.out).mono ?_
  rintro e w5 ⟨rfl, rfl⟩
  go_wp2_with fail
  refine (contains_b _ _ _ _ _ S3.out (by omega) _ HS.out).mono ?_
  rintro e w5 ⟨rfl, rfl⟩
  go_wp2_with fail
  refine (next_any num A Ac c cc xs cut _ RX3.out RC3.out hn hnc).mono ?_
  rintro e w6 ⟨A3, c3, rfl, hc3, hm3, ho3, hx3⟩
  have p0 : w6.cell? ⟨w.heap.size, 0, none⟩ = some (.int .i64 num) := by rw [hx3.cell z4]; exact p0'
  have p1 : w6.cell? ⟨w.heap.size, 1, none⟩ = some (.slice A xs.length c) := by rw [hx3.cell z4]; exact p1'
  have z6 : w.heap.size < w6.heap.size := by have := hx3.size; omega
  have X6 := Lib.hid (X5.out.trans hx3)
  have HR6 := Lib.hid ho3.row
  clear hx3 p0' p1' z4 RX3 RC3 X5 ho3
  generalize hN : nextF num xs cut = r at *
  obtain ⟨n', ys, er⟩ := r
  simp only at *
  by_cases he : er = 0
  · subst he
    have HN := Lib.hid hN
    clear hN
    have hinv := nextF_inv HN.out
    have hyl : ys.length ≤ 16 := (validB_len hinv.2.2.2.2.2.2.2.2).2
    have hnum : 0 ≤ num ∧ num < 1099511627776 := ⟨(validB_num (okCut_iff.1 hinv.1).1).1, hinv.2.2.1⟩
    have HLN := Lib.hid (HNL.out n' ys rfl)
    have HF := Lib.hid (FIN.out n' ys rfl)
    have g3 : (n' == num + 1) = true := by simpa using hinv.2.1
    have g4 : ((ys.length : Int) == (s.length : Int) + (j.length : Int)) = true := by have := HLN.out.1; simp; omega
    have hvy := hinv.2.2.2.2.2.2.2.2
    clear hinv
    go_wp2_with fail
    have X7 := Lib.hid (Ext.new w6 (.cells #[.int .i64 n', .slice A3 ys.length c3] 36))
    refine (valid_yes n' A3 c3 ys _ (HR6.out.ext X7.out) (by omega) hvy).mono ?_
    rintro e w8 ⟨rfl, hx8⟩
    have q0 : w8.cell? ⟨w.heap.size, 0, none⟩ = some (.int .i64 num) := by rw [(X7.out.trans hx8).cell z6]; exact p0
    have q1 : w8.cell? ⟨w.heap.size, 1, none⟩ = some (.slice A xs.length c) := by rw [(X7.out.trans hx8).cell z6]; exact p1
    have q2 : w8.cell? ⟨w6.heap.size, 0, none⟩ = some (.int .i64 n') := by simpa using hx8.cell_new 0
    have q3 : w8.cell? ⟨w6.heap.size, 1, none⟩ = some (.slice A3 ys.length c3) := by simpa using hx8.cell_new 1
    have HR8 := Lib.hid (HR6.out.ext (X7.out.trans hx8))
    have X8 := Lib.hid (X6.out.trans (X7.out.trans hx8))
    clear hx8 p0 p1 z6 HR6 X6 X7 hvy
    go_wp2_with fail
    refine (contains_b _ _ _ _ _ HR8.out (by omega) _ HF.out).mono ?_
    rintro e w9 ⟨rfl, rfl⟩
    have hl2 := HLN.out.2
    go_wp2
    go_ret
    exact ⟨by simp <;> omega, X8.out⟩
  · have hE := nextF_err (num := num) (xs := xs) (cut := cut) (by rw [hN]; exact he)
    rw [hN] at hE
    simp only at hE
    obtain ⟨rfl, rfl⟩ := hE
    have he' : (er != 0) = true := by simpa using he
    clear hN HNL FIN
    go_wp2
    go_ret
    exact ⟨rfl, X6.out.alloc _⟩

set_option maxRecDepth 100000 in
set_option maxHeartbeats 4000000 in
theorem walktf (num : Int) (A Ac : Option Addr) (c cc : Nat) (xs cut : List Int) (id : Int) (w : World) (hx : Row w A (ints xs)) (hc : Row w Ac (ints cut)) (hn : xs.length ≤ 9223372036854775807) (hnc : cut.length ≤ 9223372036854775807)
    (hs : smallB [(A, xs.length, c), (Ac, cut.length, cc)] = true) (hv : validB num xs = true) (hcv : idsB cut 32 = true) (hi0 : hasB xs id = true) (ho0 : hasB cut id = false) :
    Calls Try.prog 11 #[.agg #[.int .i64 num, .slice A xs.length c], .slice Ac cut.length cc, .int .i64 id] w fun e w' => e = .returned (.bool true) ∧ Ext w w' := by
  have H0 := Lib.hid (Ext.new w (.cells #[.int .i64 num, .slice A xs.length c] 36))
  have HX := Lib.hid (hx.ext H0.out); have HC := Lib.hid (hc.ext H0.out)
  have HI := Lib.hid hi0; have HO := Lib.hid ho0; have HCV := Lib.hid hcv; have HSM := Lib.hid hs; have HVV := Lib.hid hv
  clear hx hc hi0 ho0 hcv hs hv
  go_enter Try.func11, Try.ntmps11
  go_wp2_with fail
  refine (awake3_any _).mono ?_
  rintro e w1 ⟨rfl, hx1⟩
  have q0 : w1.cell? ⟨w.heap.size, 0, none⟩ = some (.int .i64 num) := by simpa using hx1.cell_new 0
  have q1 : w1.cell? ⟨w.heap.size, 1, none⟩ = some (.slice A xs.length c) := by simpa using hx1.cell_new 1
  have z1 : w.heap.size < w1.heap.size := by have := hx1.size; simp at this; omega
  have HX1 := Lib.hid (HX.out.ext hx1); have HC1 := Lib.hid (HC.out.ext hx1)
  have X1 := Lib.hid (H0.out.trans hx1)
  clear hx1 HX HC H0
  go_wp2_with fail
  have X2 := Lib.hid (Ext.new w1 (.cells #[.slice A xs.length c, .slice Ac cut.length cc] 22))
  refine (small3_any (some ⟨w1.heap.size, 0, none⟩) 2 [(A, xs.length, c), (Ac, cut.length, cc)] _ (row2s (by simp) (by simp)) (by simp)).mono ?_
  rw [HSM.out]
  rintro e w2 ⟨rfl, rfl⟩
  go_wp2_with fail
  refine (valid_yes num A c xs _ (HX1.out.ext X2.out) hn HVV.out).mono ?_
  rintro e w3 ⟨rfl, hx3⟩
  have p0 : w3.cell? ⟨w.heap.size, 0, none⟩ = some (.int .i64 num) := by rw [(X2.out.trans hx3).cell z1]; exact q0
  have p1 : w3.cell? ⟨w.heap.size, 1, none⟩ = some (.slice A xs.length c) := by rw [(X2.out.trans hx3).cell z1]; exact q1
  have z3 : w.heap.size < w3.heap.size := by have := (X2.out.trans hx3).size; omega
  have HX3 := Lib.hid (HX1.out.ext (X2.out.trans hx3)); have HC3 := Lib.hid (HC1.out.ext (X2.out.trans hx3))
  have X3 := Lib.hid (X1.out.trans (X2.out.trans hx3))
  have HV := HVV
  clear hx3 q0 q1 z1 HX1 HC1 X2 X1
  have hv := HCV.out
  go_wp2_with fail
  refine (validCut_yes _ _ _ _ HC3.out hnc hv).mono ?_
  rintro e w4 ⟨rfl, rfl⟩
  have HOK := Lib.hid (okCut_iff.2 ⟨HV.out, hv⟩)
  clear hv
  have hsv : leavers num xs cut = among cut xs true := if_pos HOK.out
  have hsj : joiners num xs cut = among cut xs false := if_pos HOK.out
  have hss : survivors num xs cut = among xs cut false := if_pos HOK.out
  have hxl : xs.length ≤ 16 := (validB_len HV.out).2
  have hcl : cut.length ≤ 32 := (idsB_len (okCut_iff.1 HOK.out).2).2
  have hp := okCut_parts HOK.out
  have HP := Lib.hid (And.intro hsv (And.intro hsj hss))
  rw [← hsv, ← hsj, ← hss] at hp
  clear hsv hsj hss
  have RX0 := Lib.hid (HX3.out.ext (Ext.drew (Ext.refl w3))); have RC0 := Lib.hid (HC3.out.ext (Ext.drew (Ext.refl w3)))
  have X4 := Lib.hid (Ext.drew (Ext.refl w3))
  go_wp2
  go_region_held3 (fun w' => w'.cell? ⟨w.heap.size, 0, none⟩ = some (.int .i64 num) ∧ w'.cell? ⟨w.heap.size, 1, none⟩ = some (.slice A xs.length c))
    (first | (go_keep; done) | (go_split_ands; (repeat' apply And.intro) <;> first | (go_keep; done) | (rw [hx3.cell (by simp only <;> omega)]; assumption) | (rw [hx2.cell (by simp only <;> omega)]; assumption) | (rw [hx1.cell (by simp <;> omega)]; assumption)))
    (first
        | (go_at_call 51; ((refine (leavers_any _ _ _ _ _ _ _ _ (by exact RX0.out) (by exact RC0.out) hn hnc).mono ?_); rintro e v1 ⟨B1, d1, rfl, hcd1, _, ho1, hx1⟩); have RX1 := Lib.hid (Row.ext (w := w3.drew) RX0.out hx1); have RC1 := Lib.hid (Row.ext (w := w3.drew) RC0.out hx1); have y1 : w.heap.size < v1.heap.size := Nat.lt_of_lt_of_le (by exact z3) hx1.size; have XE1 := Lib.hid hx1; have L1 := Lib.hid ho1.row)
        | (go_at_call 53; ((refine (joiners_any _ _ _ _ _ _ _ _ (by exact RX1.out) (by exact RC1.out) hn hnc).mono ?_); rintro e v2 ⟨B2, d2, rfl, hcd2, _, ho2, hx2⟩); have RX2 := Lib.hid (Row.ext (w := v1) RX1.out hx2); have RC2 := Lib.hid (Row.ext (w := v1) RC1.out hx2); have y2 : w.heap.size < v2.heap.size := Nat.lt_of_lt_of_le (by exact y1) hx2.size; have XE2 := Lib.hid (Ext.trans XE1.out hx2); have L2 := Lib.hid (Row.ext (w := v1) L1.out hx2); have J2 := Lib.hid ho2.row)
        | (go_at_call 55; ((refine (survivors_any _ _ _ _ _ _ _ _ (by exact RX2.out) (by exact RC2.out) hn hnc).mono ?_); rintro e v3 ⟨B3, d3, rfl, hcd3, _, ho3, hx3⟩); have RX3 := Lib.hid (Row.ext (w := v2) RX2.out hx3); have RC3 := Lib.hid (Row.ext (w := v2) RC2.out hx3); have y3 : w.heap.size < v3.heap.size := Nat.lt_of_lt_of_le (by exact y2) hx3.size; have XE3 := Lib.hid (Ext.trans XE2.out hx3); have L3 := Lib.hid (Row.ext (w := v2) L2.out hx3); have J3 := Lib.hid (Row.ext (w := v2) J2.out hx3); have S3 := Lib.hid ho3.row))
  have p0' : v3.cell? ⟨w.heap.size, 0, none⟩ = some (.int .i64 num) := by rw [(X4.out.trans XE3.out).cell z3]; exact p0
  have p1' : v3.cell? ⟨w.heap.size, 1, none⟩ = some (.slice A xs.length c) := by rw [(X4.out.trans XE3.out).cell z3]; exact p1
  have z4 : w.heap.size < v3.heap.size := by have := (X4.out.trans XE3.out).size; omega
  have X5 := Lib.hid (X3.out.trans (X4.out.trans XE3.out))
  have HL := Lib.hid (show hasB (leavers num xs cut) id = (hasB cut id && hasB xs id) by rw [HP.out.1, has_t])
  have HJ := Lib.hid (show hasB (joiners num xs cut) id = (hasB cut id && !hasB xs id) by rw [HP.out.2.1, has_f])
  have HS := Lib.hid (show hasB (survivors num xs cut) id = (hasB xs id && !hasB cut id) by rw [HP.out.2.2, has_f])
  have HNL := Lib.hid (show ∀ n ys, nextF num xs cut = (n, ys, 0) → ys.length = (survivors num xs cut).length + (joiners num xs cut).length ∧ xs.length < 2 * (survivors num xs cut).length by
    intro n ys h; rw [HP.out.2.1, HP.out.2.2]; exact ⟨len_next h, (nextF_inv h).2.2.2.2.2.2.1⟩)
  clear RX0 RC0 RX1 RC1 RX2 RC2 L1 L2 J2 XE1 XE2 XE3 hx1 hx2 hx3 ho1 ho2 ho3 y1 y2 y3 X3 X4 HX3 HC3 p0 p1 z3 HP
  generalize leavers num xs cut = l at *
  generalize joiners num xs cut = j at *
  generalize survivors num xs cut = s at *
  have g1 : ((l.length : Int) + (j.length : Int) != (cut.length : Int)) = false := by simp; omega
  have g2 : ((l.length : Int) + (s.length : Int) != (xs.length : Int)) = false := by simp; omega
  go_wp2_with fail
  refine (contains_b _ _ _ _ _ RX3.out hn _ HI.out).mono ?_
  rintro e w5 ⟨rfl, rfl⟩
  go_wp2_with fail
  refine (contains_b _ _ _ _ _ RC3.out hnc _ HO.out).mono ?_
  rintro e w5 ⟨rfl, rfl⟩
  rw [HI.out, HO.out] at HL HJ HS
  go_wp2_with fail
  refine (contains_b _ _ _ _ _ L3.out (by omega) _ HL.out).mono ?_
  rintro e w5 ⟨rfl, rfl⟩
  have fin : ∀ (n : Int) (ys : List Int), nextF num xs cut = (n, ys, 0) → hasB ys id = (true != false) := fun n ys h => by rw [has_next h, HI.out, HO.out]
  have FIN := Lib.hid fin
  clear fin
  have HL' : Hid (hasB l id = (false && true)) := HL
  go_wp2_with fail
  refine (contains_b _ _ _ _ _ J3.out (by omega) _ HJ.out).mono ?_
  rintro e w5 ⟨rfl, rfl⟩
  go_wp2_with fail
  refine (contains_b _ _ _ _ _ S3.out (by omega) _ HS.out).mono ?_
  rintro e w5 ⟨rfl, rfl⟩
  go_wp2_with fail
  refine (next_any num A Ac c cc xs cut _ RX3.out RC3.out hn hnc).mono ?_
  rintro e w6 ⟨A3, c3, rfl, hc3, hm3, ho3, hx3⟩
  have p0 : w6.cell? ⟨w.heap.size, 0, none⟩ = some (.int .i64 num) := by rw [hx3.cell z4]; exact p0'
  have p1 : w6.cell? ⟨w.heap.size, 1, none⟩ = some (.slice A xs.length c) := by rw [hx3.cell z4]; exact p1'
  have z6 : w.heap.size < w6.heap.size := by have := hx3.size; omega
  have X6 := Lib.hid (X5.out.trans hx3)
  have HR6 := Lib.hid ho3.row
  clear hx3 p0' p1' z4 RX3 RC3 X5 ho3
  generalize hN : nextF num xs cut = r at *
  obtain ⟨n', ys, er⟩ := r
  simp only at *
  by_cases he : er = 0
  · subst he
    have HN := Lib.hid hN
    clear hN
    have hinv := nextF_inv HN.out
    have hyl : ys.length ≤ 16 := (validB_len hinv.2.2.2.2.2.2.2.2).2
    have hnum : 0 ≤ num ∧ num < 1099511627776 := ⟨(validB_num (okCut_iff.1 hinv.1).1).1, hinv.2.2.1⟩
    have HLN := Lib.hid (HNL.out n' ys rfl)
    have HF := Lib.hid (FIN.out n' ys rfl)
    have g3 : (n' == num + 1) = true := by simpa using hinv.2.1
    have g4 : ((ys.length : Int) == (s.length : Int) + (j.length : Int)) = true := by have := HLN.out.1; simp; omega
    have hvy := hinv.2.2.2.2.2.2.2.2
    clear hinv
    go_wp2_with fail
    have X7 := Lib.hid (Ext.new w6 (.cells #[.int .i64 n', .slice A3 ys.length c3] 36))
    refine (valid_yes n' A3 c3 ys _ (HR6.out.ext X7.out) (by omega) hvy).mono ?_
    rintro e w8 ⟨rfl, hx8⟩
    have q0 : w8.cell? ⟨w.heap.size, 0, none⟩ = some (.int .i64 num) := by rw [(X7.out.trans hx8).cell z6]; exact p0
    have q1 : w8.cell? ⟨w.heap.size, 1, none⟩ = some (.slice A xs.length c) := by rw [(X7.out.trans hx8).cell z6]; exact p1
    have q2 : w8.cell? ⟨w6.heap.size, 0, none⟩ = some (.int .i64 n') := by simpa using hx8.cell_new 0
    have q3 : w8.cell? ⟨w6.heap.size, 1, none⟩ = some (.slice A3 ys.length c3) := by simpa using hx8.cell_new 1
    have HR8 := Lib.hid (HR6.out.ext (X7.out.trans hx8))
    have X8 := Lib.hid (X6.out.trans (X7.out.trans hx8))
    clear hx8 p0 p1 z6 HR6 X6 X7 hvy
    go_wp2_with fail
    refine (contains_b _ _ _ _ _ HR8.out (by omega) _ HF.out).mono ?_
    rintro e w9 ⟨rfl, rfl⟩
    have hl2 := HLN.out.2
    go_wp2
    go_ret
    exact ⟨by simp <;> omega, X8.out⟩
  · have hE := nextF_err (num := num) (xs := xs) (cut := cut) (by rw [hN]; exact he)
    rw [hN] at hE
    simp only at hE
    obtain ⟨rfl, rfl⟩ := hE
    have he' : (er != 0) = true := by simpa using he
    clear hN HNL FIN
    go_wp2
    go_ret
    exact ⟨rfl, X6.out.alloc _⟩

set_option maxRecDepth 100000 in
set_option maxHeartbeats 4000000 in
theorem walktt (num : Int) (A Ac : Option Addr) (c cc : Nat) (xs cut : List Int) (id : Int) (w : World) (hx : Row w A (ints xs)) (hc : Row w Ac (ints cut)) (hn : xs.length ≤ 9223372036854775807) (hnc : cut.length ≤ 9223372036854775807)
    (hs : smallB [(A, xs.length, c), (Ac, cut.length, cc)] = true) (hv : validB num xs = true) (hcv : idsB cut 32 = true) (hi0 : hasB xs id = true) (ho0 : hasB cut id = true) :
    Calls Try.prog 11 #[.agg #[.int .i64 num, .slice A xs.length c], .slice Ac cut.length cc, .int .i64 id] w fun e w' => e = .returned (.bool true) ∧ Ext w w' := by
  have H0 := Lib.hid (Ext.new w (.cells #[.int .i64 num, .slice A xs.length c] 36))
  have HX := Lib.hid (hx.ext H0.out); have HC := Lib.hid (hc.ext H0.out)
  have HI := Lib.hid hi0; have HO := Lib.hid ho0; have HCV := Lib.hid hcv; have HSM := Lib.hid hs; have HVV := Lib.hid hv
  clear hx hc hi0 ho0 hcv hs hv
  go_enter Try.func11, Try.ntmps11
  go_wp2_with fail
  refine (awake3_any _).mono ?_
  rintro e w1 ⟨rfl, hx1⟩
  have q0 : w1.cell? ⟨w.heap.size, 0, none⟩ = some (.int .i64 num) := by simpa using hx1.cell_new 0
  have q1 : w1.cell? ⟨w.heap.size, 1, none⟩ = some (.slice A xs.length c) := by simpa using hx1.cell_new 1
  have z1 : w.heap.size < w1.heap.size := by have := hx1.size; simp at this; omega
  have HX1 := Lib.hid (HX.out.ext hx1); have HC1 := Lib.hid (HC.out.ext hx1)
  have X1 := Lib.hid (H0.out.trans hx1)
  clear hx1 HX HC H0
  go_wp2_with fail
  have X2 := Lib.hid (Ext.new w1 (.cells #[.slice A xs.length c, .slice Ac cut.length cc] 22))
  refine (small3_any (some ⟨w1.heap.size, 0, none⟩) 2 [(A, xs.length, c), (Ac, cut.length, cc)] _ (row2s (by simp) (by simp)) (by simp)).mono ?_
  rw [HSM.out]
  rintro e w2 ⟨rfl, rfl⟩
  go_wp2_with fail
  refine (valid_yes num A c xs _ (HX1.out.ext X2.out) hn HVV.out).mono ?_
  rintro e w3 ⟨rfl, hx3⟩
  have p0 : w3.cell? ⟨w.heap.size, 0, none⟩ = some (.int .i64 num) := by rw [(X2.out.trans hx3).cell z1]; exact q0
  have p1 : w3.cell? ⟨w.heap.size, 1, none⟩ = some (.slice A xs.length c) := by rw [(X2.out.trans hx3).cell z1]; exact q1
  have z3 : w.heap.size < w3.heap.size := by have := (X2.out.trans hx3).size; omega
  have HX3 := Lib.hid (HX1.out.ext (X2.out.trans hx3)); have HC3 := Lib.hid (HC1.out.ext (X2.out.trans hx3))
  have X3 := Lib.hid (X1.out.trans (X2.out.trans hx3))
  have HV := HVV
  clear hx3 q0 q1 z1 HX1 HC1 X2 X1
  have hv := HCV.out
  go_wp2_with fail
  refine (validCut_yes _ _ _ _ HC3.out hnc hv).mono ?_
  rintro e w4 ⟨rfl, rfl⟩
  have HOK := Lib.hid (okCut_iff.2 ⟨HV.out, hv⟩)
  clear hv
  have hsv : leavers num xs cut = among cut xs true := if_pos HOK.out
  have hsj : joiners num xs cut = among cut xs false := if_pos HOK.out
  have hss : survivors num xs cut = among xs cut false := if_pos HOK.out
  have hxl : xs.length ≤ 16 := (validB_len HV.out).2
  have hcl : cut.length ≤ 32 := (idsB_len (okCut_iff.1 HOK.out).2).2
  have hp := okCut_parts HOK.out
  have HP := Lib.hid (And.intro hsv (And.intro hsj hss))
  rw [← hsv, ← hsj, ← hss] at hp
  clear hsv hsj hss
  have RX0 := Lib.hid (HX3.out.ext (Ext.drew (Ext.refl w3))); have RC0 := Lib.hid (HC3.out.ext (Ext.drew (Ext.refl w3)))
  have X4 := Lib.hid (Ext.drew (Ext.refl w3))
  go_wp2
  go_region_held3 (fun w' => w'.cell? ⟨w.heap.size, 0, none⟩ = some (.int .i64 num) ∧ w'.cell? ⟨w.heap.size, 1, none⟩ = some (.slice A xs.length c))
    (first | (go_keep; done) | (go_split_ands; (repeat' apply And.intro) <;> first | (go_keep; done) | (rw [hx3.cell (by simp only <;> omega)]; assumption) | (rw [hx2.cell (by simp only <;> omega)]; assumption) | (rw [hx1.cell (by simp <;> omega)]; assumption)))
    (first
        | (go_at_call 51; ((refine (leavers_any _ _ _ _ _ _ _ _ (by exact RX0.out) (by exact RC0.out) hn hnc).mono ?_); rintro e v1 ⟨B1, d1, rfl, hcd1, _, ho1, hx1⟩); have RX1 := Lib.hid (Row.ext (w := w3.drew) RX0.out hx1); have RC1 := Lib.hid (Row.ext (w := w3.drew) RC0.out hx1); have y1 : w.heap.size < v1.heap.size := Nat.lt_of_lt_of_le (by exact z3) hx1.size; have XE1 := Lib.hid hx1; have L1 := Lib.hid ho1.row)
        | (go_at_call 53; ((refine (joiners_any _ _ _ _ _ _ _ _ (by exact RX1.out) (by exact RC1.out) hn hnc).mono ?_); rintro e v2 ⟨B2, d2, rfl, hcd2, _, ho2, hx2⟩); have RX2 := Lib.hid (Row.ext (w := v1) RX1.out hx2); have RC2 := Lib.hid (Row.ext (w := v1) RC1.out hx2); have y2 : w.heap.size < v2.heap.size := Nat.lt_of_lt_of_le (by exact y1) hx2.size; have XE2 := Lib.hid (Ext.trans XE1.out hx2); have L2 := Lib.hid (Row.ext (w := v1) L1.out hx2); have J2 := Lib.hid ho2.row)
        | (go_at_call 55; ((refine (survivors_any _ _ _ _ _ _ _ _ (by exact RX2.out) (by exact RC2.out) hn hnc).mono ?_); rintro e v3 ⟨B3, d3, rfl, hcd3, _, ho3, hx3⟩); have RX3 := Lib.hid (Row.ext (w := v2) RX2.out hx3); have RC3 := Lib.hid (Row.ext (w := v2) RC2.out hx3); have y3 : w.heap.size < v3.heap.size := Nat.lt_of_lt_of_le (by exact y2) hx3.size; have XE3 := Lib.hid (Ext.trans XE2.out hx3); have L3 := Lib.hid (Row.ext (w := v2) L2.out hx3); have J3 := Lib.hid (Row.ext (w := v2) J2.out hx3); have S3 := Lib.hid ho3.row))
  have p0' : v3.cell? ⟨w.heap.size, 0, none⟩ = some (.int .i64 num) := by rw [(X4.out.trans XE3.out).cell z3]; exact p0
  have p1' : v3.cell? ⟨w.heap.size, 1, none⟩ = some (.slice A xs.length c) := by rw [(X4.out.trans XE3.out).cell z3]; exact p1
  have z4 : w.heap.size < v3.heap.size := by have := (X4.out.trans XE3.out).size; omega
  have X5 := Lib.hid (X3.out.trans (X4.out.trans XE3.out))
  have HL := Lib.hid (show hasB (leavers num xs cut) id = (hasB cut id && hasB xs id) by rw [HP.out.1, has_t])
  have HJ := Lib.hid (show hasB (joiners num xs cut) id = (hasB cut id && !hasB xs id) by rw [HP.out.2.1, has_f])
  have HS := Lib.hid (show hasB (survivors num xs cut) id = (hasB xs id && !hasB cut id) by rw [HP.out.2.2, has_f])
  have HNL := Lib.hid (show ∀ n ys, nextF num xs cut = (n, ys, 0) → ys.length = (survivors num xs cut).length + (joiners num xs cut).length ∧ xs.length < 2 * (survivors num xs cut).length by
    intro n ys h; rw [HP.out.2.1, HP.out.2.2]; exact ⟨len_next h, (nextF_inv h).2.2.2.2.2.2.1⟩)
  clear RX0 RC0 RX1 RC1 RX2 RC2 L1 L2 J2 XE1 XE2 XE3 hx1 hx2 hx3 ho1 ho2 ho3 y1 y2 y3 X3 X4 HX3 HC3 p0 p1 z3 HP
  generalize leavers num xs cut = l at *
  generalize joiners num xs cut = j at *
  generalize survivors num xs cut = s at *
  have g1 : ((l.length : Int) + (j.length : Int) != (cut.length : Int)) = false := by simp; omega
  have g2 : ((l.length : Int) + (s.length : Int) != (xs.length : Int)) = false := by simp; omega
  go_wp2_with fail
  refine (contains_b _ _ _ _ _ RX3.out hn _ HI.out).mono ?_
  rintro e w5 ⟨rfl, rfl⟩
  go_wp2_with fail
  refine (contains_b _ _ _ _ _ RC3.out hnc _ HO.out).mono ?_
  rintro e w5 ⟨rfl, rfl⟩
  rw [HI.out, HO.out] at HL HJ HS
  go_wp2_with fail
  refine (contains_b _ _ _ _ _ L3.out (by omega) _ HL.out).mono ?_
  rintro e w5 ⟨rfl, rfl⟩
  have fin : ∀ (n : Int) (ys : List Int), nextF num xs cut = (n, ys, 0) → hasB ys id = (true != true) := fun n ys h => by rw [has_next h, HI.out, HO.out]
  have FIN := Lib.hid fin
  clear fin
  have HL' : Hid (hasB l id = (true && true)) := HL
  go_wp2_with fail
  refine (contains_b _ _ _ _ _ J3.out (by omega) _ HJ.out).mono ?_
  rintro e w5 ⟨rfl, rfl⟩
  go_wp2_with fail
  refine (contains_b _ _ _ _ _ S3.out (by omega) _ HS.out).mono ?_
  rintro e w5 ⟨rfl, rfl⟩
  go_wp2_with fail
  refine (next_any num A Ac c cc xs cut _ RX3.out RC3.out hn hnc).mono ?_
  rintro e w6 ⟨A3, c3, rfl, hc3, hm3, ho3, hx3⟩
  have p0 : w6.cell? ⟨w.heap.size, 0, none⟩ = some (.int .i64 num) := by rw [hx3.cell z4]; exact p0'
  have p1 : w6.cell? ⟨w.heap.size, 1, none⟩ = some (.slice A xs.length c) := by rw [hx3.cell z4]; exact p1'
  have z6 : w.heap.size < w6.heap.size := by have := hx3.size; omega
  have X6 := Lib.hid (X5.out.trans hx3)
  have HR6 := Lib.hid ho3.row
  clear hx3 p0' p1' z4 RX3 RC3 X5 ho3
  generalize hN : nextF num xs cut = r at *
  obtain ⟨n', ys, er⟩ := r
  simp only at *
  by_cases he : er = 0
  · subst he
    have HN := Lib.hid hN
    clear hN
    have hinv := nextF_inv HN.out
    have hyl : ys.length ≤ 16 := (validB_len hinv.2.2.2.2.2.2.2.2).2
    have hnum : 0 ≤ num ∧ num < 1099511627776 := ⟨(validB_num (okCut_iff.1 hinv.1).1).1, hinv.2.2.1⟩
    have HLN := Lib.hid (HNL.out n' ys rfl)
    have HF := Lib.hid (FIN.out n' ys rfl)
    have g3 : (n' == num + 1) = true := by simpa using hinv.2.1
    have g4 : ((ys.length : Int) == (s.length : Int) + (j.length : Int)) = true := by have := HLN.out.1; simp; omega
    have hvy := hinv.2.2.2.2.2.2.2.2
    clear hinv
    go_wp2_with fail
    have X7 := Lib.hid (Ext.new w6 (.cells #[.int .i64 n', .slice A3 ys.length c3] 36))
    refine (valid_yes n' A3 c3 ys _ (HR6.out.ext X7.out) (by omega) hvy).mono ?_
    rintro e w8 ⟨rfl, hx8⟩
    have q0 : w8.cell? ⟨w.heap.size, 0, none⟩ = some (.int .i64 num) := by rw [(X7.out.trans hx8).cell z6]; exact p0
    have q1 : w8.cell? ⟨w.heap.size, 1, none⟩ = some (.slice A xs.length c) := by rw [(X7.out.trans hx8).cell z6]; exact p1
    have q2 : w8.cell? ⟨w6.heap.size, 0, none⟩ = some (.int .i64 n') := by simpa using hx8.cell_new 0
    have q3 : w8.cell? ⟨w6.heap.size, 1, none⟩ = some (.slice A3 ys.length c3) := by simpa using hx8.cell_new 1
    have HR8 := Lib.hid (HR6.out.ext (X7.out.trans hx8))
    have X8 := Lib.hid (X6.out.trans (X7.out.trans hx8))
    clear hx8 p0 p1 z6 HR6 X6 X7 hvy
    go_wp2_with fail
    refine (contains_b _ _ _ _ _ HR8.out (by omega) _ HF.out).mono ?_
    rintro e w9 ⟨rfl, rfl⟩
    have hl2 := HLN.out.2
    go_wp2
    go_ret
    exact ⟨by simp <;> omega, X8.out⟩
  · have hE := nextF_err (num := num) (xs := xs) (cut := cut) (by rw [hN]; exact he)
    rw [hN] at hE
    simp only at hE
    obtain ⟨rfl, rfl⟩ := hE
    have he' : (er != 0) = true := by simpa using he
    clear hN HNL FIN
    go_wp2
    go_ret
    exact ⟨rfl, X6.out.alloc _⟩

set_option maxRecDepth 100000 in
set_option maxHeartbeats 4000000 in
theorem walk0 (num : Int) (A Ac : Option Addr) (c cc : Nat) (xs cut : List Int) (id : Int) (w : World) (hx : Row w A (ints xs)) (hc : Row w Ac (ints cut)) (hn : xs.length ≤ 9223372036854775807) (hnc : cut.length ≤ 9223372036854775807) :
    Calls Try.prog 11 #[.agg #[.int .i64 num, .slice A xs.length c], .slice Ac cut.length cc, .int .i64 id] w fun e w' => e = .returned (.bool true) ∧ Ext w w' := by
  by_cases hall : smallB [(A, xs.length, c), (Ac, cut.length, cc)] = true ∧ validB num xs = true ∧ idsB cut 32 = true
  · cases hi : hasB xs id <;> cases ho : hasB cut id
    · exact walkff num A Ac c cc xs cut id w hx hc hn hnc hall.1 hall.2.1 hall.2.2 hi ho
    · exact walkft num A Ac c cc xs cut id w hx hc hn hnc hall.1 hall.2.1 hall.2.2 hi ho
    · exact walktf num A Ac c cc xs cut id w hx hc hn hnc hall.1 hall.2.1 hall.2.2 hi ho
    · exact walktt num A Ac c cc xs cut id w hx hc hn hnc hall.1 hall.2.1 hall.2.2 hi ho
  have HALL := Lib.hid hall; clear hall
  have H0 := Lib.hid (Ext.new w (.cells #[.int .i64 num, .slice A xs.length c] 36))
  have HX := Lib.hid (hx.ext H0.out); have HC := Lib.hid (hc.ext H0.out)
  clear hx hc
  go_enter Try.func11, Try.ntmps11
  go_wp2_with fail
  refine (awake3_any _).mono ?_
  rintro e w1 ⟨rfl, hx1⟩
  have q0 : w1.cell? ⟨w.heap.size, 0, none⟩ = some (.int .i64 num) := by simpa using hx1.cell_new 0
  have q1 : w1.cell? ⟨w.heap.size, 1, none⟩ = some (.slice A xs.length c) := by simpa using hx1.cell_new 1
  have z1 : w.heap.size < w1.heap.size := by have := hx1.size; simp at this; omega
  have HX1 := Lib.hid (HX.out.ext hx1); have HC1 := Lib.hid (HC.out.ext hx1)
  have X1 := Lib.hid (H0.out.trans hx1)
  clear hx1 HX HC H0
  go_wp2_with fail
  have X2 := Lib.hid (Ext.new w1 (.cells #[.slice A xs.length c, .slice Ac cut.length cc] 22))
  by_cases hs : smallB [(A, xs.length, c), (Ac, cut.length, cc)] = true
  · refine (small3_any (some ⟨w1.heap.size, 0, none⟩) 2 [(A, xs.length, c), (Ac, cut.length, cc)] _ (row2s (by simp) (by simp)) (by simp)).mono ?_
    rw [hs]
    rintro e w2 ⟨rfl, rfl⟩
    have HSM := Lib.hid hs; clear hs
    by_cases hv : validB num xs = true
    · go_wp2_with fail
      refine (valid_yes num A c xs _ (HX1.out.ext X2.out) hn hv).mono ?_
      rintro e w3 ⟨rfl, hx3⟩
      have p0 : w3.cell? ⟨w.heap.size, 0, none⟩ = some (.int .i64 num) := by rw [(X2.out.trans hx3).cell z1]; exact q0
      have p1 : w3.cell? ⟨w.heap.size, 1, none⟩ = some (.slice A xs.length c) := by rw [(X2.out.trans hx3).cell z1]; exact q1
      have z3 : w.heap.size < w3.heap.size := by have := (X2.out.trans hx3).size; omega
      have HX3 := Lib.hid (HX1.out.ext (X2.out.trans hx3)); have HC3 := Lib.hid (HC1.out.ext (X2.out.trans hx3))
      have X3 := Lib.hid (X1.out.trans (X2.out.trans hx3))
      have HV := Lib.hid hv
      clear hx3 q0 q1 z1 HX1 HC1 X2 X1 hv
      have hv' : idsB cut 32 = false := by simpa using fun h => HALL.out ⟨HSM.out, HV.out, h⟩
      · go_wp2_with fail
        refine (validCut_no _ _ _ _ HC3.out hnc hv').mono ?_
        rintro e w4 ⟨rfl, rfl⟩
        go_wp2
        go_ret
        exact ⟨rfl, X3.out⟩
    · have hv' : validB num xs = false := by simpa using hv
      go_wp2_with fail
      refine (valid_no num A c xs _ (HX1.out.ext X2.out) hn hv').mono ?_
      rintro e w3 ⟨rfl, hx3⟩
      go_wp2
      go_ret
      exact ⟨rfl, X1.out.trans (X2.out.trans hx3)⟩
  · have hs' : smallB [(A, xs.length, c), (Ac, cut.length, cc)] = false := by simpa using hs
    refine (small3_any (some ⟨w1.heap.size, 0, none⟩) 2 [(A, xs.length, c), (Ac, cut.length, cc)] _ (row2s (by simp) (by simp)) (by simp)).mono ?_
    rw [hs']
    rintro e w2 ⟨rfl, rfl⟩
    clear hs hs'
    go_wp2
    go_ret
    exact ⟨rfl, X1.out.trans X2.out⟩

theorem walk (num : Int) (A : Option Addr) (c : Nat) (xs : List Int) {w : World} (_hi : I64 num) (hr : Row w A (ints xs)) (hc : xs.length ≤ c) (hm : c ≤ maxLen) (_hx : ∀ x ∈ xs, I64 x)
    (A' : Option Addr) (c' : Nat) (ys : List Int) (hr' : Row w A' (ints ys)) (hc' : ys.length ≤ c') (hm' : c' ≤ maxLen) (_hx' : ∀ x ∈ ys, I64 x) (id : Int) (_hid : I64 id) (W : World) (hW : w = W) :
    Calls Try.prog 11 #[.agg #[.int .i64 num, .slice A xs.length c], .slice A' ys.length c', .int .i64 id] W fun e w' => e = .returned (.bool true) ∧ Ext W w' := by
  subst hW; unfold maxLen at hm hm'; exact walk0 num A A' c c' xs ys id w hr hr' (by omega) (by omega)


open Go.ChangeShapes Go.WideShapes Go.ChangeAt
set_option maxRecDepth 100000 in
theorem lifted (os : Os) (started : os.Started) (H : Type) (enc : TypeId × Value → H) :
    ReturnsInHanded {} Try.checked os 11 .any (Rows.viewPartitionSpec.pre6 enc Try.prog Try.f11 Rows.viewPartitionRow.domain false) (Rows.viewPartitionSpec.post enc Try.prog Try.f11 false true false false) := by
  refine returnsInHanded_of_change (C := Try.checked) own started (by kernel_rfl) Try.func11
    (ChangeSpec.witness6 (enc := enc) (C := Try.checked) false ⟨#[], #[.agg #[.int .i64 0, .slice none 0 0], .slice none 0 0, .int .i64 0], []⟩ 8 (by kernel_rfl) (by kernel_rfl) (by kernel_rfl) (by kernel_rfl)) ?_
  intro W base args ds gs before hval0 hW hcnd _
  have hval : ∀ (j : Nat) t v, Try.f11.params[j]? = some t → args[j]? = some v → Value.okWide Try.prog W .any base t v := hval0
  have hW' := hW
  obtain ⟨p, q, hA0, hV, rfl, hfz, hnd⟩ := hW
  have hA : DataW.TrodAll enc Try.prog W 0 (fun _ => true) true Try.f11.params.toList args.toList ds p := hA0
  rw [Try.params11] at hA hval
  obtain ⟨v0, vs0, d0, ds0, p0, q0, hargs, rfl, rfl, h0, r0⟩ := trodAll_cons hA
  obtain ⟨v1, vs1, d1, ds1, p1, q1, rfl, rfl, rfl, h1, r1⟩ := trodAll_cons r0
  obtain ⟨v2, vs2, d2, ds2, p2, q2, rfl, rfl, rfl, h2, r2⟩ := trodAll_cons r1
  obtain ⟨rfl, rfl, rfl⟩ := trodAll_nil r2
  obtain rfl : args = #[v0, v1, v2] := by cases args; simp_all
  obtain ⟨rfl, rfl⟩ := trodVars_none hV
  have lt0 : ∀ x ∈ p0, x.block < W.heap.size := by obtain ⟨m, hm⟩ := h0; exact DataW.trod_lt m _ _ _ hm
  have lt1 : ∀ x ∈ p1, x.block < W.heap.size := by obtain ⟨m, hm⟩ := h1; exact DataW.trod_lt m _ _ _ hm
  have lt2 : ∀ x ∈ p2, x.block < W.heap.size := by obtain ⟨m, hm⟩ := h2; exact DataW.trod_lt m _ _ _ hm
  obtain ⟨n0, A0, c0, x0, e0, hi0, hc0, hm0, hr0, hx0⟩ := argView (hval 0 36 v0 rfl rfl) h0
  obtain ⟨A1, c1, x1, e1, hc1, hm1, hr1, hi1⟩ := argInts (hval 1 22 v1 rfl rfl) h1
  obtain ⟨n2, e2, hi2⟩ := argInt (hval 2 3 v2 rfl rfl) h2
  clear hA0 hval0
  have wk := walk n0 A0 c0 x0 hi0 hr0 hc0 hm0 hx0 A1 c1 x1 hr1 hc1 hm1 hi1 n2 hi2 W rfl
  rw [← e0, ← e1, ← e2] at wk
  refine wk.mono fun e W' ⟨he, bel⟩ => ?_
  subst he
  exact ⟨_, rfl, _, _, _, [], _, [], hW', trodAll_mk1 (shut_bool Try.underlying4 _), (trodAll_cons_mk (Below.trod laidOut (by kernel_rfl) (of_decide_eq_true (by kernel_rfl)) h0 bel lt0) (trodAll_cons_mk (Below.trod laidOut (by kernel_rfl) (of_decide_eq_true (by kernel_rfl)) h1 bel lt1) (trodAll_cons_mk (Below.trod laidOut (by kernel_rfl) (of_decide_eq_true (by kernel_rfl)) h2 bel lt2) trodAll_mk0))), rfl, bel.frame _, fun h => by cases h⟩

theorem over : Rows.viewPartitionRow.holds Try.pinned (OpenSpec.ofChange Rows.viewPartitionSpec) :=
  OpenClaim.holds_of_wide 11 Try.f11 rfl rfl rfl rfl rfl rfl rfl ⟨rfl, rfl, rfl, rfl, rfl⟩ rfl rfl rfl rfl rfl (by kernel_rfl) Try.func11 (by kernel_rfl)
    (of_decide_eq_true (by kernel_rfl)) (by unfold Func.isWrapper; first | (rw [if_pos (by decide +kernel)]; kernel_rfl) | (rw [if_neg (by decide +kernel)]; exact ⟨rfl, rfl⟩))
    (fun os started H enc _ => lifted os started H enc)

/-- the statement -/
theorem proved : Rows.ViewPartitionSaid := over
#print axioms proved
