/- The contract of view.Next. -/
import Derived.Test.YtagmocofmedmjaaView3
import Derived.Deep.RegionHeld3
namespace Go.Proofs.Ytagmocofmedmjaa
open Go.RowKit

/-- the two blocks that Next lays first: its argument v, its result -/
def nextBox (w : World) (num : Int) (s : Value) : World := (w.alloc (.cells #[.int .i64 num, s] 36)).alloc (.cells #[.int .i64 0, .slice none 0 0] 36)

theorem nextBox_cells {w w1 : World} {num : Int} {s : Value} (h : Ext (nextBox w num s) w1) :
    w1.cell? ⟨w.heap.size, 0, none⟩ = some (.int .i64 num) ∧ w1.cell? ⟨w.heap.size, 1, none⟩ = some s ∧
    w1.cell? ⟨w.heap.size + 1, 0, none⟩ = some (.int .i64 0) ∧ w1.cell? ⟨w.heap.size + 1, 1, none⟩ = some (.slice none 0 0) ∧
    w1.frozen? ⟨w.heap.size + 1, 0, none⟩ = false ∧ w1.frozen? ⟨w.heap.size + 1, 1, none⟩ = false ∧ w.heap.size + 2 ≤ w1.heap.size := by
  have hs := h.size
  simp only [nextBox, World.size_alloc] at hs
  refine ⟨?_, ?_, ?_, ?_, ?_, ?_, by omega⟩
  · rw [h.cell (p := ⟨w.heap.size, 0, none⟩) (by simp [nextBox]; omega)]; simp [nextBox]
  · rw [h.cell (p := ⟨w.heap.size, 1, none⟩) (by simp [nextBox]; omega)]; simp [nextBox]
  · rw [h.cell (p := ⟨w.heap.size + 1, 0, none⟩) (by simp [nextBox])]; simp [nextBox]
  · rw [h.cell (p := ⟨w.heap.size + 1, 1, none⟩) (by simp [nextBox])]; simp [nextBox]
  · rw [h.frozen (p := ⟨w.heap.size + 1, 0, none⟩) (by simp [nextBox])]; simp [nextBox]
  · rw [h.frozen (p := ⟨w.heap.size + 1, 1, none⟩) (by simp [nextBox])]; simp [nextBox]
theorem nextBox_ext (w : World) (num : Int) (s : Value) : Ext w (nextBox w num s) := (Ext.new w _).alloc _

theorem next_no (num : Int) (A Ac : Option Addr) (c cc : Nat) (xs cut : List Int) (w : World) (hx : Row w A (ints xs)) (hc : Row w Ac (ints cut))
    (hn : xs.length ≤ 9223372036854775807) (hnc : cut.length ≤ 9223372036854775807) (hv : okCut num xs cut = false) :
    Calls Try.prog 29 #[.agg #[.int .i64 num, .slice A xs.length c], .slice Ac cut.length cc] w (GivesV w (nextF num xs cut)) := by
  have H0 := Lib.hid (nextBox_ext w num (.slice A xs.length c))
  have HX := Lib.hid (hx.ext H0.out); have HC := Lib.hid (hc.ext H0.out)
  clear hx hc
  have HE : Hid (nextF num xs cut = (0, [], 1)) := if_pos hv
  rcases okCut_not hv with hv | ⟨hv, hcv⟩
  · have HV := Lib.hid hv; clear hv
    go_enter Try.func29, Try.ntmps29
    go_wp2_with (first
      | (go_at_call 50; refine (valid_no _ _ _ _ _ HX.out hn HV.out).mono ?_; rintro e w1 ⟨rfl, hx1⟩; obtain ⟨q0, q1, q2, q3, q4, q5, q6⟩ := nextBox_cells hx1; have H1 := Lib.hid (Ext.trans H0.out hx1); clear hx1))
    exact bodyPost_ret (v := .tuple #[.agg #[.int .i64 0, .slice none 0 0], .int .i64 1]) (by simp [results, Try.results29, go_sem, q2, q3]) rfl (gives_v HE.out (Own.nil _ _ _) ((H1.out.set (by simp) _).set (by simp) _))
  · have HV := Lib.hid hv; have HCV := Lib.hid hcv; clear hv hcv
    go_enter Try.func29, Try.ntmps29
    go_wp2_with (first
      | (go_at_call 50; refine (valid_yes _ _ _ _ _ HX.out hn HV.out).mono ?_; rintro e w1 ⟨rfl, hx1⟩; obtain ⟨q0, q1, q2, q3, q4, q5, q6⟩ := nextBox_cells hx1; have HC1 := Lib.hid (HC.out.ext hx1); have H1 := Lib.hid (Ext.trans H0.out hx1); clear hx1)
      | (go_at_call 18; refine (validCut_no _ _ _ _ HC1.out hnc HCV.out).mono ?_; rintro e w2 ⟨rfl, rfl⟩))
    exact bodyPost_ret (v := .tuple #[.agg #[.int .i64 0, .slice none 0 0], .int .i64 1]) (by simp [results, Try.results29, go_sem, q2, q3]) rfl (gives_v HE.out (Own.nil _ _ _) ((H1.out.set (by simp) _).set (by simp) _))

set_option maxHeartbeats 1000000 in
theorem next_yes (num : Int) (A Ac : Option Addr) (c cc : Nat) (xs cut : List Int) (w : World) (hx : Row w A (ints xs)) (hc : Row w Ac (ints cut))
    (hn : xs.length ≤ 9223372036854775807) (hnc : cut.length ≤ 9223372036854775807) (hv : okCut num xs cut = true) :
    Calls Try.prog 29 #[.agg #[.int .i64 num, .slice A xs.length c], .slice Ac cut.length cc] w (GivesV w (nextF num xs cut)) := by
  have H0 := Lib.hid (nextBox_ext w num (.slice A xs.length c))
  have HX := Lib.hid (hx.ext H0.out); have HC := Lib.hid (hc.ext H0.out)
  clear hx hc
  have HV := Lib.hid (okCut_iff.1 hv)
  have HO := Lib.hid hv
  have hl1 : xs.length ≤ 16 := (validB_len HV.out.1).2
  have hl2 : cut.length ≤ 32 := (idsB_len (m := 32) HV.out.2).2
  clear hv
  go_enter Try.func29, Try.ntmps29
  go_wp2_with (first
    | (go_at_call 50; refine (valid_yes _ _ _ _ _ HX.out hn HV.out.1).mono ?_; rintro e w1 ⟨rfl, hx1⟩; obtain ⟨q0, q1, q2, q3, q4, q5, q6⟩ := nextBox_cells hx1; have HX1 := Lib.hid (HX.out.ext hx1); have HC1 := Lib.hid (HC.out.ext hx1); have H1 := Lib.hid hx1; clear hx1)
    | (go_at_call 18; refine (validCut_yes _ _ _ _ HC1.out hnc HV.out.2).mono ?_; rintro e w2 ⟨rfl, rfl⟩))
  go_region_held3 (fun w' => w'.cell? ⟨w.heap.size, 0, none⟩ = some (.int .i64 num) ∧ w'.cell? ⟨w.heap.size, 1, none⟩ = some (.slice A xs.length c))
    (first | go_keep | (go_split_ands; refine ⟨?_, ?_⟩ <;> first | (rw [hx3.cell (by simp; omega)]; assumption) | (rw [hx2.cell (by simp; omega)]; assumption)))
    (first
      | (go_at_call 55; refine (survivors_any _ _ _ _ _ _ _ _ (by exact HX1.out) (by exact HC1.out) hn hnc).mono ?_; rintro e w2 ⟨A2, c2, rfl, hc2, hm2, ho2, hx2⟩; have s2 : w1.heap.size ≤ w2.heap.size := hx2.size; have HX2 := Lib.hid (Row.ext (w := w1.drew) HX1.out hx2); have HC2 := Lib.hid (Row.ext (w := w1.drew) HC1.out hx2))
      | (go_at_call 53; refine (joiners_any _ _ _ _ _ _ _ _ (by exact HX2.out) (by exact HC2.out) hn hnc).mono ?_; rintro e w3 ⟨A3, c3, rfl, hc3, hm3, ho3, hx3⟩; have s3 := hx3.size))
  have H3 := Lib.hid (((Ext.drew H1.out).trans hx2).trans hx3)
  clear q0 q1 q2 q3 q4 q5 q6
  obtain ⟨q0, q1, q2, q3, q4, q5, q6⟩ := nextBox_cells H3.out
  have HS := Lib.hid (ho2.ext hx3)
  have HE := Lib.hid (Ext.trans H0.out H3.out)
  clear hx2 hx3 HX2 HC2 HX1 HC1 H1
  have hsl := surv_len HO.out
  have hjl := join_len HO.out
  have hnum := validB_num HV.out.1
  by_cases h1 : 2 * (survivors num xs cut).length ≤ xs.length
  · have HF := Lib.hid (nextF_maj HO.out h1)
    go_wp2
    exact bodyPost_ret (v := .tuple #[.agg #[.int .i64 0, .slice none 0 0], .int .i64 9]) (by simp [results, Try.results29, go_sem, q2, q3]) rfl (gives_v HF.out (Own.nil _ _ _) ((HE.out.set (by simp) _).set (by simp) _))
  · have h1' : xs.length < 2 * (survivors num xs cut).length := by omega
    have HN1 := Lib.hid h1
    clear h1
    by_cases h2 : num = 1099511627776
    · have HF := Lib.hid (nextF_lim HO.out HN1.out (.inl h2))
      have h2b : (num == 1099511627776) = true := by simpa using h2
      clear h2
      go_wp2
      exact bodyPost_ret (v := .tuple #[.agg #[.int .i64 0, .slice none 0 0], .int .i64 5]) (by simp [results, Try.results29, go_sem, q2, q3]) rfl (gives_v HF.out (Own.nil _ _ _) ((HE.out.set (by simp) _).set (by simp) _))
    · have h2b : (num == 1099511627776) = false := by simpa using h2
      by_cases h3 : 16 < (survivors num xs cut).length + (joiners num xs cut).length
      · have HF := Lib.hid (nextF_lim HO.out HN1.out (.inr h3))
        clear h2
        go_wp2
        exact bodyPost_ret (v := .tuple #[.agg #[.int .i64 0, .slice none 0 0], .int .i64 5]) (by simp [results, Try.results29, go_sem, q2, q3]) rfl (gives_v HF.out (Own.nil _ _ _) ((HE.out.set (by simp) _).set (by simp) _))
      · have HF := Lib.hid (nextF_ok HO.out HN1.out (by omega))
        have h3' : (survivors num xs cut).length + (joiners num xs cut).length ≤ 16 := by omega
        have h2' : num < 1099511627776 := by omega
        have hw : IntKind.i64.wrap (num + 1) = num + 1 := IntWalk.i64_in _ (by omega)
        clear h2 h3
        go_wp2
        go_region_held3 (fun w' => w'.cell? ⟨w.heap.size, 0, none⟩ = some (.int .i64 num))
          (first | go_keep)
          (first
            | (go_at_call 66; refine (merge_any _ _ _ _ _ _ _ (by exact HS.out.row) (by exact ho3.row) (by omega) (by omega) (by omega)).mono ?_; rintro e w4 ⟨A4, c4, rfl, hc4, hm4, ho4, hx4⟩; obtain ⟨k0, k1, k2, k3, k4, k5, k6⟩ := nextBox_cells ((Ext.drew H3.out).trans hx4)))
        go_wp2
        have HB := Lib.hid (Ext.trans HE.out (Ext.trans (Ext.drew (Ext.refl w3)) hx4))
        refine bodyPost_ret (v := .tuple #[.agg #[.int .i64 (num + 1), .slice A4 (mergeL (survivors num xs cut) (joiners num xs cut)).length c4], .int .i64 0]) (by simp [results, Try.results29, go_sem, k2, k3]) rfl (gives_v HF.out ((Own.set (Own.set (ho4.base ?_) ?_ _) ?_ _)) ((HB.out.set (by simp) _).set (by simp) _))
        · show w.heap.size ≤ w3.heap.size; omega
        · intro k hk; have := (ho4.lt k hk).1; simp only [World.drew] at this; simp; omega
        · intro k hk; have := (ho4.lt k hk).1; simp only [World.drew] at this; simp; omega
end Go.Proofs.Ytagmocofmedmjaa
