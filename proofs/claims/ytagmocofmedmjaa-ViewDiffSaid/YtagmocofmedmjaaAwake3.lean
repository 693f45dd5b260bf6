/- Contracts of the helpers of layer 3's statements: Small, awake. -/
import Derived.Test.YtagmocofmedmjaaDec
import Derived.Test.YtagmocofmedmjaaEnc
namespace Go.Proofs.Ytagmocofmedmjaa
open Go.RowKit

theorem nx1 : nextF 0 [1, 2, 3] [3, 4] = (1, [1, 2, 4], 0) := by
  rw [nextF_ok (by decide) (by decide) (by decide), show survivors 0 [1, 2, 3] [3, 4] = [1, 2] by decide, show joiners 0 [1, 2, 3] [3, 4] = [4] by decide, mergeL_le (by decide), mergeL_le (by decide), nil_mergeL]
  rfl
theorem nx2 : nextF 0 [1, 2, 3] [1, 2] = (0, [], 9) := by decide +kernel
theorem ev1 : encV 1 [1, 2, 4] = [1, 3, 2, 4, 8] := by decide +kernel
theorem dv1 : decV [1, 3, 2, 4, 8] = (1, [1, 2, 4], 5, 0) := by decide +kernel
theorem sv1 : sameV 1 [1, 2, 4] 1 [1, 2, 4] = true := by decide
theorem mj4 : majZ 4 = 3 := by decide
theorem fq5 : fqZ 5 = 4 := by decide
theorem fq16 : fqZ 16 = 13 := by decide
theorem vb1 : validB 0 [1, 2, 3] = true := by decide
theorem vb2 : validB 0 [] = false := by decide
theorem pl1 : place [1, 2, 3] 3 = 2 := by decide

theorem row2 {w : World} {b off : Nat} {x y : Int} (h0 : w.cell? ⟨b, off, none⟩ = some (.int .i64 x)) (h1 : w.cell? ⟨b, off + 1, none⟩ = some (.int .i64 y)) : Row w (some ⟨b, off, none⟩) (ints [x, y]) := by
  intro _
  refine ⟨b, off, rfl, World.block_lt_of_cell? w _ h0, fun j v hj => ?_⟩
  match j, hj with
  | 0, hj => simp [ints] at hj; subst hj; exact h0
  | 1, hj => simp [ints] at hj; subst hj; exact h1
theorem row3 {w : World} {b off : Nat} {x y z : Int} (h0 : w.cell? ⟨b, off, none⟩ = some (.int .i64 x)) (h1 : w.cell? ⟨b, off + 1, none⟩ = some (.int .i64 y)) (h2 : w.cell? ⟨b, off + 2, none⟩ = some (.int .i64 z)) : Row w (some ⟨b, off, none⟩) (ints [x, y, z]) := by
  intro _
  refine ⟨b, off, rfl, World.block_lt_of_cell? w _ h0, fun j v hj => ?_⟩
  match j, hj with
  | 0, hj => simp [ints] at hj; subst hj; exact h0
  | 1, hj => simp [ints] at hj; subst hj; exact h1
  | 2, hj => simp [ints] at hj; subst hj; exact h2

set_option maxRecDepth 100000 in
set_option maxHeartbeats 1600000 in
theorem awake3_any (w : World) : Calls Try.prog 14 #[] w fun e w' => e = .returned (.bool true) ∧ Ext w w' := by
  go_enter Try.func14, Try.ntmps14
  go_wp2_with fail
  refine Calls.mono (next_any 0 (some ⟨w.heap.size, 0, none⟩) (some ⟨w.heap.size + 1 + 1, 0, none⟩) 3 2 [1, 2, 3] [3, 4] _ ?r1 ?r2 (by decide) (by decide)) ?_
  case r1 => exact row3 (by simp [go_sem]) (by simp [go_sem]) (by simp [go_sem])
  case r2 => exact row2 (by simp [go_sem]) (by simp [go_sem])
  intro e w1 hN1
  rw [nx1] at hN1
  obtain ⟨A1, c1, rfl, hc1, hm1, ho1, hx1⟩ := hN1
  simp only [List.length_cons, List.length_nil, Nat.zero_add, Nat.reduceAdd] at hc1 ho1 ⊢
  have hs1 := hx1.size
  simp only [World.size_alloc] at hs1
  have a0 : w1.cell? ⟨w.heap.size + 1, 0, none⟩ = some (.int .i64 0) := by rw [hx1.cell (by simp)]; simp [go_sem]
  have a1 : w1.cell? ⟨w.heap.size + 1, 1, none⟩ = some (.slice (some ⟨w.heap.size, 0, none⟩) 3 3) := by rw [hx1.cell (by simp)]; simp [go_sem]
  have b0 : w1.cell? ⟨w.heap.size, 0, none⟩ = some (.int .i64 1) := by rw [hx1.cell (by simp; omega)]; simp [go_sem]
  have b1 : w1.cell? ⟨w.heap.size, 1, none⟩ = some (.int .i64 2) := by rw [hx1.cell (by simp; omega)]; simp [go_sem]
  have b2 : w1.cell? ⟨w.heap.size, 2, none⟩ = some (.int .i64 3) := by rw [hx1.cell (by simp; omega)]; simp [go_sem]
  have E1 := Lib.hid (Ext.trans (((Ext.new w _).alloc _).alloc _) hx1)
  have HW := Lib.hid ho1.row
  have z0 : w.heap.size < w1.heap.size := by omega
  have z1 : w.heap.size + 1 < w1.heap.size := by omega
  clear hx1 hs1
  have HB := Lib.hid (row3 b0 b1 b2)
  clear b0 b1 b2 ho1
  go_wp2_with fail
  have X2 := Lib.hid ((Ext.new w1 (.cells #[.int .i64 1, .slice A1 3 c1] 36)).alloc (.cells #[.int .i64 1, .int .i64 2] 3))
  refine Calls.mono (next_any 0 (some ⟨w.heap.size, 0, none⟩) (some ⟨w1.heap.size + 1, 0, none⟩) 3 2 [1, 2, 3] [1, 2] _ ?r1 ?r2 (by decide) (by decide)) ?_
  case r1 => exact HB.out.ext X2.out
  case r2 => exact row2 (by simp [go_sem]) (by simp [go_sem])
  intro e w2 hN2
  rw [nx2] at hN2
  obtain ⟨A2, c2, rfl, hc2, hm2, ho2, hx2⟩ := hN2
  have d0 : w2.cell? ⟨w.heap.size + 1, 0, none⟩ = some (.int .i64 0) := by rw [(X2.out.trans hx2).cell (by simpa using z1)]; exact a0
  have d1 : w2.cell? ⟨w.heap.size + 1, 1, none⟩ = some (.slice (some ⟨w.heap.size, 0, none⟩) 3 3) := by rw [(X2.out.trans hx2).cell (by simpa using z1)]; exact a1
  have f0 : w2.cell? ⟨w1.heap.size, 0, none⟩ = some (.int .i64 1) := by rw [hx2.cell (by simp; omega)]; simp [go_sem]
  have f1 : w2.cell? ⟨w1.heap.size, 1, none⟩ = some (.slice A1 3 c1) := by rw [hx2.cell (by simp; omega)]; simp [go_sem]
  have HB2 := Lib.hid (HB.out.ext (X2.out.trans hx2))
  have HW2 := Lib.hid (HW.out.ext (X2.out.trans hx2))
  have E2 := Lib.hid (E1.out.trans (X2.out.trans hx2))
  have hs2 := hx2.size
  simp only [World.size_alloc] at hs2
  have y0 : w.heap.size < w2.heap.size := by omega
  have y1 : w.heap.size + 1 < w2.heap.size := by omega
  have y2 : w1.heap.size < w2.heap.size := by omega
  simp only [List.length_nil] at ho2 hc2 ⊢
  clear hx2 hs2 a0 a1 HB HW E1 X2 z0 z1 ho2
  go_wp2_with fail
  have X3 := Lib.hid (Ext.new w2 (.cells #[.int .i64 0, .slice A2 0 c2] 36))
  refine Calls.mono (encode_any 1 A1 c1 [1, 2, 4] _ ?r1 (by decide)) ?_
  case r1 => exact HW2.out.ext X3.out
  intro e w3 hN3
  rw [ev1] at hN3
  obtain ⟨A3, c3, rfl, hc3, hm3, ho3, hx3⟩ := hN3
  have d0' : w3.cell? ⟨w.heap.size + 1, 0, none⟩ = some (.int .i64 0) := by rw [(X3.out.trans hx3).cell (by simpa using y1)]; exact d0
  have d1' : w3.cell? ⟨w.heap.size + 1, 1, none⟩ = some (.slice (some ⟨w.heap.size, 0, none⟩) 3 3) := by rw [(X3.out.trans hx3).cell (by simpa using y1)]; exact d1
  have f0' : w3.cell? ⟨w1.heap.size, 0, none⟩ = some (.int .i64 1) := by rw [(X3.out.trans hx3).cell (by simpa using y2)]; exact f0
  have f1' : w3.cell? ⟨w1.heap.size, 1, none⟩ = some (.slice A1 3 c1) := by rw [(X3.out.trans hx3).cell (by simpa using y2)]; exact f1
  have HB3 := Lib.hid (HB2.out.ext (X3.out.trans hx3))
  have HW3 := Lib.hid (HW2.out.ext (X3.out.trans hx3))
  have E3 := Lib.hid (E2.out.trans (X3.out.trans hx3))
  have hs3 := (X3.out.trans hx3).size
  have HR3 := Lib.hid ho3.row
  simp only [List.length_cons, List.length_nil, Nat.zero_add, Nat.reduceAdd] at hc3 ⊢
  clear hx3 d0 d1 f0 f1 HB2 HW2 E2 X3 ho3
  go_wp2_with fail
  refine Calls.mono (decode_any A3 c3 [1, 3, 2, 4, 8] _ HR3.out (by simpa using hc3) (by decide)) ?_
  intro e w4 hN4
  rw [dv1] at hN4
  obtain ⟨A4, c4, rfl, hc4, hm4, ho4, hx4⟩ := hN4
  have d0 : w4.cell? ⟨w.heap.size + 1, 0, none⟩ = some (.int .i64 0) := by rw [hx4.cell (show w.heap.size + 1 < w3.heap.size by omega)]; exact d0'
  have d1 : w4.cell? ⟨w.heap.size + 1, 1, none⟩ = some (.slice (some ⟨w.heap.size, 0, none⟩) 3 3) := by rw [hx4.cell (show w.heap.size + 1 < w3.heap.size by omega)]; exact d1'
  have f0 : w4.cell? ⟨w1.heap.size, 0, none⟩ = some (.int .i64 1) := by rw [hx4.cell (show w1.heap.size < w3.heap.size by omega)]; exact f0'
  have f1 : w4.cell? ⟨w1.heap.size, 1, none⟩ = some (.slice A1 3 c1) := by rw [hx4.cell (show w1.heap.size < w3.heap.size by omega)]; exact f1'
  have HB4 := Lib.hid (HB3.out.ext hx4)
  have HW4 := Lib.hid (HW3.out.ext hx4)
  have HX4 := Lib.hid ho4.row
  have E4 := Lib.hid (E3.out.trans hx4)
  have hs4 := hx4.size
  have g4 : ∃ b off, A1 = some ⟨b, off, none⟩ ∧ w4.cell? ⟨b, off + 2, none⟩ = some (.int .i64 4) := by
    obtain ⟨b, off, x, h1, h2, h3⟩ := HW4.out.at_ (show 2 < [(1 : Int), 2, 4].length by decide)
    have h3' := h3.out
    simp at h3'
    subst h3'
    exact ⟨b, off, h1, h2⟩
  simp only [List.length_cons, List.length_nil, Nat.zero_add, Nat.reduceAdd] at hc4 ⊢
  have v1 : w.heap.size + 1 < w4.heap.size := by omega
  have v2 : w1.heap.size < w4.heap.size := by omega
  clear hx4 d0' d1' f0' f1' HB3 HW3 E3 ho4 y0 y1 y2 hs3 HR3
  obtain ⟨b, off, rfl, g4⟩ := g4
  have hbl := World.block_lt_of_cell? w4 _ g4
  go_wp2_with fail
  have X5 := Lib.hid (Ext.new w4 (.cells #[.int .i64 1, .slice A4 3 c4] 36))
  refine Calls.mono (rsame_any 1 1 A4 (some ⟨b, off, none⟩) c4 c1 [1, 2, 4] [1, 2, 4] _ (HX4.out.ext X5.out) (HW4.out.ext X5.out) (by decide)) ?_
  rw [sv1]
  rintro e w5 ⟨rfl, hx5⟩
  have p0 : w5.cell? ⟨w.heap.size + 1, 0, none⟩ = some (.int .i64 0) := by rw [(X5.out.trans hx5).cell (by simpa using v1)]; exact d0
  have p1 : w5.cell? ⟨w.heap.size + 1, 1, none⟩ = some (.slice (some ⟨w.heap.size, 0, none⟩) 3 3) := by rw [(X5.out.trans hx5).cell (by simpa using v1)]; exact d1
  have HB5 := Lib.hid (HB4.out.ext (X5.out.trans hx5))
  have E5 := Lib.hid (E4.out.trans (X5.out.trans hx5))
  have hs5 := (X5.out.trans hx5).size
  have t1 : w.heap.size + 1 < w5.heap.size := by omega
  clear hx5 X5 HB4 E4 HX4 HW4 d0 d1 f0 f1 g4
  go_wp2_with fail
  refine (majority_any 4 _).mono ?_
  rw [mj4]
  rintro e w' ⟨rfl, rfl⟩
  go_wp2_with fail
  refine (fastQuorum_any 5 _).mono ?_
  rw [fq5]
  rintro e w' ⟨rfl, rfl⟩
  go_wp2_with fail
  refine (fastQuorum_any 16 _).mono ?_
  rw [fq16]
  rintro e w' ⟨rfl, rfl⟩
  go_wp2_with fail
  refine (valid_yes 0 _ _ [1, 2, 3] _ HB5.out (by decide) vb1).mono ?_
  rintro e w6 ⟨rfl, hx6⟩
  have r0 : w6.cell? ⟨w.heap.size + 1, 0, none⟩ = some (.int .i64 0) := by rw [hx6.cell t1]; exact p0
  have r1 : w6.cell? ⟨w.heap.size + 1, 1, none⟩ = some (.slice (some ⟨w.heap.size, 0, none⟩) 3 3) := by rw [hx6.cell t1]; exact p1
  have HB6 := Lib.hid (HB5.out.ext hx6)
  have E6 := Lib.hid (E5.out.trans hx6)
  have t2 : w.heap.size + 1 < w6.heap.size := by have := hx6.size; omega
  clear hx6 p0 p1 HB5 E5
  go_wp2_with fail
  refine (valid_no 0 none 0 [] _ (Row.nil _ _) (by decide) vb2).mono ?_
  rintro e w7 ⟨rfl, hx7⟩
  have s1 : w7.cell? ⟨w.heap.size + 1, 1, none⟩ = some (.slice (some ⟨w.heap.size, 0, none⟩) 3 3) := by rw [hx7.cell t2]; exact r1
  have HB7 := Lib.hid (HB6.out.ext hx7)
  have E7 := Lib.hid (E6.out.trans hx7)
  clear hx7 r0 r1 HB6 E6
  go_wp2_with fail
  refine (place_any _ _ [1, 2, 3] 3 _ HB7.out (by decide)).mono ?_
  rw [pl1]
  rintro e w' ⟨rfl, rfl⟩
  go_wp2
  go_ret
  exact ⟨rfl, E7.out⟩
end Go.Proofs.Ytagmocofmedmjaa
