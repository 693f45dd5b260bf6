/- The contract of layer 8's awake. -/
import Derived.Test.YtagmocofmedmjaaVote8
namespace Go.Proofs.Ytagmocofmedmjaa
open Go.RowKit

def awP : Nat → Ps
  | 0 => []
  | 1 => [(4, [4])]
  | 2 => [(3, [4]), (4, [4])]
  | 3 => [(2, [4]), (3, [4]), (4, [4])]
  | _ => [(1, [4]), (2, [4]), (3, [4]), (4, [4])]
theorem aw_win {j : Nat} (h : 1 ≤ j) (h' : j ≤ 4) : winF 0 [1, 2, 3, 4] (awP (j - 1)) = none := by
  rcases (show j = 1 ∨ j = 2 ∨ j = 3 ∨ j = 4 by omega) with rfl | rfl | rfl | rfl <;> decide +kernel
theorem aw_cast {j : Nat} (h : 1 ≤ j) (h' : j ≤ 4) : castF 0 [1, 2, 3, 4] (awP (j - 1)) (5 - (j : Int)) [4] = (awP j, 0) := by
  rcases (show j = 1 ∨ j = 2 ∨ j = 3 ∨ j = 4 by omega) with rfl | rfl | rfl | rfl <;> decide +kernel
theorem aw_len {j : Nat} : (awP j).length ≤ 4 := by
  match j with
  | 0 | 1 | 2 | 3 => decide
  | _ + 4 => simp [awP]
theorem aw_win4 : winF 0 [1, 2, 3, 4] (awP 4) = some [4] := by decide +kernel
theorem aw_dup : castF 0 [1, 2, 3, 4] (awP 4) 1 [4] = ([], 7) := by decide +kernel
theorem aw_votes : votesF (awP 4) [4] = 4 := by decide +kernel
theorem aw_und : undF 0 [1, 2, 3, 4] [(1, [4]), (2, [3])] = true := by decide +kernel
theorem row1 {w : World} {b off : Nat} {x : Int} (h0 : w.cell? ⟨b, off, none⟩ = some (.int .i64 x)) : Row w (some ⟨b, off, none⟩) (ints [x]) := by
  intro _
  refine ⟨b, off, rfl, World.block_lt_of_cell? w _ h0, fun j v hj => ?_⟩
  match j, hj with
  | 0, hj => simp [ints] at hj; subst hj; exact h0
theorem row4 {w : World} {b : Nat} {x y z u : Int} (h0 : w.cell? ⟨b, 0, none⟩ = some (.int .i64 x)) (h1 : w.cell? ⟨b, 1, none⟩ = some (.int .i64 y)) (h2 : w.cell? ⟨b, 2, none⟩ = some (.int .i64 z)) (h3 : w.cell? ⟨b, 3, none⟩ = some (.int .i64 u)) : Row w (some ⟨b, 0, none⟩) (ints [x, y, z, u]) := by
  intro _
  refine ⟨b, 0, rfl, World.block_lt_of_cell? w _ h0, fun j v hj => ?_⟩
  match j, hj with
  | 0, hj => simp [ints] at hj; subst hj; exact h0
  | 1, hj => simp [ints] at hj; subst hj; exact h1
  | 2, hj => simp [ints] at hj; subst hj; exact h2
  | 3, hj => simp [ints] at hj; subst hj; exact h3
theorem box2 {w : World} {b : Nat} {x y : Bal} (h0 : w.cell? ⟨b, 0, none⟩ = some (.int .i64 x.m)) (h1 : w.cell? ⟨b, 1, none⟩ = some x.val) (h2 : w.cell? ⟨b, 2, none⟩ = some (.int .i64 y.m)) (h3 : w.cell? ⟨b, 3, none⟩ = some y.val)
    (hx : Row w x.A (ints x.cut) ∧ x.cut.length ≤ x.c ∧ x.c ≤ maxLen) (hy : Row w y.A (ints y.cut) ∧ y.cut.length ≤ y.c ∧ y.c ≤ maxLen) : Box w (some ⟨b, 0, none⟩) [x, y] := by
  refine ⟨fun _ => ⟨b, 0, rfl, World.block_lt_of_cell? w _ h0, fun j v hj => ?_⟩, fun q hq => ?_⟩
  · match j, hj with
    | 0, hj => simp [balV] at hj; subst hj; exact h0
    | 1, hj => simp [balV] at hj; subst hj; exact h1
    | 2, hj => simp [balV] at hj; subst hj; exact h2
    | 3, hj => simp [balV] at hj; subst hj; exact h3
  · simp only [List.mem_cons, List.not_mem_nil, or_false] at hq
    rcases hq with rfl | rfl
    · exact hx
    · exact hy

/-- the world behind awake's first lines -/
def awW (w : World) : World := (w.alloc (.cells #[.int .i64 1, .int .i64 2, .int .i64 3, .int .i64 4] 3)).alloc (.cells #[.int .i64 0, .slice (some ⟨w.heap.size, 0, none⟩) 4 4] 36)
theorem aw_cells {w w' : World} (h : Ext (awW w) w') : w'.cell? ⟨w.heap.size + 1, 0, none⟩ = some (.int .i64 0) ∧ w'.cell? ⟨w.heap.size + 1, 1, none⟩ = some (.slice (some ⟨w.heap.size, 0, none⟩) 4 4) ∧ Hid (Row w' (some ⟨w.heap.size, 0, none⟩) (ints [1, 2, 3, 4])) ∧ Hid (Ext w w') ∧ w.heap.size + 1 < w'.heap.size := by
  unfold awW at h
  have h1 := (Ext.new (w.alloc (.cells #[.int .i64 1, .int .i64 2, .int .i64 3, .int .i64 4] 3)) _).trans h
  have e : (w.alloc (.cells #[.int .i64 1, .int .i64 2, .int .i64 3, .int .i64 4] 3)).heap.size = w.heap.size + 1 := by simp
  refine ⟨?_, ?_, Lib.hid (row4 (by simpa using h1.cell_new 0) (by simpa using h1.cell_new 1) (by simpa using h1.cell_new 2) (by simpa using h1.cell_new 3)), Lib.hid ((Ext.new _ _).trans h1), ?_⟩
  · have := h.cell_new 0; rw [e] at this; simpa using this
  · have := h.cell_new 1; rw [e] at this; simpa using this
  · have := h.size; simp at this; omega

set_option maxRecDepth 100000 in
set_option maxHeartbeats 4000000 in
theorem awake8_any (w : World) : Calls Try.prog 31 #[] w fun e w' => e = .returned (.bool true) ∧ Ext w w' := by
  go_enter Try.func31, Try.ntmps31
  go_wp2
  go_loopw [2, 3] (fun v i wr => ∃ (j : Nat) (A : Option Addr) (c : Nat) (bs : List Bal), 1 ≤ j ∧ j ≤ 5 ∧ i = .int .i64 j ∧ v = .slice A bs.length c ∧ bs.length ≤ 4 ∧ Hid (prs bs = awP (j - 1)) ∧ Hid (Box wr A bs) ∧ Ext (awW w) wr) (fun _ i _ => 6 - (intOf i).toNat)
  case atStart => exact ⟨1, none, 0, [], by omega, by omega, rfl, rfl, by simp, Lib.hid rfl, Lib.hid (Box.nil _ _), Ext.refl _⟩
  case round =>
    obtain ⟨j, A, c, bs, hj1, hj5, rfl, rfl, hbl, HPR, HBX, HS0⟩ := hrel
    have HS := Lib.hid HS0; clear HS0
    obtain ⟨v0, v1, RV, XW, zz⟩ := aw_cells HS.out
    by_cases hlt : j ≤ 4
    · have HJ := Lib.hid (aw_win hj1 hlt); have HC := Lib.hid (aw_cast hj1 hlt)
      have hw : IntKind.i64.wrap (5 - ((j : Nat) : Int)) = 5 - (j : Int) := IntWalk.i64_in _ (by omega)
      go_wp2_with fail
      refine Calls.mono (winner_any 0 (some ⟨w.heap.size, 0, none⟩) A 4 c [1, 2, 3, 4] bs _ RV.out HBX.out (by decide) (by omega)) ?_
      rw [HPR.out, HJ.out]
      rintro e w1 ⟨A1, c1, rfl, _, _, _, hx1⟩
      simp only [Option.getD_none, Option.isSome_none, List.length_nil]
      have HS1 := Lib.hid (HS.out.trans hx1); have HBX1 := Lib.hid (HBX.out.ext hx1)
      clear hx1 HS v0 v1 RV XW zz HBX
      obtain ⟨v0, v1, RV, XW, zz⟩ := aw_cells HS1.out
      go_wp2_with fail
      have E2 := Lib.hid (Ext.new w1 (.cells #[.int .i64 4] 3))
      refine Calls.mono (cast_any 0 (5 - (j : Int)) (some ⟨w.heap.size, 0, none⟩) A (some ⟨w1.heap.size, 0, none⟩) 4 c 1 [1, 2, 3, 4] [4] bs _ (RV.out.ext E2.out) (HBX1.out.ext E2.out) ?r1 (by decide) (by decide) (by decide) (by omega)) ?_
      case r1 => exact row1 (by simp [go_sem])
      rw [HPR.out, HC.out]
      rintro e w2 ⟨A2, c2, bs2, rfl, _, _, HP2, HB2, hx2⟩
      have HS2 := Lib.hid (HS1.out.trans (E2.out.trans hx2))
      have hl2 : bs2.length ≤ 4 := by rw [← prs_len, HP2.out]; exact aw_len
      clear hx2
      go_wp2
      go_roundw
      case rel => exact ⟨j + 1, A2, c2, bs2, by omega, by omega, by go_num, rfl, hl2, HP2, HB2, HS2.out⟩
      case measure => simp [intOf] <;> omega
    · have hj : j = 5 := by omega
      subst hj
      clear hj1 hj5 hlt
      go_wp2_with fail
      have E1 := Lib.hid (Ext.new wr (.cells #[.int .i64 4] 3))
      refine Calls.mono (cast_any 0 1 (some ⟨w.heap.size, 0, none⟩) A (some ⟨wr.heap.size, 0, none⟩) 4 c 1 [1, 2, 3, 4] [4] bs _ (RV.out.ext E1.out) (HBX.out.ext E1.out) ?r1 (by decide) (by decide) (by decide) (by omega)) ?_
      case r1 => exact row1 (by simp [go_sem])
      rw [HPR.out, aw_dup]
      rintro e w1 ⟨A1, c1, bs1, rfl, _, _, HP1, HB1, hx1⟩
      have HS1 := Lib.hid (HS.out.trans (E1.out.trans hx1)); have HBX1 := Lib.hid (HBX.out.ext (E1.out.trans hx1))
      clear hx1 HS v0 v1 RV XW zz HBX HB1 HP1 E1
      obtain ⟨v0, v1, RV, XW, zz⟩ := aw_cells HS1.out
      go_wp2_with fail
      refine Calls.mono (winner_any 0 (some ⟨w.heap.size, 0, none⟩) A 4 c [1, 2, 3, 4] bs _ RV.out HBX1.out (by decide) (by omega)) ?_
      rw [HPR.out, aw_win4]
      rintro e w2 ⟨A2, c2, rfl, _, _, HR2, hx2⟩
      simp only [Option.getD_some, Option.isSome_some, List.length_cons, List.length_nil, Nat.zero_add] at HR2 ⊢
      have HS2 := Lib.hid (HS1.out.trans hx2); have HBX2 := Lib.hid (HBX1.out.ext hx2)
      clear hx2 HS1 v0 v1 RV XW zz HBX1
      obtain ⟨v0, v1, RV, XW, zz⟩ := aw_cells HS2.out
      obtain ⟨b, off, y, rfl, hc, HY⟩ := HR2.out.at_ (show 0 < [(4 : Int)].length by decide)
      have hy : y = 4 := by have := HY.out; simp at this; exact this.symm
      subst hy
      simp only [Nat.add_zero] at hc
      clear HY HR2
      have E3 := Lib.hid (Ext.new w2 (.cells #[.int .i64 4] 3))
      go_wp2_with fail
      refine Calls.mono (votes_any A (some ⟨w2.heap.size, 0, none⟩) c 1 bs [4] _ (HBX2.out.ext E3.out) ?r1 (by omega)) ?_
      case r1 => exact row1 (by simp [go_sem])
      rw [HPR.out, show votesF (awP (5 - 1)) [4] = 4 from aw_votes]
      rintro e w3 ⟨rfl, hx3⟩
      have HS3 := Lib.hid (HS2.out.trans (E3.out.trans hx3))
      clear hx3 HS2 v0 v1 RV XW zz HBX2 E3 hc
      obtain ⟨v0, v1, RV, XW, zz⟩ := aw_cells HS3.out
      go_wp2_with fail
      have E4 := Lib.hid (((Ext.new w3 (.cells #[.int .i64 4] 3)).alloc (.cells #[.int .i64 3] 3)).alloc (.cells #[.int .i64 1, .slice (some ⟨w3.heap.size, 0, none⟩) 1 1, .int .i64 2, .slice (some ⟨w3.heap.size + 1, 0, none⟩) 1 1] 44))
      refine Calls.mono (undecidable_any 0 (some ⟨w.heap.size, 0, none⟩) (some ⟨w3.heap.size + 1 + 1, 0, none⟩) 4 2 [1, 2, 3, 4] [⟨1, some ⟨w3.heap.size, 0, none⟩, 1, [4]⟩, ⟨2, some ⟨w3.heap.size + 1, 0, none⟩, 1, [3]⟩] _ (RV.out.ext E4.out) ?r1 (by decide) (show 2 ≤ 1000 by decide)) ?_
      case r1 => exact box2 (by simp [go_sem]) (by simp [go_sem, Bal.val]) (by simp [go_sem]) (by simp [go_sem, Bal.val]) ⟨row1 (by simp [go_sem]), show 1 ≤ 1 by decide, show 1 ≤ maxLen by decide⟩ ⟨row1 (by simp [go_sem]), show 1 ≤ 1 by decide, show 1 ≤ maxLen by decide⟩
      rw [show undF 0 [1, 2, 3, 4] (prs [⟨1, some ⟨w3.heap.size, 0, none⟩, 1, [4]⟩, ⟨2, some ⟨w3.heap.size + 1, 0, none⟩, 1, [3]⟩]) = true from aw_und]
      rintro e w4 ⟨rfl, hx4⟩
      have HS4 := Lib.hid (HS3.out.trans (E4.out.trans hx4))
      clear hx4 HS3 v0 v1 RV XW zz E4
      go_wp2_with fail
      refine Calls.mono (fsame_any none (some ⟨w4.heap.size, 0, none⟩) 0 0 [] [] _ (Row.nil _ _) (Row.nil _ _) (by decide)) ?_
      rintro e w5 ⟨rfl, hx5⟩
      have HS5 := Lib.hid ((aw_cells HS4.out).2.2.2.1.out.trans ((Ext.new _ _).trans hx5))
      go_wp2
      go_ret
      exact ⟨ret_bool (by decide), HS5.out⟩
end Go.Proofs.Ytagmocofmedmjaa
