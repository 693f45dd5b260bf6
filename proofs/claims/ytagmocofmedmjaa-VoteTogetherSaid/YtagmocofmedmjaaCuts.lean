/- The contract of layer 8's Cuts: some applicable cuts. -/
import Derived.Test.YtagmocofmedmjaaVote9
namespace Go.Proofs.Ytagmocofmedmjaa
open Go.RowKit

theorem info_ints : (Try.prog.info? 22).map (fun i => (i.zero, i.size, i.bytes)) = some (some (.slice none 0 0), 1, 24) := by kernel_rfl
theorem rowv1 {w : World} {b : Nat} {v : Value} (h0 : w.cell? ⟨b, 0, none⟩ = some v) : Row w (some ⟨b, 0, none⟩) [v] := by
  intro _
  refine ⟨b, 0, rfl, World.block_lt_of_cell? w _ h0, fun j u hj => ?_⟩
  match j, hj with
  | 0, hj => simp at hj; subst hj; exact h0
def CutsAt (w : World) (num : Int) (xs : List Int) (A : Option Addr) (cs : List Bal) : Prop := Row w A (cs.map Bal.val) ∧ ∀ b ∈ cs, Row w b.A (ints b.cut) ∧ b.cut.length ≤ b.c ∧ b.c ≤ maxLen ∧ applF num xs b.cut = true
theorem CutsAt.ext {w w' : World} {num : Int} {xs : List Int} {A : Option Addr} {cs : List Bal} (h : CutsAt w num xs A cs) (e : Ext w w') : CutsAt w' num xs A cs := ⟨h.1.ext e, fun b hb => ⟨(h.2 b hb).1.ext e, (h.2 b hb).2⟩⟩
theorem CutsAt.at_ {w : World} {num : Int} {xs : List Int} {A : Option Addr} {cs : List Bal} {k : Nat} (h : CutsAt w num xs A cs) (hk : k < cs.length) :
    ∃ b off X cx ct, A = some ⟨b, off, none⟩ ∧ b < w.heap.size ∧ w.cell? ⟨b, off + k, none⟩ = some (.slice X (List.length ct) cx) ∧ Hid (Row w X (ints ct)) ∧ ct.length ≤ cx ∧ cx ≤ maxLen ∧ Hid (applF num xs ct = true) := by
  obtain ⟨b, off, h1, h2, h3⟩ := h.1.addr (k := k) (by simpa using hk)
  have hr := h.2 _ (List.getElem_mem hk)
  exact ⟨b, off, cs[k].A, cs[k].c, cs[k].cut, h1, h2, h3 _ _ (by rw [List.getElem?_map, List.getElem?_eq_getElem hk]; rfl), hr.1, hr.2.1, hr.2.2.1, hr.2.2.2⟩
theorem vals_one (cs : List Bal) : ∀ u ∈ cs.map Bal.val, u.oneCell' = true := by
  intro u hu; obtain ⟨b, _, rfl⟩ := List.mem_map.1 hu; rfl
/-- the cuts of a view are returned, each of them applicable -/
def GivesCuts (w : World) (num : Int) (xs : List Int) (en : Ending) (w' : World) : Prop :=
  ∃ A c cs, en = .returned (.slice A (List.length cs) c) ∧ cs.length ≤ c ∧ c ≤ maxLen ∧ cs.length ≤ 3 ∧ Hid (CutsAt w' num xs A cs) ∧ Ext w w'
theorem gives_cuts {w w' : World} {num : Int} {xs : List Int} {B : Nat} {v : Value} {cs : List Bal} (h : Own w' B 22 v (cs.map Bal.val)) (hl : cs.length ≤ 3) (hc : ∀ b ∈ cs, Row w' b.A (ints b.cut) ∧ b.cut.length ≤ b.c ∧ b.c ≤ maxLen ∧ applF num xs b.cut = true) (e : Ext w w') : GivesCuts w num xs (.returned v) w' := by
  obtain ⟨A, c, hv, h1, h2, h3⟩ := h.slice
  rw [List.length_map] at hv h1
  subst hv
  exact ⟨A, c, cs, rfl, h1, h2, hl, Lib.hid ⟨h3, hc⟩, e⟩

set_option maxRecDepth 100000 in
set_option maxHeartbeats 4000000 in
theorem cuts_any (num : Int) (A : Option Addr) (c : Nat) (xs : List Int) (w : World) (hx : Row w A (ints xs)) (hc : xs.length ≤ c) (hcm : c ≤ maxLen) (hn : c ≤ 9223372036854775807) :
    Calls Try.prog 46 #[.agg #[.int .i64 num, .slice A xs.length c]] w (GivesCuts w num xs) := by
  have H0 := Lib.hid (Ext.new w (.cells #[.int .i64 num, .slice A xs.length c] 36))
  have HX := Lib.hid (hx.ext H0.out)
  have HW := Lib.hid hx
  clear hx
  go_enter Try.func46, Try.ntmps46
  go_wp2
  go_loopw [3, 4] (fun v i wr => ∃ (k : Nat) (cs : List Bal), k ≤ xs.length ∧ i = .int .i64 k ∧ cs.length ≤ 2 ∧ Hid (Own wr (w.heap.size + 1) 22 v (cs.map Bal.val)) ∧ (∃ A3 c3, v = .slice A3 cs.length c3) ∧ Hid (∀ b ∈ cs, Row w b.A (ints b.cut) ∧ b.cut.length ≤ b.c ∧ b.c ≤ maxLen ∧ applF num xs b.cut = true) ∧ Ext (w.alloc (.cells #[.int .i64 num, .slice A xs.length c] 36)) wr) (fun _ i _ => xs.length - (intOf i).toNat)
  case atStart => exact ⟨0, [], Nat.zero_le _, rfl, by simp, Lib.hid (Own.nil _ _ _), ⟨none, 0, rfl⟩, Lib.hid (by simp), Ext.refl _⟩
  case round =>
    obtain ⟨k, cs, hk, rfl, hcl, HO, ⟨A3, c3, rfl⟩, HC, HS0⟩ := hrel
    have HS := Lib.hid HS0; clear HS0
    have q0 : wr.cell? ⟨w.heap.size, 0, none⟩ = some (.int .i64 num) := by simpa using HS.out.cell_new 0
    have q1 : wr.cell? ⟨w.heap.size, 1, none⟩ = some (.slice A xs.length c) := by simpa using HS.out.cell_new 1
    have z1 : w.heap.size < wr.heap.size := by have := HS.out.size; simp at this; omega
    by_cases hlt : k < xs.length ∧ cs.length < 2
    · obtain ⟨hlt, hcs⟩ := hlt
      obtain ⟨b, off, x, hA, hcell, HXk⟩ := HW.out.at_ hlt
      subst hA
      have hb : b < w.heap.size := World.block_lt_of_cell? w _ hcell
      have RX0 := Lib.hid ((HX.out.ext HS.out).ext (Ext.drew (Ext.refl _)))
      have RK : Hid (Row w (some ⟨b, off + k, none⟩) (ints [x])) := Lib.hid (row1 hcell)
      have hw1 : IntKind.i64.wrap ((k : Int) + 1) = (k : Int) + 1 := IntWalk.i64_in _ (by omega)
      have hk1 : (0 : Int) ≤ (k : Int) + 1 := by omega
      have hk2 : (k : Int) + 1 ≤ (c : Int) := by omega
      have hck : ¬ c = k := by omega
      have hcs' : (cs.length : Int) < 2 := by omega
      go_wp2
      refine still_tail_drew 7 (by kernel_rfl) (by kernel_rfl) ?_
      simp only [List.take_succ_cons, List.take_zero, List.drop_succ_cons, List.drop_zero]
      with_reducible refine wpS_take (v := ?_) ?_ ?_ ?_
      rotate_left
      · rfl
      · (go_simp <;> with_reducible rfl)
      try simp only [Act.put, List.setIfInBounds_toArray, List.set_cons_zero, List.set_cons_succ]
      with_reducible refine wpS_take (v := ?_) ?_ ?_ ?_
      rotate_left
      · rfl
      · (go_simp <;> with_reducible rfl)
      try simp only [Act.put, List.setIfInBounds_toArray, List.set_cons_zero, List.set_cons_succ]
      with_reducible refine wpS_take (v := ?_) ?_ ?_ ?_
      rotate_left
      · rfl
      · (go_simp <;> with_reducible rfl)
      try simp only [Act.put, List.setIfInBounds_toArray, List.set_cons_zero, List.set_cons_succ]
      with_reducible refine wpS_take (v := ?_) ?_ ?_ ?_
      rotate_left
      · rfl
      · (go_simp <;> with_reducible rfl)
      try simp only [Act.put, List.setIfInBounds_toArray, List.set_cons_zero, List.set_cons_succ]
      with_reducible refine wpS_take (v := ?_) ?_ ?_ ?_
      rotate_left
      · rfl
      · (go_simp <;> with_reducible rfl)
      try simp only [Act.put, List.setIfInBounds_toArray, List.set_cons_zero, List.set_cons_succ]
      with_reducible refine wpS_take (v := ?_) ?_ ?_ ?_
      rotate_left
      · rfl
      · (go_simp <;> with_reducible rfl)
      try simp only [Act.put, List.setIfInBounds_toArray, List.set_cons_zero, List.set_cons_succ]
      with_reducible refine wpS_take (v := ?_) ?_ ?_ ?_
      rotate_left
      · rfl
      · (go_simp <;> with_reducible rfl)
      try simp only [Act.put, List.setIfInBounds_toArray, List.set_cons_zero, List.set_cons_succ]
      refine wpStill_nil ?_
      go_wp2_with fail
      refine (rapplicable_any num (some ⟨b, off, none⟩) (some ⟨b, off + k, none⟩) c (c - k) xs [x] _ RX0.out (RK.out.ext (H0.out.trans (HS.out.drew))) (by omega) (by simp)).mono ?_
      cases ha : applF num xs [x]
      · clear ha
        rintro e w2 ⟨rfl, hx2⟩
        have X2 := Lib.hid ((Ext.drew (Ext.refl wr)).trans hx2)
        have HS2 := Lib.hid (HS.out.trans X2.out)
        clear hx2
        go_wp2
        go_roundw
        case rel => exact ⟨k + 1, cs, by omega, by go_num, hcl, Lib.hid (HO.out.ext X2.out), ⟨A3, c3, rfl⟩, HC, HS2.out⟩
        case measure => simp [intOf] <;> omega
      · have HA := Lib.hid ha; clear ha
        rintro e w2 ⟨rfl, hx2⟩
        have X2 := Lib.hid ((Ext.drew (Ext.refl wr)).trans hx2)
        have HS2 := Lib.hid (HS.out.trans X2.out)
        clear hx2
        have HO2 := Lib.hid (HO.out.ext X2.out)
        have r0 : w2.cell? ⟨w.heap.size, 0, none⟩ = some (.int .i64 num) := by simpa using HS2.out.cell_new 0
        have r1 : w2.cell? ⟨w.heap.size, 1, none⟩ = some (.slice (some ⟨b, off, none⟩) xs.length c) := by simpa using HS2.out.cell_new 1
        go_wp2_with (first
          | (at_builtin; refine push_row rfl (.tmp 26) (.tmp 33) _ 22 _ 24 rfl Try.underlying55 info_ints rfl (by decide) _ (w.heap.size + 1) _ (cs.map Bal.val) (by rfl) _ _ _ (List.map Bal.val [⟨0, some ⟨b, off + k, none⟩, c - k, [x]⟩]) (by rfl) (by rfl) (rowv1 (by simp [Bal.val])) (vals_one _) (HO2.out.ext (Ext.new _ _)) (by simp; omega) (by have := HS2.out.size; simp at *; omega) ?_; intro v3 w3 ho3 hg3 hs3))
        have X3 := Lib.hid (Grew.below (B := w.heap.size + 1) (a := w.alloc (.cells #[.int .i64 num, .slice (some ⟨b, off, none⟩) xs.length c] 36)) (by have h := HS2.out.alloc (.cells #[.slice (some ⟨b, off + k, none⟩) 1 (c - k)] 22); simpa [Ext] using h) hg3 (by have := HS2.out.size; simp at *; omega) (fun q hq => (HO.out.lt q hq).1))
        have HXR : Hid (Ext (w.alloc (.cells #[.int .i64 num, .slice (some ⟨b, off, none⟩) xs.length c] 36)) w3) := Lib.hid (by simpa [Ext] using X3.out)
        have HO3 : Hid (Own w3 (w.heap.size + 1) 22 v3 (List.map Bal.val (cs ++ [⟨0, some ⟨b, off + k, none⟩, c - k, [x]⟩]))) := Lib.hid (by rw [List.map_append]; exact ho3)
        obtain ⟨A4, c4, hv4, _, _, _⟩ := HO3.out.slice
        rw [List.length_map] at hv4
        clear ho3 hg3 hs3
        go_wp2
        go_roundw
        case rel =>
          refine ⟨k + 1, cs ++ [⟨0, some ⟨b, off + k, none⟩, c - k, [x]⟩], by omega, by go_num, by simp; omega, HO3, ⟨A4, c4, hv4⟩, Lib.hid (fun q hq => ?_), HXR.out⟩
          rcases List.mem_append.1 hq with hq | hq
          · exact HC.out q hq
          · rw [List.mem_singleton.1 hq]; exact ⟨RK.out, by simp; omega, by simp only; omega, HA.out⟩
        case measure => simp [intOf] <;> omega
    · have hc3 : (cs.length : Int) < 3 := by omega
      have hc3' : cs.length < 3 := by omega
      by_cases hlt2 : k < xs.length
      · have hcs : ¬ cs.length < 2 := by omega
        have hcs2 : 2 ≤ cs.length := by omega
        have hcs' : decide ((cs.length : Int) < 2) = false := decide_eq_false (by omega)
        clear hlt
        obtain ⟨wo, rfl⟩ : ∃ x, x = wr := ⟨wr, rfl⟩
        go_wp2
        go_loopw [5] (fun i wy => ∃ id : Nat, 1 ≤ id ∧ id ≤ 1001 ∧ i = .int .i64 id ∧ Ext wo wy) (fun i _ => 1001 - (intOf i).toNat)
        case atStart => exact ⟨1, by omega, by omega, rfl, Ext.refl _⟩
        case round =>
          obtain ⟨id, hi1, hi2, rfl, HY0⟩ := hrel
          have HY := Lib.hid HY0; clear HY0
          have HSY := Lib.hid (HS.out.trans HY.out)
          have p0 : wr.cell? ⟨w.heap.size, 0, none⟩ = some (.int .i64 num) := by simpa using HSY.out.cell_new 0
          have p1 : wr.cell? ⟨w.heap.size, 1, none⟩ = some (.slice A xs.length c) := by simpa using HSY.out.cell_new 1
          by_cases hid : id ≤ 1000
          · have hw2 : IntKind.i64.wrap ((id : Int) + 1) = (id : Int) + 1 := IntWalk.i64_in _ (by omega)
            go_wp2_with fail
            refine (rcontains_any _ _ xs id _ (HX.out.ext HSY.out) (by omega)).mono ?_
            cases hh : hasB xs id
            · clear hh
              rintro e w5 ⟨rfl, rfl⟩
              go_wp2_with fail
              have E5 := Lib.hid (Ext.new wr (.cells #[.int .i64 id] 3))
              refine (rapplicable_any num A (some ⟨wr.heap.size, 0, none⟩) c 1 xs [(id : Int)] _ (HX.out.ext (HSY.out.trans E5.out)) (row1 (by simp)) (by omega) (by simp)).mono ?_
              cases ha : applF num xs [(id : Int)]
              · clear ha
                rintro e w6 ⟨rfl, hx6⟩
                have X6 := Lib.hid (HY.out.trans (E5.out.trans hx6)); clear hx6
                go_wp2
                go_roundw
                case rel => exact ⟨id + 1, by omega, by omega, by go_num, X6.out⟩
                case measure => simp [intOf] <;> omega
              · have HA := Lib.hid ha; clear ha
                rintro e w6 ⟨rfl, hx6⟩
                have X6 := Lib.hid (HY.out.trans (E5.out.trans hx6)); clear hx6
                have HO6 := Lib.hid (HO.out.ext X6.out)
                go_wp2_with (first
                  | (at_builtin; refine push_row rfl (.tmp 55) (.tmp 58) _ 22 _ 24 rfl Try.underlying55 info_ints rfl (by decide) _ (w.heap.size + 1) _ (cs.map Bal.val) (by rfl) _ _ _ (List.map Bal.val [⟨0, some ⟨w6.heap.size, 0, none⟩, 1, [(id : Int)]⟩]) (by rfl) (by rfl) (rowv1 (by simp [Bal.val])) (vals_one _) ((HO6.out.ext (Ext.new _ _)).ext (Ext.new _ _)) (by simp; omega) (by have := (HSY.out.trans (E5.out.trans (Ext.refl _))).size; have := X6.out.size; have := HS.out.size; simp at *; omega) ?_; intro v7 w7 ho7 hg7 hs7))
                have X7 := Lib.hid (Grew.below (B := w.heap.size + 1) (a := w.alloc (.cells #[.int .i64 num, .slice A xs.length c] 36)) (by have h := ((HS.out.trans X6.out).alloc (.cells #[.int .i64 id] 3)).alloc (.cells #[.slice (some ⟨w6.heap.size, 0, none⟩) 1 1] 22); simpa [Ext] using h) hg7 (by have := (HS.out.trans X6.out).size; simp at *; omega) (fun q hq => (HO.out.lt q hq).1))
                have HXR : Hid (Ext (w.alloc (.cells #[.int .i64 num, .slice A xs.length c] 36)) w7) := Lib.hid (by simpa [Ext] using X7.out)
                have RN : Hid (Row w7 (some ⟨w6.heap.size, 0, none⟩) (ints [(id : Int)])) := Lib.hid ((row1 (by simp)).grew hg7 (fun q p hp hq => by cases hp; have := (HO6.out.lt q hq).2; simp only; omega))
                go_wp2
                go_ret
                refine gives_cuts (cs := cs ++ [⟨0, some ⟨w6.heap.size, 0, none⟩, 1, [(id : Int)]⟩]) (by rw [List.map_append]; exact ho7) (by simp; omega) (fun q hq => ?_) (H0.out.trans HXR.out)
                rcases List.mem_append.1 hq with hq | hq
                · have := HC.out q hq
                  exact ⟨this.1.ext (H0.out.trans HXR.out), this.2⟩
                · rw [List.mem_singleton.1 hq]; exact ⟨RN.out, by simp, show 1 ≤ maxLen by decide, HA.out⟩
            · clear hh
              rintro e w5 ⟨rfl, rfl⟩
              go_wp2
              go_roundw
              case rel => exact ⟨id + 1, by omega, by omega, by go_num, HY.out⟩
              case measure => simp [intOf] <;> omega
          · go_wp2
            go_ret
            exact gives_cuts (HO.out.ext HY.out) (by omega) (fun q hq => ⟨(HC.out q hq).1.ext (H0.out.trans HSY.out), (HC.out q hq).2⟩) (H0.out.trans HSY.out)
      · clear hlt
        obtain ⟨wo, rfl⟩ : ∃ x, x = wr := ⟨wr, rfl⟩
        go_wp2
        go_loopw [5] (fun i wy => ∃ id : Nat, 1 ≤ id ∧ id ≤ 1001 ∧ i = .int .i64 id ∧ Ext wo wy) (fun i _ => 1001 - (intOf i).toNat)
        case atStart => exact ⟨1, by omega, by omega, rfl, Ext.refl _⟩
        case round =>
          obtain ⟨id, hi1, hi2, rfl, HY0⟩ := hrel
          have HY := Lib.hid HY0; clear HY0
          have HSY := Lib.hid (HS.out.trans HY.out)
          have p0 : wr.cell? ⟨w.heap.size, 0, none⟩ = some (.int .i64 num) := by simpa using HSY.out.cell_new 0
          have p1 : wr.cell? ⟨w.heap.size, 1, none⟩ = some (.slice A xs.length c) := by simpa using HSY.out.cell_new 1
          by_cases hid : id ≤ 1000
          · have hw2 : IntKind.i64.wrap ((id : Int) + 1) = (id : Int) + 1 := IntWalk.i64_in _ (by omega)
            go_wp2_with fail
            refine (rcontains_any _ _ xs id _ (HX.out.ext HSY.out) (by omega)).mono ?_
            cases hh : hasB xs id
            · clear hh
              rintro e w5 ⟨rfl, rfl⟩
              go_wp2_with fail
              have E5 := Lib.hid (Ext.new wr (.cells #[.int .i64 id] 3))
              refine (rapplicable_any num A (some ⟨wr.heap.size, 0, none⟩) c 1 xs [(id : Int)] _ (HX.out.ext (HSY.out.trans E5.out)) (row1 (by simp)) (by omega) (by simp)).mono ?_
              cases ha : applF num xs [(id : Int)]
              · clear ha
                rintro e w6 ⟨rfl, hx6⟩
                have X6 := Lib.hid (HY.out.trans (E5.out.trans hx6)); clear hx6
                go_wp2
                go_roundw
                case rel => exact ⟨id + 1, by omega, by omega, by go_num, X6.out⟩
                case measure => simp [intOf] <;> omega
              · have HA := Lib.hid ha; clear ha
                rintro e w6 ⟨rfl, hx6⟩
                have X6 := Lib.hid (HY.out.trans (E5.out.trans hx6)); clear hx6
                have HO6 := Lib.hid (HO.out.ext X6.out)
                go_wp2_with (first
                  | (at_builtin; refine push_row rfl (.tmp 55) (.tmp 58) _ 22 _ 24 rfl Try.underlying55 info_ints rfl (by decide) _ (w.heap.size + 1) _ (cs.map Bal.val) (by rfl) _ _ _ (List.map Bal.val [⟨0, some ⟨w6.heap.size, 0, none⟩, 1, [(id : Int)]⟩]) (by rfl) (by rfl) (rowv1 (by simp [Bal.val])) (vals_one _) ((HO6.out.ext (Ext.new _ _)).ext (Ext.new _ _)) (by simp; omega) (by have := (HSY.out.trans (E5.out.trans (Ext.refl _))).size; have := X6.out.size; have := HS.out.size; simp at *; omega) ?_; intro v7 w7 ho7 hg7 hs7))
                have X7 := Lib.hid (Grew.below (B := w.heap.size + 1) (a := w.alloc (.cells #[.int .i64 num, .slice A xs.length c] 36)) (by have h := ((HS.out.trans X6.out).alloc (.cells #[.int .i64 id] 3)).alloc (.cells #[.slice (some ⟨w6.heap.size, 0, none⟩) 1 1] 22); simpa [Ext] using h) hg7 (by have := (HS.out.trans X6.out).size; simp at *; omega) (fun q hq => (HO.out.lt q hq).1))
                have HXR : Hid (Ext (w.alloc (.cells #[.int .i64 num, .slice A xs.length c] 36)) w7) := Lib.hid (by simpa [Ext] using X7.out)
                have RN : Hid (Row w7 (some ⟨w6.heap.size, 0, none⟩) (ints [(id : Int)])) := Lib.hid ((row1 (by simp)).grew hg7 (fun q p hp hq => by cases hp; have := (HO6.out.lt q hq).2; simp only; omega))
                go_wp2
                go_ret
                refine gives_cuts (cs := cs ++ [⟨0, some ⟨w6.heap.size, 0, none⟩, 1, [(id : Int)]⟩]) (by rw [List.map_append]; exact ho7) (by simp; omega) (fun q hq => ?_) (H0.out.trans HXR.out)
                rcases List.mem_append.1 hq with hq | hq
                · have := HC.out q hq
                  exact ⟨this.1.ext (H0.out.trans HXR.out), this.2⟩
                · rw [List.mem_singleton.1 hq]; exact ⟨RN.out, by simp, show 1 ≤ maxLen by decide, HA.out⟩
            · clear hh
              rintro e w5 ⟨rfl, rfl⟩
              go_wp2
              go_roundw
              case rel => exact ⟨id + 1, by omega, by omega, by go_num, HY.out⟩
              case measure => simp [intOf] <;> omega
          · go_wp2
            go_ret
            exact gives_cuts (HO.out.ext HY.out) (by omega) (fun q hq => ⟨(HC.out q hq).1.ext (H0.out.trans HSY.out), (HC.out q hq).2⟩) (H0.out.trans HSY.out)
end Go.Proofs.Ytagmocofmedmjaa
