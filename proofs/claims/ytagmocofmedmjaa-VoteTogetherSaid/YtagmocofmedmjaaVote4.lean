/- Contracts of fastvote.Valid and the reference's Valid. -/
import Derived.Test.YtagmocofmedmjaaClone
import Derived.Test.YtagmocofmedmjaaPlain5
import Derived.StillTailTactics
namespace Go.Proofs.Ytagmocofmedmjaa
open Go.RowKit

theorem still_tail_drew {P : Program} {id : Nat} {Q : Exit → Act → World → Prop} {a : Act} {w : World} {l : List Oper} (n : Nat) (hm : P.follows .mixedOrders = true) (hB : Region.lexTailB .any l.toArray n = true)
    (h : wpStill P l.toArray w.drew (fun a' => wpList P l.toArray Q (l.drop n) a' w.drew) (l.take n) a) : (Code.region id l.toArray true).wp P Q a w := wp_region_still_tail n hm hB h
theorem wpS_take {P : Program} {ops : Array Oper} {w : World} {Q : Act → Prop} {o : Oper} {rest : List Oper} {a : Act} {v : Value} (hw : Region.wanted o (yielded ops a.tmps) = true) (hv : (execOp a.eval o).run P w = .ok (.value v) w)
    (h : wpStill P ops w Q rest (a.put o.dst v)) : wpStill P ops w Q (o :: rest) a := by
  unfold wpStill; rw [if_pos hw]; unfold Oper.still; rw [hv]; exact ⟨rfl, h⟩
theorem wpS_skip {P : Program} {ops : Array Oper} {w : World} {Q : Act → Prop} {o : Oper} {rest : List Oper} {a : Act} (hw : Region.wanted o (yielded ops a.tmps) = false)
    (h : wpStill P ops w Q rest (a.put o.dst undef)) : wpStill P ops w Q (o :: rest) a := by
  unfold wpStill; rw [if_neg (by rw [hw]; simp)]; exact h
theorem wpS_call {P : Program} {ops : Array Oper} {w : World} {Q : Act → Prop} {o : Oper} {rest : List Oper} {a : Act} {v : Value} {f : FuncId} {args : Array Value} (hw : Region.wanted o (yielded ops a.tmps) = true) (hv : (execOp a.eval o).run P w = .ok (.enter f args) w)
    (hc : Calls P f args w fun e w'' => e = .returned v ∧ w'' = w) (h : wpStill P ops w Q rest (a.put o.dst v)) : wpStill P ops w Q (o :: rest) a := by
  unfold wpStill; rw [if_pos hw]; unfold Oper.still; rw [hv]; exact ⟨rfl, v, hc, h⟩
theorem ok_zero {num : Int} {xs : List Int} {ps : Ps} {k : Nat} {m : Int} {ct : List Int} (hz : k = 0) (h : ps[k]? = some (m, ct)) (h1 : hasB xs m = true) : okAt num xs ps k = applF num xs ct := by subst hz; exact ok_first h h1
theorem contains_c (A : Option Addr) (c : Nat) (xs : List Int) (id : Int) (w : World) (h : Row w A (ints xs)) (hn : xs.length ≤ 9223372036854775807) (b : Bool) (hb : hasB xs id = b) :
    Calls Try.prog 20 #[.slice A xs.length c, .int .i64 id] w fun e w' => e = .returned (.bool b) ∧ w' = w := by
  subst hb; exact (contains_any A c xs id w h hn).mono fun e w' h => ⟨h.1, h.2.symm⟩
theorem rcontains_c (A : Option Addr) (c : Nat) (xs : List Int) (id : Int) (w : World) (h : Row w A (ints xs)) (hn : xs.length ≤ 9223372036854775807) (b : Bool) (hb : hasB xs id = b) :
    Calls Try.prog 21 #[.slice A xs.length c, .int .i64 id] w fun e w' => e = .returned (.bool b) ∧ w' = w := by
  subst hb; exact (rcontains_any A c xs id w h hn).mono fun e w' h => ⟨h.1, h.2.symm⟩
theorem applicable_b (num : Int) (A Ac : Option Addr) (c cc : Nat) (xs cut : List Int) (w : World) (hx : Row w A (ints xs)) (hc : Row w Ac (ints cut))
    (hn : xs.length ≤ 9223372036854775807) (hnc : cut.length ≤ 9223372036854775807) (b : Bool) (hb : applF num xs cut = b) :
    Calls Try.prog 67 #[.agg #[.int .i64 num, .slice A xs.length c], .slice Ac cut.length cc] w fun e w' => e = .returned (.bool b) ∧ Ext w w' := by
  subst hb; exact applicable_any num A Ac c cc xs cut w hx hc hn hnc
theorem rapplicable_b (num : Int) (A Ac : Option Addr) (c cc : Nat) (xs cut : List Int) (w : World) (hx : Row w A (ints xs)) (hc : Row w Ac (ints cut))
    (hn : xs.length ≤ 9223372036854775807) (hnc : cut.length ≤ 9223372036854775807) (b : Bool) (hb : applF num xs cut = b) :
    Calls Try.prog 70 #[.agg #[.int .i64 num, .slice A xs.length c], .slice Ac cut.length cc] w fun e w' => e = .returned (.bool b) ∧ Ext w w' := by
  subst hb; exact rapplicable_any num A Ac c cc xs cut w hx hc hn hnc

set_option maxRecDepth 100000 in
set_option maxHeartbeats 4000000 in
theorem valid8_any (num : Int) (A B : Option Addr) (c d : Nat) (xs : List Int) (bs : List Bal) (w : World) (hx : Row w A (ints xs)) (hb : Box w B bs) (hn : xs.length ≤ 9223372036854775807) (hm : bs.length ≤ 1000) :
    Calls Try.prog 36 #[.agg #[.int .i64 num, .slice A xs.length c], .slice B bs.length d] w fun e w' => e = .returned (.bool (boxB num xs (prs bs))) ∧ Ext w w' := by
  have H0 := Lib.hid (Ext.new w (.cells #[.int .i64 num, .slice A xs.length c] 36))
  have HX := Lib.hid (hx.ext H0.out); have HB := Lib.hid (hb.ext H0.out)
  clear hx hb
  go_enter Try.func36, Try.ntmps36
  go_wp2_with fail
  refine (valid_any num A c xs _ HX.out hn).mono ?_
  cases hv : validB num xs
  · rintro e w1 ⟨rfl, hx1⟩
    go_wp2
    go_ret
    exact ⟨ret_bool (box_inv hv).symm, H0.out.trans hx1⟩
  · have HV := Lib.hid hv; clear hv
    rintro e w1 ⟨rfl, hx1⟩
    have X1 := Lib.hid hx1; clear hx1
    go_wp2
    go_loopw [12] (fun i wr => ∃ k : Nat, k ≤ bs.length ∧ i = .int .i64 k ∧ Hid (∀ j, j < k → okAt num xs (prs bs) j = true) ∧ Ext (w.alloc (.cells #[.int .i64 num, .slice A xs.length c] 36)) wr) (fun i _ => bs.length - (intOf i).toNat)
    case atStart => exact ⟨0, Nat.zero_le _, rfl, fun j hj => absurd hj (Nat.not_lt_zero _), X1.out⟩
    case round =>
      obtain ⟨k, hk, rfl, HT, HS0⟩ := hrel
      have HS := Lib.hid HS0; clear HS0
      by_cases hlt : k < bs.length
      · obtain ⟨b, off, m, X, cx, ct, rfl, hb, c0, c1, HR, hl1, hl2, HI⟩ := (HB.out.ext HS.out).at_ hlt
        have HP := Lib.hid (prs_at HI.out)
        have hbd : ct.length ≤ 9223372036854775807 := by unfold maxLen at hl2; omega
        have HXr := Lib.hid (HX.out.ext HS.out)
        have q0 : wr.cell? ⟨w.heap.size, 0, none⟩ = some (.int .i64 num) := by simpa using HS.out.cell_new 0
        have q1 : wr.cell? ⟨w.heap.size, 1, none⟩ = some (.slice A xs.length c) := by simpa using HS.out.cell_new 1
        have z1 : w.heap.size < wr.heap.size := by have := HS.out.size; simp at this; omega
        cases hh : hasB xs m
        · have HH := Lib.hid hh; clear hh
          have RX0 := Lib.hid (HXr.out.ext (Ext.drew (Ext.new wr (.cells #[.int .i64 m, .slice X ct.length cx] 44)))); have RC0 := Lib.hid (HR.out.ext (Ext.drew (Ext.new wr (.cells #[.int .i64 m, .slice X ct.length cx] 44))))
          go_wp2
          refine still_tail_drew 25 (by kernel_rfl) (by kernel_rfl) ?_
          simp only [List.take_succ_cons, List.take_zero, List.drop_succ_cons, List.drop_zero]
          with_reducible refine wpS_take (v := ?_) ?_ ?_ ?_
          rotate_left
          · rfl
          · (go_simp <;> with_reducible rfl)
          try simp only [Act.put, List.setIfInBounds_toArray, List.set_cons_zero, List.set_cons_succ]
          with_reducible refine wpS_take (v := ?_) ?_ ?_ ?_
          rotate_left
          · rfl
          · (go_simp <;> with_reducible rfl)
          try simp only [Act.put, List.setIfInBounds_toArray, List.set_cons_zero, List.set_cons_succ]
          with_reducible refine wpS_take (v := ?_) ?_ ?_ ?_
          rotate_left
          · rfl
          · (go_simp <;> with_reducible rfl)
          try simp only [Act.put, List.setIfInBounds_toArray, List.set_cons_zero, List.set_cons_succ]
          with_reducible refine wpS_take (v := ?_) ?_ ?_ ?_
          rotate_left
          · rfl
          · (go_simp <;> with_reducible rfl)
          try simp only [Act.put, List.setIfInBounds_toArray, List.set_cons_zero, List.set_cons_succ]
          with_reducible refine wpS_call ?_ ?_ (contains_c A c xs m _ RX0.out hn _ HH.out) ?_
          · rfl
          · (go_simp <;> with_reducible rfl)
          try simp only [Act.put, List.setIfInBounds_toArray, List.set_cons_zero, List.set_cons_succ]
          with_reducible refine wpS_take (v := ?_) ?_ ?_ ?_
          rotate_left
          · rfl
          · (go_simp <;> with_reducible rfl)
          try simp only [Act.put, List.setIfInBounds_toArray, List.set_cons_zero, List.set_cons_succ]
          with_reducible refine wpS_take (v := ?_) ?_ ?_ ?_
          rotate_left
          · rfl
          · (go_simp <;> with_reducible rfl)
          try simp only [Act.put, List.setIfInBounds_toArray, List.set_cons_zero, List.set_cons_succ]
          with_reducible refine wpS_skip ?_ ?_
          · rfl
          try simp only [Act.put, List.setIfInBounds_toArray, List.set_cons_zero, List.set_cons_succ]
          with_reducible refine wpS_skip ?_ ?_
          · rfl
          try simp only [Act.put, List.setIfInBounds_toArray, List.set_cons_zero, List.set_cons_succ]
          with_reducible refine wpS_skip ?_ ?_
          · rfl
          try simp only [Act.put, List.setIfInBounds_toArray, List.set_cons_zero, List.set_cons_succ]
          with_reducible refine wpS_skip ?_ ?_
          · rfl
          try simp only [Act.put, List.setIfInBounds_toArray, List.set_cons_zero, List.set_cons_succ]
          with_reducible refine wpS_skip ?_ ?_
          · rfl
          try simp only [Act.put, List.setIfInBounds_toArray, List.set_cons_zero, List.set_cons_succ]
          with_reducible refine wpS_skip ?_ ?_
          · rfl
          try simp only [Act.put, List.setIfInBounds_toArray, List.set_cons_zero, List.set_cons_succ]
          with_reducible refine wpS_skip ?_ ?_
          · rfl
          try simp only [Act.put, List.setIfInBounds_toArray, List.set_cons_zero, List.set_cons_succ]
          with_reducible refine wpS_skip ?_ ?_
          · rfl
          try simp only [Act.put, List.setIfInBounds_toArray, List.set_cons_zero, List.set_cons_succ]
          with_reducible refine wpS_skip ?_ ?_
          · rfl
          try simp only [Act.put, List.setIfInBounds_toArray, List.set_cons_zero, List.set_cons_succ]
          with_reducible refine wpS_skip ?_ ?_
          · rfl
          try simp only [Act.put, List.setIfInBounds_toArray, List.set_cons_zero, List.set_cons_succ]
          with_reducible refine wpS_skip ?_ ?_
          · rfl
          try simp only [Act.put, List.setIfInBounds_toArray, List.set_cons_zero, List.set_cons_succ]
          with_reducible refine wpS_skip ?_ ?_
          · rfl
          try simp only [Act.put, List.setIfInBounds_toArray, List.set_cons_zero, List.set_cons_succ]
          with_reducible refine wpS_skip ?_ ?_
          · rfl
          try simp only [Act.put, List.setIfInBounds_toArray, List.set_cons_zero, List.set_cons_succ]
          with_reducible refine wpS_take (v := ?_) ?_ ?_ ?_
          rotate_left
          · rfl
          · (go_simp <;> with_reducible rfl)
          try simp only [Act.put, List.setIfInBounds_toArray, List.set_cons_zero, List.set_cons_succ]
          with_reducible refine wpS_take (v := ?_) ?_ ?_ ?_
          rotate_left
          · rfl
          · (go_simp <;> with_reducible rfl)
          try simp only [Act.put, List.setIfInBounds_toArray, List.set_cons_zero, List.set_cons_succ]
          with_reducible refine wpS_skip ?_ ?_
          · rfl
          try simp only [Act.put, List.setIfInBounds_toArray, List.set_cons_zero, List.set_cons_succ]
          with_reducible refine wpS_skip ?_ ?_
          · rfl
          try simp only [Act.put, List.setIfInBounds_toArray, List.set_cons_zero, List.set_cons_succ]
          with_reducible refine wpS_skip ?_ ?_
          · rfl
          try simp only [Act.put, List.setIfInBounds_toArray, List.set_cons_zero, List.set_cons_succ]
          refine wpStill_nil ?_
          go_wp2
          go_ret
          exact ⟨ret_bool (box_no (by rw [prs_len]; exact hlt) (ok_has HP.out HH.out)).symm, H0.out.trans (HS.out.trans (Ext.drew (Ext.new wr (.cells #[.int .i64 m, .slice X ct.length cx] 44))))⟩
        · have HH := Lib.hid hh; clear hh
          by_cases hkz : k = 0
          · have HZ := Lib.hid hkz
            have hkd : decide ((0 : Int) < (k : Int)) = false := decide_eq_false (by omega)
            have hke : decide (0 < k) = false := decide_eq_false (by omega)
            clear hkz
            cases ha : applF num xs ct
            · have HA := Lib.hid ha; clear ha
              have RX0 := Lib.hid (HXr.out.ext (Ext.drew (Ext.new wr (.cells #[.int .i64 m, .slice X ct.length cx] 44)))); have RC0 := Lib.hid (HR.out.ext (Ext.drew (Ext.new wr (.cells #[.int .i64 m, .slice X ct.length cx] 44))))
              go_wp2
              refine still_tail_drew 25 (by kernel_rfl) (by kernel_rfl) ?_
              simp only [List.take_succ_cons, List.take_zero, List.drop_succ_cons, List.drop_zero]
              with_reducible refine wpS_take (v := ?_) ?_ ?_ ?_
              rotate_left
              · rfl
              · (go_simp <;> with_reducible rfl)
              try simp only [Act.put, List.setIfInBounds_toArray, List.set_cons_zero, List.set_cons_succ]
              with_reducible refine wpS_take (v := ?_) ?_ ?_ ?_
              rotate_left
              · rfl
              · (go_simp <;> with_reducible rfl)
              try simp only [Act.put, List.setIfInBounds_toArray, List.set_cons_zero, List.set_cons_succ]
              with_reducible refine wpS_take (v := ?_) ?_ ?_ ?_
              rotate_left
              · rfl
              · (go_simp <;> with_reducible rfl)
              try simp only [Act.put, List.setIfInBounds_toArray, List.set_cons_zero, List.set_cons_succ]
              with_reducible refine wpS_take (v := ?_) ?_ ?_ ?_
              rotate_left
              · rfl
              · (go_simp <;> with_reducible rfl)
              try simp only [Act.put, List.setIfInBounds_toArray, List.set_cons_zero, List.set_cons_succ]
              with_reducible refine wpS_call ?_ ?_ (contains_c A c xs m _ RX0.out hn _ HH.out) ?_
              · rfl
              · (go_simp <;> with_reducible rfl)
              try simp only [Act.put, List.setIfInBounds_toArray, List.set_cons_zero, List.set_cons_succ]
              with_reducible refine wpS_take (v := ?_) ?_ ?_ ?_
              rotate_left
              · rfl
              · (go_simp <;> with_reducible rfl)
              try simp only [Act.put, List.setIfInBounds_toArray, List.set_cons_zero, List.set_cons_succ]
              with_reducible refine wpS_take (v := ?_) ?_ ?_ ?_
              rotate_left
              · rfl
              · (go_simp <;> with_reducible rfl)
              try simp only [Act.put, List.setIfInBounds_toArray, List.set_cons_zero, List.set_cons_succ]
              with_reducible refine wpS_take (v := ?_) ?_ ?_ ?_
              rotate_left
              · rfl
              · (go_simp <;> with_reducible rfl)
              try simp only [Act.put, List.setIfInBounds_toArray, List.set_cons_zero, List.set_cons_succ]
              with_reducible refine wpS_take (v := ?_) ?_ ?_ ?_
              rotate_left
              · rfl
              · (go_simp <;> with_reducible rfl)
              try simp only [Act.put, List.setIfInBounds_toArray, List.set_cons_zero, List.set_cons_succ]
              with_reducible refine wpS_take (v := ?_) ?_ ?_ ?_
              rotate_left
              · rfl
              · (go_simp <;> with_reducible rfl)
              try simp only [Act.put, List.setIfInBounds_toArray, List.set_cons_zero, List.set_cons_succ]
              with_reducible refine wpS_skip ?_ ?_
              · rfl
              try simp only [Act.put, List.setIfInBounds_toArray, List.set_cons_zero, List.set_cons_succ]
              with_reducible refine wpS_skip ?_ ?_
              · rfl
              try simp only [Act.put, List.setIfInBounds_toArray, List.set_cons_zero, List.set_cons_succ]
              with_reducible refine wpS_skip ?_ ?_
              · rfl
              try simp only [Act.put, List.setIfInBounds_toArray, List.set_cons_zero, List.set_cons_succ]
              with_reducible refine wpS_skip ?_ ?_
              · rfl
              try simp only [Act.put, List.setIfInBounds_toArray, List.set_cons_zero, List.set_cons_succ]
              with_reducible refine wpS_skip ?_ ?_
              · rfl
              try simp only [Act.put, List.setIfInBounds_toArray, List.set_cons_zero, List.set_cons_succ]
              with_reducible refine wpS_skip ?_ ?_
              · rfl
              try simp only [Act.put, List.setIfInBounds_toArray, List.set_cons_zero, List.set_cons_succ]
              with_reducible refine wpS_skip ?_ ?_
              · rfl
              try simp only [Act.put, List.setIfInBounds_toArray, List.set_cons_zero, List.set_cons_succ]
              with_reducible refine wpS_skip ?_ ?_
              · rfl
              try simp only [Act.put, List.setIfInBounds_toArray, List.set_cons_zero, List.set_cons_succ]
              with_reducible refine wpS_skip ?_ ?_
              · rfl
              try simp only [Act.put, List.setIfInBounds_toArray, List.set_cons_zero, List.set_cons_succ]
              with_reducible refine wpS_take (v := ?_) ?_ ?_ ?_
              rotate_left
              · rfl
              · (go_simp <;> with_reducible rfl)
              try simp only [Act.put, List.setIfInBounds_toArray, List.set_cons_zero, List.set_cons_succ]
              with_reducible refine wpS_take (v := ?_) ?_ ?_ ?_
              rotate_left
              · rfl
              · (go_simp <;> with_reducible rfl)
              try simp only [Act.put, List.setIfInBounds_toArray, List.set_cons_zero, List.set_cons_succ]
              with_reducible refine wpS_take (v := ?_) ?_ ?_ ?_
              rotate_left
              · rfl
              · (go_simp <;> with_reducible rfl)
              try simp only [Act.put, List.setIfInBounds_toArray, List.set_cons_zero, List.set_cons_succ]
              with_reducible refine wpS_take (v := ?_) ?_ ?_ ?_
              rotate_left
              · rfl
              · (go_simp <;> with_reducible rfl)
              try simp only [Act.put, List.setIfInBounds_toArray, List.set_cons_zero, List.set_cons_succ]
              with_reducible refine wpS_take (v := ?_) ?_ ?_ ?_
              rotate_left
              · rfl
              · (go_simp <;> with_reducible rfl)
              try simp only [Act.put, List.setIfInBounds_toArray, List.set_cons_zero, List.set_cons_succ]
              with_reducible refine wpS_take (v := ?_) ?_ ?_ ?_
              rotate_left
              · rfl
              · (go_simp <;> with_reducible rfl)
              try simp only [Act.put, List.setIfInBounds_toArray, List.set_cons_zero, List.set_cons_succ]
              refine wpStill_nil ?_
              go_wp2_with fail
              refine (applicable_b num A X c cx xs ct _ RX0.out RC0.out hn hbd _ HA.out).mono ?_
              rintro e w2 ⟨rfl, hx2⟩
              have X2 := Lib.hid ((HS.out.trans (Ext.drew (Ext.new wr (.cells #[.int .i64 m, .slice X ct.length cx] 44)))).trans hx2); clear hx2
              go_wp2
              go_ret
              exact ⟨ret_bool (box_no (by rw [prs_len]; exact hlt) (by rw [ok_zero HZ.out HP.out HH.out]; exact HA.out)).symm, H0.out.trans (X2.out)⟩
            · have HA := Lib.hid ha; clear ha
              have RX0 := Lib.hid (HXr.out.ext (Ext.drew (Ext.new wr (.cells #[.int .i64 m, .slice X ct.length cx] 44)))); have RC0 := Lib.hid (HR.out.ext (Ext.drew (Ext.new wr (.cells #[.int .i64 m, .slice X ct.length cx] 44))))
              go_wp2
              refine still_tail_drew 25 (by kernel_rfl) (by kernel_rfl) ?_
              simp only [List.take_succ_cons, List.take_zero, List.drop_succ_cons, List.drop_zero]
              with_reducible refine wpS_take (v := ?_) ?_ ?_ ?_
              rotate_left
              · rfl
              · (go_simp <;> with_reducible rfl)
              try simp only [Act.put, List.setIfInBounds_toArray, List.set_cons_zero, List.set_cons_succ]
              with_reducible refine wpS_take (v := ?_) ?_ ?_ ?_
              rotate_left
              · rfl
              · (go_simp <;> with_reducible rfl)
              try simp only [Act.put, List.setIfInBounds_toArray, List.set_cons_zero, List.set_cons_succ]
              with_reducible refine wpS_take (v := ?_) ?_ ?_ ?_
              rotate_left
              · rfl
              · (go_simp <;> with_reducible rfl)
              try simp only [Act.put, List.setIfInBounds_toArray, List.set_cons_zero, List.set_cons_succ]
              with_reducible refine wpS_take (v := ?_) ?_ ?_ ?_
              rotate_left
              · rfl
              · (go_simp <;> with_reducible rfl)
              try simp only [Act.put, List.setIfInBounds_toArray, List.set_cons_zero, List.set_cons_succ]
              with_reducible refine wpS_call ?_ ?_ (contains_c A c xs m _ RX0.out hn _ HH.out) ?_
              · rfl
              · (go_simp <;> with_reducible rfl)
              try simp only [Act.put, List.setIfInBounds_toArray, List.set_cons_zero, List.set_cons_succ]
              with_reducible refine wpS_take (v := ?_) ?_ ?_ ?_
              rotate_left
              · rfl
              · (go_simp <;> with_reducible rfl)
              try simp only [Act.put, List.setIfInBounds_toArray, List.set_cons_zero, List.set_cons_succ]
              with_reducible refine wpS_take (v := ?_) ?_ ?_ ?_
              rotate_left
              · rfl
              · (go_simp <;> with_reducible rfl)
              try simp only [Act.put, List.setIfInBounds_toArray, List.set_cons_zero, List.set_cons_succ]
              with_reducible refine wpS_take (v := ?_) ?_ ?_ ?_
              rotate_left
              · rfl
              · (go_simp <;> with_reducible rfl)
              try simp only [Act.put, List.setIfInBounds_toArray, List.set_cons_zero, List.set_cons_succ]
              with_reducible refine wpS_take (v := ?_) ?_ ?_ ?_
              rotate_left
              · rfl
              · (go_simp <;> with_reducible rfl)
              try simp only [Act.put, List.setIfInBounds_toArray, List.set_cons_zero, List.set_cons_succ]
              with_reducible refine wpS_take (v := ?_) ?_ ?_ ?_
              rotate_left
              · rfl
              · (go_simp <;> with_reducible rfl)
              try simp only [Act.put, List.setIfInBounds_toArray, List.set_cons_zero, List.set_cons_succ]
              with_reducible refine wpS_skip ?_ ?_
              · rfl
              try simp only [Act.put, List.setIfInBounds_toArray, List.set_cons_zero, List.set_cons_succ]
              with_reducible refine wpS_skip ?_ ?_
              · rfl
              try simp only [Act.put, List.setIfInBounds_toArray, List.set_cons_zero, List.set_cons_succ]
              with_reducible refine wpS_skip ?_ ?_
              · rfl
              try simp only [Act.put, List.setIfInBounds_toArray, List.set_cons_zero, List.set_cons_succ]
              with_reducible refine wpS_skip ?_ ?_
              · rfl
              try simp only [Act.put, List.setIfInBounds_toArray, List.set_cons_zero, List.set_cons_succ]
              with_reducible refine wpS_skip ?_ ?_
              · rfl
              try simp only [Act.put, List.setIfInBounds_toArray, List.set_cons_zero, List.set_cons_succ]
              with_reducible refine wpS_skip ?_ ?_
              · rfl
              try simp only [Act.put, List.setIfInBounds_toArray, List.set_cons_zero, List.set_cons_succ]
              with_reducible refine wpS_skip ?_ ?_
              · rfl
              try simp only [Act.put, List.setIfInBounds_toArray, List.set_cons_zero, List.set_cons_succ]
              with_reducible refine wpS_skip ?_ ?_
              · rfl
              try simp only [Act.put, List.setIfInBounds_toArray, List.set_cons_zero, List.set_cons_succ]
              with_reducible refine wpS_skip ?_ ?_
              · rfl
              try simp only [Act.put, List.setIfInBounds_toArray, List.set_cons_zero, List.set_cons_succ]
              with_reducible refine wpS_take (v := ?_) ?_ ?_ ?_
              rotate_left
              · rfl
              · (go_simp <;> with_reducible rfl)
              try simp only [Act.put, List.setIfInBounds_toArray, List.set_cons_zero, List.set_cons_succ]
              with_reducible refine wpS_take (v := ?_) ?_ ?_ ?_
              rotate_left
              · rfl
              · (go_simp <;> with_reducible rfl)
              try simp only [Act.put, List.setIfInBounds_toArray, List.set_cons_zero, List.set_cons_succ]
              with_reducible refine wpS_take (v := ?_) ?_ ?_ ?_
              rotate_left
              · rfl
              · (go_simp <;> with_reducible rfl)
              try simp only [Act.put, List.setIfInBounds_toArray, List.set_cons_zero, List.set_cons_succ]
              with_reducible refine wpS_take (v := ?_) ?_ ?_ ?_
              rotate_left
              · rfl
              · (go_simp <;> with_reducible rfl)
              try simp only [Act.put, List.setIfInBounds_toArray, List.set_cons_zero, List.set_cons_succ]
              with_reducible refine wpS_take (v := ?_) ?_ ?_ ?_
              rotate_left
              · rfl
              · (go_simp <;> with_reducible rfl)
              try simp only [Act.put, List.setIfInBounds_toArray, List.set_cons_zero, List.set_cons_succ]
              with_reducible refine wpS_take (v := ?_) ?_ ?_ ?_
              rotate_left
              · rfl
              · (go_simp <;> with_reducible rfl)
              try simp only [Act.put, List.setIfInBounds_toArray, List.set_cons_zero, List.set_cons_succ]
              refine wpStill_nil ?_
              go_wp2_with fail
              refine (applicable_b num A X c cx xs ct _ RX0.out RC0.out hn hbd _ HA.out).mono ?_
              rintro e w2 ⟨rfl, hx2⟩
              have X2 := Lib.hid ((HS.out.trans (Ext.drew (Ext.new wr (.cells #[.int .i64 m, .slice X ct.length cx] 44)))).trans hx2); clear hx2
              go_wp2
              go_roundw
              case rel => exact ⟨k + 1, by omega, by go_num, ok_step HT.out (by rw [ok_zero HZ.out HP.out HH.out]; exact HA.out), X2.out⟩
              case measure => simp [intOf] <;> omega
          · obtain ⟨j, hj⟩ : ∃ j, k = j + 1 := ⟨k - 1, by omega⟩
            have HJ := Lib.hid hj
            have hw1 : IntKind.i64.wrap ((k : Int) - 1) = (j : Int) := by rw [IntWalk.i64_in _ (by omega)]; omega
            have hkp : (0 : Int) < (k : Int) := by omega
            have hkq : 0 < k := by omega
            have HPJ := Lib.hid (hj ▸ HP.out)
            obtain ⟨b', off', m0, X0, cx0, ct0, hbb, _, c2, _, _, _, _, HI0⟩ := (HB.out.ext HS.out).at_ (show j < bs.length by omega)
            simp only [Option.some.injEq, Addr.mk.injEq, and_true] at hbb
            obtain ⟨rfl, rfl⟩ := hbb
            have HP0 := Lib.hid (prs_at HI0.out)
            have hk0 : (0 : Int) ≤ (j : Int) := by omega
            have hk1 : (j : Int) < (bs.length : Int) := by omega
            have hk2 : j < bs.length := by omega
            clear hj hkz
            by_cases hlo : m0 < m
            · have HLO := Lib.hid hlo
              have hlo' : decide (m ≤ m0) = false := decide_eq_false (by omega)
              clear hlo
              cases ha : applF num xs ct
              · have HA := Lib.hid ha; clear ha
                have RX0 := Lib.hid (HXr.out.ext (Ext.drew (Ext.new wr (.cells #[.int .i64 m, .slice X ct.length cx] 44)))); have RC0 := Lib.hid (HR.out.ext (Ext.drew (Ext.new wr (.cells #[.int .i64 m, .slice X ct.length cx] 44))))
                go_wp2
                refine still_tail_drew 25 (by kernel_rfl) (by kernel_rfl) ?_
                simp only [List.take_succ_cons, List.take_zero, List.drop_succ_cons, List.drop_zero]
                with_reducible refine wpS_take (v := ?_) ?_ ?_ ?_
                rotate_left
                · rfl
                · (go_simp <;> with_reducible rfl)
                try simp only [Act.put, List.setIfInBounds_toArray, List.set_cons_zero, List.set_cons_succ]
                with_reducible refine wpS_take (v := ?_) ?_ ?_ ?_
                rotate_left
                · rfl
                · (go_simp <;> with_reducible rfl)
                try simp only [Act.put, List.setIfInBounds_toArray, List.set_cons_zero, List.set_cons_succ]
                with_reducible refine wpS_take (v := ?_) ?_ ?_ ?_
                rotate_left
                · rfl
                · (go_simp <;> with_reducible rfl)
                try simp only [Act.put, List.setIfInBounds_toArray, List.set_cons_zero, List.set_cons_succ]
                with_reducible refine wpS_take (v := ?_) ?_ ?_ ?_
                rotate_left
                · rfl
                · (go_simp <;> with_reducible rfl)
                try simp only [Act.put, List.setIfInBounds_toArray, List.set_cons_zero, List.set_cons_succ]
                with_reducible refine wpS_call ?_ ?_ (contains_c A c xs m _ RX0.out hn _ HH.out) ?_
                · rfl
                · (go_simp <;> with_reducible rfl)
                try simp only [Act.put, List.setIfInBounds_toArray, List.set_cons_zero, List.set_cons_succ]
                with_reducible refine wpS_take (v := ?_) ?_ ?_ ?_
                rotate_left
                · rfl
                · (go_simp <;> with_reducible rfl)
                try simp only [Act.put, List.setIfInBounds_toArray, List.set_cons_zero, List.set_cons_succ]
                with_reducible refine wpS_take (v := ?_) ?_ ?_ ?_
                rotate_left
                · rfl
                · (go_simp <;> with_reducible rfl)
                try simp only [Act.put, List.setIfInBounds_toArray, List.set_cons_zero, List.set_cons_succ]
                with_reducible refine wpS_take (v := ?_) ?_ ?_ ?_
                rotate_left
                · rfl
                · (go_simp <;> with_reducible rfl)
                try simp only [Act.put, List.setIfInBounds_toArray, List.set_cons_zero, List.set_cons_succ]
                with_reducible refine wpS_take (v := ?_) ?_ ?_ ?_
                rotate_left
                · rfl
                · (go_simp <;> with_reducible rfl)
                try simp only [Act.put, List.setIfInBounds_toArray, List.set_cons_zero, List.set_cons_succ]
                with_reducible refine wpS_take (v := ?_) ?_ ?_ ?_
                rotate_left
                · rfl
                · (go_simp <;> with_reducible rfl)
                try simp only [Act.put, List.setIfInBounds_toArray, List.set_cons_zero, List.set_cons_succ]
                with_reducible refine wpS_take (v := ?_) ?_ ?_ ?_
                rotate_left
                · rfl
                · (go_simp <;> with_reducible rfl)
                try simp only [Act.put, List.setIfInBounds_toArray, List.set_cons_zero, List.set_cons_succ]
                with_reducible refine wpS_take (v := ?_) ?_ ?_ ?_
                rotate_left
                · rfl
                · (go_simp <;> with_reducible rfl)
                try simp only [Act.put, List.setIfInBounds_toArray, List.set_cons_zero, List.set_cons_succ]
                with_reducible refine wpS_take (v := ?_) ?_ ?_ ?_
                rotate_left
                · rfl
                · (go_simp <;> with_reducible rfl)
                try simp only [Act.put, List.setIfInBounds_toArray, List.set_cons_zero, List.set_cons_succ]
                with_reducible refine wpS_take (v := ?_) ?_ ?_ ?_
                rotate_left
                · rfl
                · (go_simp <;> with_reducible rfl)
                try simp only [Act.put, List.setIfInBounds_toArray, List.set_cons_zero, List.set_cons_succ]
                with_reducible refine wpS_take (v := ?_) ?_ ?_ ?_
                rotate_left
                · rfl
                · (go_simp <;> with_reducible rfl)
                try simp only [Act.put, List.setIfInBounds_toArray, List.set_cons_zero, List.set_cons_succ]
                with_reducible refine wpS_take (v := ?_) ?_ ?_ ?_
                rotate_left
                · rfl
                · (go_simp <;> with_reducible rfl)
                try simp only [Act.put, List.setIfInBounds_toArray, List.set_cons_zero, List.set_cons_succ]
                with_reducible refine wpS_take (v := ?_) ?_ ?_ ?_
                rotate_left
                · rfl
                · (go_simp <;> with_reducible rfl)
                try simp only [Act.put, List.setIfInBounds_toArray, List.set_cons_zero, List.set_cons_succ]
                with_reducible refine wpS_take (v := ?_) ?_ ?_ ?_
                rotate_left
                · rfl
                · (go_simp <;> with_reducible rfl)
                try simp only [Act.put, List.setIfInBounds_toArray, List.set_cons_zero, List.set_cons_succ]
                with_reducible refine wpS_take (v := ?_) ?_ ?_ ?_
                rotate_left
                · rfl
                · (go_simp <;> with_reducible rfl)
                try simp only [Act.put, List.setIfInBounds_toArray, List.set_cons_zero, List.set_cons_succ]
                with_reducible refine wpS_take (v := ?_) ?_ ?_ ?_
                rotate_left
                · rfl
                · (go_simp <;> with_reducible rfl)
                try simp only [Act.put, List.setIfInBounds_toArray, List.set_cons_zero, List.set_cons_succ]
                with_reducible refine wpS_take (v := ?_) ?_ ?_ ?_
                rotate_left
                · rfl
                · (go_simp <;> with_reducible rfl)
                try simp only [Act.put, List.setIfInBounds_toArray, List.set_cons_zero, List.set_cons_succ]
                with_reducible refine wpS_take (v := ?_) ?_ ?_ ?_
                rotate_left
                · rfl
                · (go_simp <;> with_reducible rfl)
                try simp only [Act.put, List.setIfInBounds_toArray, List.set_cons_zero, List.set_cons_succ]
                with_reducible refine wpS_take (v := ?_) ?_ ?_ ?_
                rotate_left
                · rfl
                · (go_simp <;> with_reducible rfl)
                try simp only [Act.put, List.setIfInBounds_toArray, List.set_cons_zero, List.set_cons_succ]
                with_reducible refine wpS_take (v := ?_) ?_ ?_ ?_
                rotate_left
                · rfl
                · (go_simp <;> with_reducible rfl)
                try simp only [Act.put, List.setIfInBounds_toArray, List.set_cons_zero, List.set_cons_succ]
                with_reducible refine wpS_take (v := ?_) ?_ ?_ ?_
                rotate_left
                · rfl
                · (go_simp <;> with_reducible rfl)
                try simp only [Act.put, List.setIfInBounds_toArray, List.set_cons_zero, List.set_cons_succ]
                refine wpStill_nil ?_
                go_wp2_with fail
                refine (applicable_b num A X c cx xs ct _ RX0.out RC0.out hn hbd _ HA.out).mono ?_
                rintro e w2 ⟨rfl, hx2⟩
                have X2 := Lib.hid ((HS.out.trans (Ext.drew (Ext.new wr (.cells #[.int .i64 m, .slice X ct.length cx] 44)))).trans hx2); clear hx2
                go_wp2
                go_ret
                exact ⟨ret_bool (box_no (by rw [prs_len]; exact hlt) (by rw [HJ.out, ok_next HPJ.out HP0.out HH.out, HA.out, Bool.and_false])).symm, H0.out.trans (X2.out)⟩
              · have HA := Lib.hid ha; clear ha
                have RX0 := Lib.hid (HXr.out.ext (Ext.drew (Ext.new wr (.cells #[.int .i64 m, .slice X ct.length cx] 44)))); have RC0 := Lib.hid (HR.out.ext (Ext.drew (Ext.new wr (.cells #[.int .i64 m, .slice X ct.length cx] 44))))
                go_wp2
                refine still_tail_drew 25 (by kernel_rfl) (by kernel_rfl) ?_
                simp only [List.take_succ_cons, List.take_zero, List.drop_succ_cons, List.drop_zero]
                with_reducible refine wpS_take (v := ?_) ?_ ?_ ?_
                rotate_left
                · rfl
                · (go_simp <;> with_reducible rfl)
                try simp only [Act.put, List.setIfInBounds_toArray, List.set_cons_zero, List.set_cons_succ]
                with_reducible refine wpS_take (v := ?_) ?_ ?_ ?_
                rotate_left
                · rfl
                · (go_simp <;> with_reducible rfl)
                try simp only [Act.put, List.setIfInBounds_toArray, List.set_cons_zero, List.set_cons_succ]
                with_reducible refine wpS_take (v := ?_) ?_ ?_ ?_
                rotate_left
                · rfl
                · (go_simp <;> with_reducible rfl)
                try simp only [Act.put, List.setIfInBounds_toArray, List.set_cons_zero, List.set_cons_succ]
                with_reducible refine wpS_take (v := ?_) ?_ ?_ ?_
                rotate_left
                · rfl
                · (go_simp <;> with_reducible rfl)
                try simp only [Act.put, List.setIfInBounds_toArray, List.set_cons_zero, List.set_cons_succ]
                with_reducible refine wpS_call ?_ ?_ (contains_c A c xs m _ RX0.out hn _ HH.out) ?_
                · rfl
                · (go_simp <;> with_reducible rfl)
                try simp only [Act.put, List.setIfInBounds_toArray, List.set_cons_zero, List.set_cons_succ]
                with_reducible refine wpS_take (v := ?_) ?_ ?_ ?_
                rotate_left
                · rfl
                · (go_simp <;> with_reducible rfl)
                try simp only [Act.put, List.setIfInBounds_toArray, List.set_cons_zero, List.set_cons_succ]
                with_reducible refine wpS_take (v := ?_) ?_ ?_ ?_
                rotate_left
                · rfl
                · (go_simp <;> with_reducible rfl)
                try simp only [Act.put, List.setIfInBounds_toArray, List.set_cons_zero, List.set_cons_succ]
                with_reducible refine wpS_take (v := ?_) ?_ ?_ ?_
                rotate_left
                · rfl
                · (go_simp <;> with_reducible rfl)
                try simp only [Act.put, List.setIfInBounds_toArray, List.set_cons_zero, List.set_cons_succ]
                with_reducible refine wpS_take (v := ?_) ?_ ?_ ?_
                rotate_left
                · rfl
                · (go_simp <;> with_reducible rfl)
                try simp only [Act.put, List.setIfInBounds_toArray, List.set_cons_zero, List.set_cons_succ]
                with_reducible refine wpS_take (v := ?_) ?_ ?_ ?_
                rotate_left
                · rfl
                · (go_simp <;> with_reducible rfl)
                try simp only [Act.put, List.setIfInBounds_toArray, List.set_cons_zero, List.set_cons_succ]
                with_reducible refine wpS_take (v := ?_) ?_ ?_ ?_
                rotate_left
                · rfl
                · (go_simp <;> with_reducible rfl)
                try simp only [Act.put, List.setIfInBounds_toArray, List.set_cons_zero, List.set_cons_succ]
                with_reducible refine wpS_take (v := ?_) ?_ ?_ ?_
                rotate_left
                · rfl
                · (go_simp <;> with_reducible rfl)
                try simp only [Act.put, List.setIfInBounds_toArray, List.set_cons_zero, List.set_cons_succ]
                with_reducible refine wpS_take (v := ?_) ?_ ?_ ?_
                rotate_left
                · rfl
                · (go_simp <;> with_reducible rfl)
                try simp only [Act.put, List.setIfInBounds_toArray, List.set_cons_zero, List.set_cons_succ]
                with_reducible refine wpS_take (v := ?_) ?_ ?_ ?_
                rotate_left
                · rfl
                · (go_simp <;> with_reducible rfl)
                try simp only [Act.put, List.setIfInBounds_toArray, List.set_cons_zero, List.set_cons_succ]
                with_reducible refine wpS_take (v := ?_) ?_ ?_ ?_
                rotate_left
                · rfl
                · (go_simp <;> with_reducible rfl)
                try simp only [Act.put, List.setIfInBounds_toArray, List.set_cons_zero, List.set_cons_succ]
                with_reducible refine wpS_take (v := ?_) ?_ ?_ ?_
                rotate_left
                · rfl
                · (go_simp <;> with_reducible rfl)
                try simp only [Act.put, List.setIfInBounds_toArray, List.set_cons_zero, List.set_cons_succ]
                with_reducible refine wpS_take (v := ?_) ?_ ?_ ?_
                rotate_left
                · rfl
                · (go_simp <;> with_reducible rfl)
                try simp only [Act.put, List.setIfInBounds_toArray, List.set_cons_zero, List.set_cons_succ]
                with_reducible refine wpS_take (v := ?_) ?_ ?_ ?_
                rotate_left
                · rfl
                · (go_simp <;> with_reducible rfl)
                try simp only [Act.put, List.setIfInBounds_toArray, List.set_cons_zero, List.set_cons_succ]
                with_reducible refine wpS_take (v := ?_) ?_ ?_ ?_
                rotate_left
                · rfl
                · (go_simp <;> with_reducible rfl)
                try simp only [Act.put, List.setIfInBounds_toArray, List.set_cons_zero, List.set_cons_succ]
                with_reducible refine wpS_take (v := ?_) ?_ ?_ ?_
                rotate_left
                · rfl
                · (go_simp <;> with_reducible rfl)
                try simp only [Act.put, List.setIfInBounds_toArray, List.set_cons_zero, List.set_cons_succ]
                with_reducible refine wpS_take (v := ?_) ?_ ?_ ?_
                rotate_left
                · rfl
                · (go_simp <;> with_reducible rfl)
                try simp only [Act.put, List.setIfInBounds_toArray, List.set_cons_zero, List.set_cons_succ]
                with_reducible refine wpS_take (v := ?_) ?_ ?_ ?_
                rotate_left
                · rfl
                · (go_simp <;> with_reducible rfl)
                try simp only [Act.put, List.setIfInBounds_toArray, List.set_cons_zero, List.set_cons_succ]
                with_reducible refine wpS_take (v := ?_) ?_ ?_ ?_
                rotate_left
                · rfl
                · (go_simp <;> with_reducible rfl)
                try simp only [Act.put, List.setIfInBounds_toArray, List.set_cons_zero, List.set_cons_succ]
                with_reducible refine wpS_take (v := ?_) ?_ ?_ ?_
                rotate_left
                · rfl
                · (go_simp <;> with_reducible rfl)
                try simp only [Act.put, List.setIfInBounds_toArray, List.set_cons_zero, List.set_cons_succ]
                with_reducible refine wpS_take (v := ?_) ?_ ?_ ?_
                rotate_left
                · rfl
                · (go_simp <;> with_reducible rfl)
                try simp only [Act.put, List.setIfInBounds_toArray, List.set_cons_zero, List.set_cons_succ]
                refine wpStill_nil ?_
                go_wp2_with fail
                refine (applicable_b num A X c cx xs ct _ RX0.out RC0.out hn hbd _ HA.out).mono ?_
                rintro e w2 ⟨rfl, hx2⟩
                have X2 := Lib.hid ((HS.out.trans (Ext.drew (Ext.new wr (.cells #[.int .i64 m, .slice X ct.length cx] 44)))).trans hx2); clear hx2
                go_wp2
                go_roundw
                case rel => exact ⟨k + 1, by omega, by go_num, ok_step HT.out (by rw [HJ.out, ok_next HPJ.out HP0.out HH.out, HA.out, decide_eq_true HLO.out]; rfl), X2.out⟩
                case measure => simp [intOf] <;> omega
            · have hlo' : m ≤ m0 := by omega
              have HLO := Lib.hid hlo'
              clear hlo
              have RX0 := Lib.hid (HXr.out.ext (Ext.drew (Ext.new wr (.cells #[.int .i64 m, .slice X ct.length cx] 44)))); have RC0 := Lib.hid (HR.out.ext (Ext.drew (Ext.new wr (.cells #[.int .i64 m, .slice X ct.length cx] 44))))
              go_wp2
              refine still_tail_drew 25 (by kernel_rfl) (by kernel_rfl) ?_
              simp only [List.take_succ_cons, List.take_zero, List.drop_succ_cons, List.drop_zero]
              with_reducible refine wpS_take (v := ?_) ?_ ?_ ?_
              rotate_left
              · rfl
              · (go_simp <;> with_reducible rfl)
              try simp only [Act.put, List.setIfInBounds_toArray, List.set_cons_zero, List.set_cons_succ]
              with_reducible refine wpS_take (v := ?_) ?_ ?_ ?_
              rotate_left
              · rfl
              · (go_simp <;> with_reducible rfl)
              try simp only [Act.put, List.setIfInBounds_toArray, List.set_cons_zero, List.set_cons_succ]
              with_reducible refine wpS_take (v := ?_) ?_ ?_ ?_
              rotate_left
              · rfl
              · (go_simp <;> with_reducible rfl)
              try simp only [Act.put, List.setIfInBounds_toArray, List.set_cons_zero, List.set_cons_succ]
              with_reducible refine wpS_take (v := ?_) ?_ ?_ ?_
              rotate_left
              · rfl
              · (go_simp <;> with_reducible rfl)
              try simp only [Act.put, List.setIfInBounds_toArray, List.set_cons_zero, List.set_cons_succ]
              with_reducible refine wpS_call ?_ ?_ (contains_c A c xs m _ RX0.out hn _ HH.out) ?_
              · rfl
              · (go_simp <;> with_reducible rfl)
              try simp only [Act.put, List.setIfInBounds_toArray, List.set_cons_zero, List.set_cons_succ]
              with_reducible refine wpS_take (v := ?_) ?_ ?_ ?_
              rotate_left
              · rfl
              · (go_simp <;> with_reducible rfl)
              try simp only [Act.put, List.setIfInBounds_toArray, List.set_cons_zero, List.set_cons_succ]
              with_reducible refine wpS_take (v := ?_) ?_ ?_ ?_
              rotate_left
              · rfl
              · (go_simp <;> with_reducible rfl)
              try simp only [Act.put, List.setIfInBounds_toArray, List.set_cons_zero, List.set_cons_succ]
              with_reducible refine wpS_take (v := ?_) ?_ ?_ ?_
              rotate_left
              · rfl
              · (go_simp <;> with_reducible rfl)
              try simp only [Act.put, List.setIfInBounds_toArray, List.set_cons_zero, List.set_cons_succ]
              with_reducible refine wpS_take (v := ?_) ?_ ?_ ?_
              rotate_left
              · rfl
              · (go_simp <;> with_reducible rfl)
              try simp only [Act.put, List.setIfInBounds_toArray, List.set_cons_zero, List.set_cons_succ]
              with_reducible refine wpS_take (v := ?_) ?_ ?_ ?_
              rotate_left
              · rfl
              · (go_simp <;> with_reducible rfl)
              try simp only [Act.put, List.setIfInBounds_toArray, List.set_cons_zero, List.set_cons_succ]
              with_reducible refine wpS_take (v := ?_) ?_ ?_ ?_
              rotate_left
              · rfl
              · (go_simp <;> with_reducible rfl)
              try simp only [Act.put, List.setIfInBounds_toArray, List.set_cons_zero, List.set_cons_succ]
              with_reducible refine wpS_take (v := ?_) ?_ ?_ ?_
              rotate_left
              · rfl
              · (go_simp <;> with_reducible rfl)
              try simp only [Act.put, List.setIfInBounds_toArray, List.set_cons_zero, List.set_cons_succ]
              with_reducible refine wpS_take (v := ?_) ?_ ?_ ?_
              rotate_left
              · rfl
              · (go_simp <;> with_reducible rfl)
              try simp only [Act.put, List.setIfInBounds_toArray, List.set_cons_zero, List.set_cons_succ]
              with_reducible refine wpS_take (v := ?_) ?_ ?_ ?_
              rotate_left
              · rfl
              · (go_simp <;> with_reducible rfl)
              try simp only [Act.put, List.setIfInBounds_toArray, List.set_cons_zero, List.set_cons_succ]
              with_reducible refine wpS_take (v := ?_) ?_ ?_ ?_
              rotate_left
              · rfl
              · (go_simp <;> with_reducible rfl)
              try simp only [Act.put, List.setIfInBounds_toArray, List.set_cons_zero, List.set_cons_succ]
              with_reducible refine wpS_take (v := ?_) ?_ ?_ ?_
              rotate_left
              · rfl
              · (go_simp <;> with_reducible rfl)
              try simp only [Act.put, List.setIfInBounds_toArray, List.set_cons_zero, List.set_cons_succ]
              with_reducible refine wpS_take (v := ?_) ?_ ?_ ?_
              rotate_left
              · rfl
              · (go_simp <;> with_reducible rfl)
              try simp only [Act.put, List.setIfInBounds_toArray, List.set_cons_zero, List.set_cons_succ]
              with_reducible refine wpS_take (v := ?_) ?_ ?_ ?_
              rotate_left
              · rfl
              · (go_simp <;> with_reducible rfl)
              try simp only [Act.put, List.setIfInBounds_toArray, List.set_cons_zero, List.set_cons_succ]
              with_reducible refine wpS_take (v := ?_) ?_ ?_ ?_
              rotate_left
              · rfl
              · (go_simp <;> with_reducible rfl)
              try simp only [Act.put, List.setIfInBounds_toArray, List.set_cons_zero, List.set_cons_succ]
              with_reducible refine wpS_take (v := ?_) ?_ ?_ ?_
              rotate_left
              · rfl
              · (go_simp <;> with_reducible rfl)
              try simp only [Act.put, List.setIfInBounds_toArray, List.set_cons_zero, List.set_cons_succ]
              with_reducible refine wpS_take (v := ?_) ?_ ?_ ?_
              rotate_left
              · rfl
              · (go_simp <;> with_reducible rfl)
              try simp only [Act.put, List.setIfInBounds_toArray, List.set_cons_zero, List.set_cons_succ]
              with_reducible refine wpS_take (v := ?_) ?_ ?_ ?_
              rotate_left
              · rfl
              · (go_simp <;> with_reducible rfl)
              try simp only [Act.put, List.setIfInBounds_toArray, List.set_cons_zero, List.set_cons_succ]
              with_reducible refine wpS_skip ?_ ?_
              · rfl
              try simp only [Act.put, List.setIfInBounds_toArray, List.set_cons_zero, List.set_cons_succ]
              with_reducible refine wpS_skip ?_ ?_
              · rfl
              try simp only [Act.put, List.setIfInBounds_toArray, List.set_cons_zero, List.set_cons_succ]
              with_reducible refine wpS_skip ?_ ?_
              · rfl
              try simp only [Act.put, List.setIfInBounds_toArray, List.set_cons_zero, List.set_cons_succ]
              refine wpStill_nil ?_
              go_wp2
              go_ret
              exact ⟨ret_bool (box_no (by rw [prs_len]; exact hlt) (by rw [HJ.out, ok_next HPJ.out HP0.out HH.out, decide_eq_false (Int.not_lt.2 HLO.out)]; rfl)).symm, H0.out.trans (HS.out.trans (Ext.drew (Ext.new wr (.cells #[.int .i64 m, .slice X ct.length cx] 44))))⟩
      · go_wp2
        go_ret
        exact ⟨ret_bool (box_yes HV.out (fun j hj => HT.out j (by rw [prs_len] at hj; omega))).symm, H0.out.trans HS.out⟩

set_option maxRecDepth 100000 in
set_option maxHeartbeats 4000000 in
theorem rvalid8_any (num : Int) (A B : Option Addr) (c d : Nat) (xs : List Int) (bs : List Bal) (w : World) (hx : Row w A (ints xs)) (hb : Box w B bs) (hn : xs.length ≤ 9223372036854775807) (hm : bs.length ≤ 1000) :
    Calls Try.prog 37 #[.agg #[.int .i64 num, .slice A xs.length c], .slice B bs.length d] w fun e w' => e = .returned (.bool (boxB num xs (prs bs))) ∧ Ext w w' := by
  have H0 := Lib.hid (Ext.new w (.cells #[.int .i64 num, .slice A xs.length c] 36))
  have HX := Lib.hid (hx.ext H0.out); have HB := Lib.hid (hb.ext H0.out)
  clear hx hb
  go_enter Try.func37, Try.ntmps37
  go_wp2_with fail
  refine (rvalid_any num A c xs _ HX.out hn).mono ?_
  cases hv : validB num xs
  · rintro e w1 ⟨rfl, hx1⟩
    go_wp2
    go_ret
    exact ⟨ret_bool (box_inv hv).symm, H0.out.trans hx1⟩
  · have HV := Lib.hid hv; clear hv
    rintro e w1 ⟨rfl, hx1⟩
    have X1 := Lib.hid hx1; clear hx1
    go_wp2
    go_loopw [5] (fun i wr => ∃ k : Nat, k ≤ bs.length ∧ i = .int .i64 k ∧ Hid (∀ j, j < k → okAt num xs (prs bs) j = true) ∧ Ext (w.alloc (.cells #[.int .i64 num, .slice A xs.length c] 36)) wr) (fun i _ => bs.length - (intOf i).toNat)
    case atStart => exact ⟨0, Nat.zero_le _, rfl, fun j hj => absurd hj (Nat.not_lt_zero _), X1.out⟩
    case round =>
      obtain ⟨k, hk, rfl, HT, HS0⟩ := hrel
      have HS := Lib.hid HS0; clear HS0
      by_cases hlt : k < bs.length
      · obtain ⟨b, off, m, X, cx, ct, rfl, hb, c0, c1, HR, hl1, hl2, HI⟩ := (HB.out.ext HS.out).at_ hlt
        have HP := Lib.hid (prs_at HI.out)
        have hbd : ct.length ≤ 9223372036854775807 := by unfold maxLen at hl2; omega
        have HXr := Lib.hid (HX.out.ext HS.out)
        have q0 : wr.cell? ⟨w.heap.size, 0, none⟩ = some (.int .i64 num) := by simpa using HS.out.cell_new 0
        have q1 : wr.cell? ⟨w.heap.size, 1, none⟩ = some (.slice A xs.length c) := by simpa using HS.out.cell_new 1
        have z1 : w.heap.size < wr.heap.size := by have := HS.out.size; simp at this; omega
        cases hh : hasB xs m
        · have HH := Lib.hid hh; clear hh
          have RX0 := Lib.hid (HXr.out.ext (Ext.drew (Ext.refl wr))); have RC0 := Lib.hid (HR.out.ext (Ext.drew (Ext.refl wr)))
          go_wp2
          refine still_tail_drew 34 (by kernel_rfl) (by kernel_rfl) ?_
          simp only [List.take_succ_cons, List.take_zero, List.drop_succ_cons, List.drop_zero]
          with_reducible refine wpS_take (v := ?_) ?_ ?_ ?_
          rotate_left
          · rfl
          · (go_simp <;> with_reducible rfl)
          try simp only [Act.put, List.setIfInBounds_toArray, List.set_cons_zero, List.set_cons_succ]
          with_reducible refine wpS_take (v := ?_) ?_ ?_ ?_
          rotate_left
          · rfl
          · (go_simp <;> with_reducible rfl)
          try simp only [Act.put, List.setIfInBounds_toArray, List.set_cons_zero, List.set_cons_succ]
          with_reducible refine wpS_take (v := ?_) ?_ ?_ ?_
          rotate_left
          · rfl
          · (go_simp <;> with_reducible rfl)
          try simp only [Act.put, List.setIfInBounds_toArray, List.set_cons_zero, List.set_cons_succ]
          with_reducible refine wpS_take (v := ?_) ?_ ?_ ?_
          rotate_left
          · rfl
          · (go_simp <;> with_reducible rfl)
          try simp only [Act.put, List.setIfInBounds_toArray, List.set_cons_zero, List.set_cons_succ]
          with_reducible refine wpS_take (v := ?_) ?_ ?_ ?_
          rotate_left
          · rfl
          · (go_simp <;> with_reducible rfl)
          try simp only [Act.put, List.setIfInBounds_toArray, List.set_cons_zero, List.set_cons_succ]
          with_reducible refine wpS_take (v := ?_) ?_ ?_ ?_
          rotate_left
          · rfl
          · (go_simp <;> with_reducible rfl)
          try simp only [Act.put, List.setIfInBounds_toArray, List.set_cons_zero, List.set_cons_succ]
          with_reducible refine wpS_take (v := ?_) ?_ ?_ ?_
          rotate_left
          · rfl
          · (go_simp <;> with_reducible rfl)
          try simp only [Act.put, List.setIfInBounds_toArray, List.set_cons_zero, List.set_cons_succ]
          with_reducible refine wpS_call ?_ ?_ (rcontains_c A c xs m _ RX0.out hn _ HH.out) ?_
          · rfl
          · (go_simp <;> with_reducible rfl)
          try simp only [Act.put, List.setIfInBounds_toArray, List.set_cons_zero, List.set_cons_succ]
          with_reducible refine wpS_take (v := ?_) ?_ ?_ ?_
          rotate_left
          · rfl
          · (go_simp <;> with_reducible rfl)
          try simp only [Act.put, List.setIfInBounds_toArray, List.set_cons_zero, List.set_cons_succ]
          with_reducible refine wpS_take (v := ?_) ?_ ?_ ?_
          rotate_left
          · rfl
          · (go_simp <;> with_reducible rfl)
          try simp only [Act.put, List.setIfInBounds_toArray, List.set_cons_zero, List.set_cons_succ]
          with_reducible refine wpS_skip ?_ ?_
          · rfl
          try simp only [Act.put, List.setIfInBounds_toArray, List.set_cons_zero, List.set_cons_succ]
          with_reducible refine wpS_skip ?_ ?_
          · rfl
          try simp only [Act.put, List.setIfInBounds_toArray, List.set_cons_zero, List.set_cons_succ]
          with_reducible refine wpS_skip ?_ ?_
          · rfl
          try simp only [Act.put, List.setIfInBounds_toArray, List.set_cons_zero, List.set_cons_succ]
          with_reducible refine wpS_skip ?_ ?_
          · rfl
          try simp only [Act.put, List.setIfInBounds_toArray, List.set_cons_zero, List.set_cons_succ]
          with_reducible refine wpS_skip ?_ ?_
          · rfl
          try simp only [Act.put, List.setIfInBounds_toArray, List.set_cons_zero, List.set_cons_succ]
          with_reducible refine wpS_skip ?_ ?_
          · rfl
          try simp only [Act.put, List.setIfInBounds_toArray, List.set_cons_zero, List.set_cons_succ]
          with_reducible refine wpS_skip ?_ ?_
          · rfl
          try simp only [Act.put, List.setIfInBounds_toArray, List.set_cons_zero, List.set_cons_succ]
          with_reducible refine wpS_skip ?_ ?_
          · rfl
          try simp only [Act.put, List.setIfInBounds_toArray, List.set_cons_zero, List.set_cons_succ]
          with_reducible refine wpS_skip ?_ ?_
          · rfl
          try simp only [Act.put, List.setIfInBounds_toArray, List.set_cons_zero, List.set_cons_succ]
          with_reducible refine wpS_skip ?_ ?_
          · rfl
          try simp only [Act.put, List.setIfInBounds_toArray, List.set_cons_zero, List.set_cons_succ]
          with_reducible refine wpS_skip ?_ ?_
          · rfl
          try simp only [Act.put, List.setIfInBounds_toArray, List.set_cons_zero, List.set_cons_succ]
          with_reducible refine wpS_skip ?_ ?_
          · rfl
          try simp only [Act.put, List.setIfInBounds_toArray, List.set_cons_zero, List.set_cons_succ]
          with_reducible refine wpS_skip ?_ ?_
          · rfl
          try simp only [Act.put, List.setIfInBounds_toArray, List.set_cons_zero, List.set_cons_succ]
          with_reducible refine wpS_skip ?_ ?_
          · rfl
          try simp only [Act.put, List.setIfInBounds_toArray, List.set_cons_zero, List.set_cons_succ]
          with_reducible refine wpS_skip ?_ ?_
          · rfl
          try simp only [Act.put, List.setIfInBounds_toArray, List.set_cons_zero, List.set_cons_succ]
          with_reducible refine wpS_skip ?_ ?_
          · rfl
          try simp only [Act.put, List.setIfInBounds_toArray, List.set_cons_zero, List.set_cons_succ]
          with_reducible refine wpS_take (v := ?_) ?_ ?_ ?_
          rotate_left
          · rfl
          · (go_simp <;> with_reducible rfl)
          try simp only [Act.put, List.setIfInBounds_toArray, List.set_cons_zero, List.set_cons_succ]
          with_reducible refine wpS_take (v := ?_) ?_ ?_ ?_
          rotate_left
          · rfl
          · (go_simp <;> with_reducible rfl)
          try simp only [Act.put, List.setIfInBounds_toArray, List.set_cons_zero, List.set_cons_succ]
          with_reducible refine wpS_skip ?_ ?_
          · rfl
          try simp only [Act.put, List.setIfInBounds_toArray, List.set_cons_zero, List.set_cons_succ]
          with_reducible refine wpS_skip ?_ ?_
          · rfl
          try simp only [Act.put, List.setIfInBounds_toArray, List.set_cons_zero, List.set_cons_succ]
          with_reducible refine wpS_skip ?_ ?_
          · rfl
          try simp only [Act.put, List.setIfInBounds_toArray, List.set_cons_zero, List.set_cons_succ]
          with_reducible refine wpS_skip ?_ ?_
          · rfl
          try simp only [Act.put, List.setIfInBounds_toArray, List.set_cons_zero, List.set_cons_succ]
          with_reducible refine wpS_skip ?_ ?_
          · rfl
          try simp only [Act.put, List.setIfInBounds_toArray, List.set_cons_zero, List.set_cons_succ]
          with_reducible refine wpS_skip ?_ ?_
          · rfl
          try simp only [Act.put, List.setIfInBounds_toArray, List.set_cons_zero, List.set_cons_succ]
          refine wpStill_nil ?_
          go_wp2
          go_ret
          exact ⟨ret_bool (box_no (by rw [prs_len]; exact hlt) (ok_has HP.out HH.out)).symm, H0.out.trans (HS.out.trans (Ext.drew (Ext.refl wr)))⟩
        · have HH := Lib.hid hh; clear hh
          by_cases hkz : k = 0
          · have HZ := Lib.hid hkz
            have hkd : decide ((0 : Int) < (k : Int)) = false := decide_eq_false (by omega)
            have hke : decide (0 < k) = false := decide_eq_false (by omega)
            clear hkz
            cases ha : applF num xs ct
            · have HA := Lib.hid ha; clear ha
              have RX0 := Lib.hid (HXr.out.ext (Ext.drew (Ext.refl wr))); have RC0 := Lib.hid (HR.out.ext (Ext.drew (Ext.refl wr)))
              go_wp2
              refine still_tail_drew 34 (by kernel_rfl) (by kernel_rfl) ?_
              simp only [List.take_succ_cons, List.take_zero, List.drop_succ_cons, List.drop_zero]
              with_reducible refine wpS_take (v := ?_) ?_ ?_ ?_
              rotate_left
              · rfl
              · (go_simp <;> with_reducible rfl)
              try simp only [Act.put, List.setIfInBounds_toArray, List.set_cons_zero, List.set_cons_succ]
              with_reducible refine wpS_take (v := ?_) ?_ ?_ ?_
              rotate_left
              · rfl
              · (go_simp <;> with_reducible rfl)
              try simp only [Act.put, List.setIfInBounds_toArray, List.set_cons_zero, List.set_cons_succ]
              with_reducible refine wpS_take (v := ?_) ?_ ?_ ?_
              rotate_left
              · rfl
              · (go_simp <;> with_reducible rfl)
              try simp only [Act.put, List.setIfInBounds_toArray, List.set_cons_zero, List.set_cons_succ]
              with_reducible refine wpS_take (v := ?_) ?_ ?_ ?_
              rotate_left
              · rfl
              · (go_simp <;> with_reducible rfl)
              try simp only [Act.put, List.setIfInBounds_toArray, List.set_cons_zero, List.set_cons_succ]
              with_reducible refine wpS_take (v := ?_) ?_ ?_ ?_
              rotate_left
              · rfl
              · (go_simp <;> with_reducible rfl)
              try simp only [Act.put, List.setIfInBounds_toArray, List.set_cons_zero, List.set_cons_succ]
              with_reducible refine wpS_take (v := ?_) ?_ ?_ ?_
              rotate_left
              · rfl
              · (go_simp <;> with_reducible rfl)
              try simp only [Act.put, List.setIfInBounds_toArray, List.set_cons_zero, List.set_cons_succ]
              with_reducible refine wpS_take (v := ?_) ?_ ?_ ?_
              rotate_left
              · rfl
              · (go_simp <;> with_reducible rfl)
              try simp only [Act.put, List.setIfInBounds_toArray, List.set_cons_zero, List.set_cons_succ]
              with_reducible refine wpS_call ?_ ?_ (rcontains_c A c xs m _ RX0.out hn _ HH.out) ?_
              · rfl
              · (go_simp <;> with_reducible rfl)
              try simp only [Act.put, List.setIfInBounds_toArray, List.set_cons_zero, List.set_cons_succ]
              with_reducible refine wpS_take (v := ?_) ?_ ?_ ?_
              rotate_left
              · rfl
              · (go_simp <;> with_reducible rfl)
              try simp only [Act.put, List.setIfInBounds_toArray, List.set_cons_zero, List.set_cons_succ]
              with_reducible refine wpS_take (v := ?_) ?_ ?_ ?_
              rotate_left
              · rfl
              · (go_simp <;> with_reducible rfl)
              try simp only [Act.put, List.setIfInBounds_toArray, List.set_cons_zero, List.set_cons_succ]
              with_reducible refine wpS_take (v := ?_) ?_ ?_ ?_
              rotate_left
              · rfl
              · (go_simp <;> with_reducible rfl)
              try simp only [Act.put, List.setIfInBounds_toArray, List.set_cons_zero, List.set_cons_succ]
              with_reducible refine wpS_take (v := ?_) ?_ ?_ ?_
              rotate_left
              · rfl
              · (go_simp <;> with_reducible rfl)
              try simp only [Act.put, List.setIfInBounds_toArray, List.set_cons_zero, List.set_cons_succ]
              with_reducible refine wpS_take (v := ?_) ?_ ?_ ?_
              rotate_left
              · rfl
              · (go_simp <;> with_reducible rfl)
              try simp only [Act.put, List.setIfInBounds_toArray, List.set_cons_zero, List.set_cons_succ]
              with_reducible refine wpS_skip ?_ ?_
              · rfl
              try simp only [Act.put, List.setIfInBounds_toArray, List.set_cons_zero, List.set_cons_succ]
              with_reducible refine wpS_skip ?_ ?_
              · rfl
              try simp only [Act.put, List.setIfInBounds_toArray, List.set_cons_zero, List.set_cons_succ]
              with_reducible refine wpS_skip ?_ ?_
              · rfl
              try simp only [Act.put, List.setIfInBounds_toArray, List.set_cons_zero, List.set_cons_succ]
              with_reducible refine wpS_skip ?_ ?_
              · rfl
              try simp only [Act.put, List.setIfInBounds_toArray, List.set_cons_zero, List.set_cons_succ]
              with_reducible refine wpS_skip ?_ ?_
              · rfl
              try simp only [Act.put, List.setIfInBounds_toArray, List.set_cons_zero, List.set_cons_succ]
              with_reducible refine wpS_skip ?_ ?_
              · rfl
              try simp only [Act.put, List.setIfInBounds_toArray, List.set_cons_zero, List.set_cons_succ]
              with_reducible refine wpS_skip ?_ ?_
              · rfl
              try simp only [Act.put, List.setIfInBounds_toArray, List.set_cons_zero, List.set_cons_succ]
              with_reducible refine wpS_skip ?_ ?_
              · rfl
              try simp only [Act.put, List.setIfInBounds_toArray, List.set_cons_zero, List.set_cons_succ]
              with_reducible refine wpS_skip ?_ ?_
              · rfl
              try simp only [Act.put, List.setIfInBounds_toArray, List.set_cons_zero, List.set_cons_succ]
              with_reducible refine wpS_skip ?_ ?_
              · rfl
              try simp only [Act.put, List.setIfInBounds_toArray, List.set_cons_zero, List.set_cons_succ]
              with_reducible refine wpS_skip ?_ ?_
              · rfl
              try simp only [Act.put, List.setIfInBounds_toArray, List.set_cons_zero, List.set_cons_succ]
              with_reducible refine wpS_skip ?_ ?_
              · rfl
              try simp only [Act.put, List.setIfInBounds_toArray, List.set_cons_zero, List.set_cons_succ]
              with_reducible refine wpS_take (v := ?_) ?_ ?_ ?_
              rotate_left
              · rfl
              · (go_simp <;> with_reducible rfl)
              try simp only [Act.put, List.setIfInBounds_toArray, List.set_cons_zero, List.set_cons_succ]
              with_reducible refine wpS_take (v := ?_) ?_ ?_ ?_
              rotate_left
              · rfl
              · (go_simp <;> with_reducible rfl)
              try simp only [Act.put, List.setIfInBounds_toArray, List.set_cons_zero, List.set_cons_succ]
              with_reducible refine wpS_take (v := ?_) ?_ ?_ ?_
              rotate_left
              · rfl
              · (go_simp <;> with_reducible rfl)
              try simp only [Act.put, List.setIfInBounds_toArray, List.set_cons_zero, List.set_cons_succ]
              with_reducible refine wpS_take (v := ?_) ?_ ?_ ?_
              rotate_left
              · rfl
              · (go_simp <;> with_reducible rfl)
              try simp only [Act.put, List.setIfInBounds_toArray, List.set_cons_zero, List.set_cons_succ]
              with_reducible refine wpS_take (v := ?_) ?_ ?_ ?_
              rotate_left
              · rfl
              · (go_simp <;> with_reducible rfl)
              try simp only [Act.put, List.setIfInBounds_toArray, List.set_cons_zero, List.set_cons_succ]
              with_reducible refine wpS_take (v := ?_) ?_ ?_ ?_
              rotate_left
              · rfl
              · (go_simp <;> with_reducible rfl)
              try simp only [Act.put, List.setIfInBounds_toArray, List.set_cons_zero, List.set_cons_succ]
              with_reducible refine wpS_take (v := ?_) ?_ ?_ ?_
              rotate_left
              · rfl
              · (go_simp <;> with_reducible rfl)
              try simp only [Act.put, List.setIfInBounds_toArray, List.set_cons_zero, List.set_cons_succ]
              with_reducible refine wpS_take (v := ?_) ?_ ?_ ?_
              rotate_left
              · rfl
              · (go_simp <;> with_reducible rfl)
              try simp only [Act.put, List.setIfInBounds_toArray, List.set_cons_zero, List.set_cons_succ]
              with_reducible refine wpS_take (v := ?_) ?_ ?_ ?_
              rotate_left
              · rfl
              · (go_simp <;> with_reducible rfl)
              try simp only [Act.put, List.setIfInBounds_toArray, List.set_cons_zero, List.set_cons_succ]
              refine wpStill_nil ?_
              go_wp2_with fail
              refine (rapplicable_b num A X c cx xs ct _ RX0.out RC0.out hn hbd _ HA.out).mono ?_
              rintro e w2 ⟨rfl, hx2⟩
              have X2 := Lib.hid ((HS.out.trans (Ext.drew (Ext.refl wr))).trans hx2); clear hx2
              go_wp2
              go_ret
              exact ⟨ret_bool (box_no (by rw [prs_len]; exact hlt) (by rw [ok_zero HZ.out HP.out HH.out]; exact HA.out)).symm, H0.out.trans (X2.out)⟩
            · have HA := Lib.hid ha; clear ha
              have RX0 := Lib.hid (HXr.out.ext (Ext.drew (Ext.refl wr))); have RC0 := Lib.hid (HR.out.ext (Ext.drew (Ext.refl wr)))
              go_wp2
              refine still_tail_drew 34 (by kernel_rfl) (by kernel_rfl) ?_
              simp only [List.take_succ_cons, List.take_zero, List.drop_succ_cons, List.drop_zero]
              with_reducible refine wpS_take (v := ?_) ?_ ?_ ?_
              rotate_left
              · rfl
              · (go_simp <;> with_reducible rfl)
              try simp only [Act.put, List.setIfInBounds_toArray, List.set_cons_zero, List.set_cons_succ]
              with_reducible refine wpS_take (v := ?_) ?_ ?_ ?_
              rotate_left
              · rfl
              · (go_simp <;> with_reducible rfl)
              try simp only [Act.put, List.setIfInBounds_toArray, List.set_cons_zero, List.set_cons_succ]
              with_reducible refine wpS_take (v := ?_) ?_ ?_ ?_
              rotate_left
              · rfl
              · (go_simp <;> with_reducible rfl)
              try simp only [Act.put, List.setIfInBounds_toArray, List.set_cons_zero, List.set_cons_succ]
              with_reducible refine wpS_take (v := ?_) ?_ ?_ ?_
              rotate_left
              · rfl
              · (go_simp <;> with_reducible rfl)
              try simp only [Act.put, List.setIfInBounds_toArray, List.set_cons_zero, List.set_cons_succ]
              with_reducible refine wpS_take (v := ?_) ?_ ?_ ?_
              rotate_left
              · rfl
              · (go_simp <;> with_reducible rfl)
              try simp only [Act.put, List.setIfInBounds_toArray, List.set_cons_zero, List.set_cons_succ]
              with_reducible refine wpS_take (v := ?_) ?_ ?_ ?_
              rotate_left
              · rfl
              · (go_simp <;> with_reducible rfl)
              try simp only [Act.put, List.setIfInBounds_toArray, List.set_cons_zero, List.set_cons_succ]
              with_reducible refine wpS_take (v := ?_) ?_ ?_ ?_
              rotate_left
              · rfl
              · (go_simp <;> with_reducible rfl)
              try simp only [Act.put, List.setIfInBounds_toArray, List.set_cons_zero, List.set_cons_succ]
              with_reducible refine wpS_call ?_ ?_ (rcontains_c A c xs m _ RX0.out hn _ HH.out) ?_
              · rfl
              · (go_simp <;> with_reducible rfl)
              try simp only [Act.put, List.setIfInBounds_toArray, List.set_cons_zero, List.set_cons_succ]
              with_reducible refine wpS_take (v := ?_) ?_ ?_ ?_
              rotate_left
              · rfl
              · (go_simp <;> with_reducible rfl)
              try simp only [Act.put, List.setIfInBounds_toArray, List.set_cons_zero, List.set_cons_succ]
              with_reducible refine wpS_take (v := ?_) ?_ ?_ ?_
              rotate_left
              · rfl
              · (go_simp <;> with_reducible rfl)
              try simp only [Act.put, List.setIfInBounds_toArray, List.set_cons_zero, List.set_cons_succ]
              with_reducible refine wpS_take (v := ?_) ?_ ?_ ?_
              rotate_left
              · rfl
              · (go_simp <;> with_reducible rfl)
              try simp only [Act.put, List.setIfInBounds_toArray, List.set_cons_zero, List.set_cons_succ]
              with_reducible refine wpS_take (v := ?_) ?_ ?_ ?_
              rotate_left
              · rfl
              · (go_simp <;> with_reducible rfl)
              try simp only [Act.put, List.setIfInBounds_toArray, List.set_cons_zero, List.set_cons_succ]
              with_reducible refine wpS_take (v := ?_) ?_ ?_ ?_
              rotate_left
              · rfl
              · (go_simp <;> with_reducible rfl)
              try simp only [Act.put, List.setIfInBounds_toArray, List.set_cons_zero, List.set_cons_succ]
              with_reducible refine wpS_skip ?_ ?_
              · rfl
              try simp only [Act.put, List.setIfInBounds_toArray, List.set_cons_zero, List.set_cons_succ]
              with_reducible refine wpS_skip ?_ ?_
              · rfl
              try simp only [Act.put, List.setIfInBounds_toArray, List.set_cons_zero, List.set_cons_succ]
              with_reducible refine wpS_skip ?_ ?_
              · rfl
              try simp only [Act.put, List.setIfInBounds_toArray, List.set_cons_zero, List.set_cons_succ]
              with_reducible refine wpS_skip ?_ ?_
              · rfl
              try simp only [Act.put, List.setIfInBounds_toArray, List.set_cons_zero, List.set_cons_succ]
              with_reducible refine wpS_skip ?_ ?_
              · rfl
              try simp only [Act.put, List.setIfInBounds_toArray, List.set_cons_zero, List.set_cons_succ]
              with_reducible refine wpS_skip ?_ ?_
              · rfl
              try simp only [Act.put, List.setIfInBounds_toArray, List.set_cons_zero, List.set_cons_succ]
              with_reducible refine wpS_skip ?_ ?_
              · rfl
              try simp only [Act.put, List.setIfInBounds_toArray, List.set_cons_zero, List.set_cons_succ]
              with_reducible refine wpS_skip ?_ ?_
              · rfl
              try simp only [Act.put, List.setIfInBounds_toArray, List.set_cons_zero, List.set_cons_succ]
              with_reducible refine wpS_skip ?_ ?_
              · rfl
              try simp only [Act.put, List.setIfInBounds_toArray, List.set_cons_zero, List.set_cons_succ]
              with_reducible refine wpS_skip ?_ ?_
              · rfl
              try simp only [Act.put, List.setIfInBounds_toArray, List.set_cons_zero, List.set_cons_succ]
              with_reducible refine wpS_skip ?_ ?_
              · rfl
              try simp only [Act.put, List.setIfInBounds_toArray, List.set_cons_zero, List.set_cons_succ]
              with_reducible refine wpS_skip ?_ ?_
              · rfl
              try simp only [Act.put, List.setIfInBounds_toArray, List.set_cons_zero, List.set_cons_succ]
              with_reducible refine wpS_take (v := ?_) ?_ ?_ ?_
              rotate_left
              · rfl
              · (go_simp <;> with_reducible rfl)
              try simp only [Act.put, List.setIfInBounds_toArray, List.set_cons_zero, List.set_cons_succ]
              with_reducible refine wpS_take (v := ?_) ?_ ?_ ?_
              rotate_left
              · rfl
              · (go_simp <;> with_reducible rfl)
              try simp only [Act.put, List.setIfInBounds_toArray, List.set_cons_zero, List.set_cons_succ]
              with_reducible refine wpS_take (v := ?_) ?_ ?_ ?_
              rotate_left
              · rfl
              · (go_simp <;> with_reducible rfl)
              try simp only [Act.put, List.setIfInBounds_toArray, List.set_cons_zero, List.set_cons_succ]
              with_reducible refine wpS_take (v := ?_) ?_ ?_ ?_
              rotate_left
              · rfl
              · (go_simp <;> with_reducible rfl)
              try simp only [Act.put, List.setIfInBounds_toArray, List.set_cons_zero, List.set_cons_succ]
              with_reducible refine wpS_take (v := ?_) ?_ ?_ ?_
              rotate_left
              · rfl
              · (go_simp <;> with_reducible rfl)
              try simp only [Act.put, List.setIfInBounds_toArray, List.set_cons_zero, List.set_cons_succ]
              with_reducible refine wpS_take (v := ?_) ?_ ?_ ?_
              rotate_left
              · rfl
              · (go_simp <;> with_reducible rfl)
              try simp only [Act.put, List.setIfInBounds_toArray, List.set_cons_zero, List.set_cons_succ]
              with_reducible refine wpS_take (v := ?_) ?_ ?_ ?_
              rotate_left
              · rfl
              · (go_simp <;> with_reducible rfl)
              try simp only [Act.put, List.setIfInBounds_toArray, List.set_cons_zero, List.set_cons_succ]
              with_reducible refine wpS_take (v := ?_) ?_ ?_ ?_
              rotate_left
              · rfl
              · (go_simp <;> with_reducible rfl)
              try simp only [Act.put, List.setIfInBounds_toArray, List.set_cons_zero, List.set_cons_succ]
              with_reducible refine wpS_take (v := ?_) ?_ ?_ ?_
              rotate_left
              · rfl
              · (go_simp <;> with_reducible rfl)
              try simp only [Act.put, List.setIfInBounds_toArray, List.set_cons_zero, List.set_cons_succ]
              refine wpStill_nil ?_
              go_wp2_with fail
              refine (rapplicable_b num A X c cx xs ct _ RX0.out RC0.out hn hbd _ HA.out).mono ?_
              rintro e w2 ⟨rfl, hx2⟩
              have X2 := Lib.hid ((HS.out.trans (Ext.drew (Ext.refl wr))).trans hx2); clear hx2
              go_wp2
              go_roundw
              case rel => exact ⟨k + 1, by omega, by go_num, ok_step HT.out (by rw [ok_zero HZ.out HP.out HH.out]; exact HA.out), X2.out⟩
              case measure => simp [intOf] <;> omega
          · obtain ⟨j, hj⟩ : ∃ j, k = j + 1 := ⟨k - 1, by omega⟩
            have HJ := Lib.hid hj
            have hw1 : IntKind.i64.wrap ((k : Int) - 1) = (j : Int) := by rw [IntWalk.i64_in _ (by omega)]; omega
            have hkp : (0 : Int) < (k : Int) := by omega
            have hkq : 0 < k := by omega
            have HPJ := Lib.hid (hj ▸ HP.out)
            obtain ⟨b', off', m0, X0, cx0, ct0, hbb, _, c2, _, _, _, _, HI0⟩ := (HB.out.ext HS.out).at_ (show j < bs.length by omega)
            simp only [Option.some.injEq, Addr.mk.injEq, and_true] at hbb
            obtain ⟨rfl, rfl⟩ := hbb
            have HP0 := Lib.hid (prs_at HI0.out)
            have hk0 : (0 : Int) ≤ (j : Int) := by omega
            have hk1 : (j : Int) < (bs.length : Int) := by omega
            have hk2 : j < bs.length := by omega
            clear hj hkz
            by_cases hlo : m0 < m
            · have HLO := Lib.hid hlo
              have hlo' : decide (m ≤ m0) = false := decide_eq_false (by omega)
              clear hlo
              cases ha : applF num xs ct
              · have HA := Lib.hid ha; clear ha
                have RX0 := Lib.hid (HXr.out.ext (Ext.drew (Ext.refl wr))); have RC0 := Lib.hid (HR.out.ext (Ext.drew (Ext.refl wr)))
                go_wp2
                refine still_tail_drew 34 (by kernel_rfl) (by kernel_rfl) ?_
                simp only [List.take_succ_cons, List.take_zero, List.drop_succ_cons, List.drop_zero]
                with_reducible refine wpS_take (v := ?_) ?_ ?_ ?_
                rotate_left
                · rfl
                · (go_simp <;> with_reducible rfl)
                try simp only [Act.put, List.setIfInBounds_toArray, List.set_cons_zero, List.set_cons_succ]
                with_reducible refine wpS_take (v := ?_) ?_ ?_ ?_
                rotate_left
                · rfl
                · (go_simp <;> with_reducible rfl)
                try simp only [Act.put, List.setIfInBounds_toArray, List.set_cons_zero, List.set_cons_succ]
                with_reducible refine wpS_take (v := ?_) ?_ ?_ ?_
                rotate_left
                · rfl
                · (go_simp <;> with_reducible rfl)
                try simp only [Act.put, List.setIfInBounds_toArray, List.set_cons_zero, List.set_cons_succ]
                with_reducible refine wpS_take (v := ?_) ?_ ?_ ?_
                rotate_left
                · rfl
                · (go_simp <;> with_reducible rfl)
                try simp only [Act.put, List.setIfInBounds_toArray, List.set_cons_zero, List.set_cons_succ]
                with_reducible refine wpS_take (v := ?_) ?_ ?_ ?_
                rotate_left
                · rfl
                · (go_simp <;> with_reducible rfl)
                try simp only [Act.put, List.setIfInBounds_toArray, List.set_cons_zero, List.set_cons_succ]
                with_reducible refine wpS_take (v := ?_) ?_ ?_ ?_
                rotate_left
                · rfl
                · (go_simp <;> with_reducible rfl)
                try simp only [Act.put, List.setIfInBounds_toArray, List.set_cons_zero, List.set_cons_succ]
                with_reducible refine wpS_take (v := ?_) ?_ ?_ ?_
                rotate_left
                · rfl
                · (go_simp <;> with_reducible rfl)
                try simp only [Act.put, List.setIfInBounds_toArray, List.set_cons_zero, List.set_cons_succ]
                with_reducible refine wpS_call ?_ ?_ (rcontains_c A c xs m _ RX0.out hn _ HH.out) ?_
                · rfl
                · (go_simp <;> with_reducible rfl)
                try simp only [Act.put, List.setIfInBounds_toArray, List.set_cons_zero, List.set_cons_succ]
                with_reducible refine wpS_take (v := ?_) ?_ ?_ ?_
                rotate_left
                · rfl
                · (go_simp <;> with_reducible rfl)
                try simp only [Act.put, List.setIfInBounds_toArray, List.set_cons_zero, List.set_cons_succ]
                with_reducible refine wpS_take (v := ?_) ?_ ?_ ?_
                rotate_left
                · rfl
                · (go_simp <;> with_reducible rfl)
                try simp only [Act.put, List.setIfInBounds_toArray, List.set_cons_zero, List.set_cons_succ]
                with_reducible refine wpS_take (v := ?_) ?_ ?_ ?_
                rotate_left
                · rfl
                · (go_simp <;> with_reducible rfl)
                try simp only [Act.put, List.setIfInBounds_toArray, List.set_cons_zero, List.set_cons_succ]
                with_reducible refine wpS_take (v := ?_) ?_ ?_ ?_
                rotate_left
                · rfl
                · (go_simp <;> with_reducible rfl)
                try simp only [Act.put, List.setIfInBounds_toArray, List.set_cons_zero, List.set_cons_succ]
                with_reducible refine wpS_take (v := ?_) ?_ ?_ ?_
                rotate_left
                · rfl
                · (go_simp <;> with_reducible rfl)
                try simp only [Act.put, List.setIfInBounds_toArray, List.set_cons_zero, List.set_cons_succ]
                with_reducible refine wpS_take (v := ?_) ?_ ?_ ?_
                rotate_left
                · rfl
                · (go_simp <;> with_reducible rfl)
                try simp only [Act.put, List.setIfInBounds_toArray, List.set_cons_zero, List.set_cons_succ]
                with_reducible refine wpS_take (v := ?_) ?_ ?_ ?_
                rotate_left
                · rfl
                · (go_simp <;> with_reducible rfl)
                try simp only [Act.put, List.setIfInBounds_toArray, List.set_cons_zero, List.set_cons_succ]
                with_reducible refine wpS_take (v := ?_) ?_ ?_ ?_
                rotate_left
                · rfl
                · (go_simp <;> with_reducible rfl)
                try simp only [Act.put, List.setIfInBounds_toArray, List.set_cons_zero, List.set_cons_succ]
                with_reducible refine wpS_take (v := ?_) ?_ ?_ ?_
                rotate_left
                · rfl
                · (go_simp <;> with_reducible rfl)
                try simp only [Act.put, List.setIfInBounds_toArray, List.set_cons_zero, List.set_cons_succ]
                with_reducible refine wpS_take (v := ?_) ?_ ?_ ?_
                rotate_left
                · rfl
                · (go_simp <;> with_reducible rfl)
                try simp only [Act.put, List.setIfInBounds_toArray, List.set_cons_zero, List.set_cons_succ]
                with_reducible refine wpS_take (v := ?_) ?_ ?_ ?_
                rotate_left
                · rfl
                · (go_simp <;> with_reducible rfl)
                try simp only [Act.put, List.setIfInBounds_toArray, List.set_cons_zero, List.set_cons_succ]
                with_reducible refine wpS_take (v := ?_) ?_ ?_ ?_
                rotate_left
                · rfl
                · (go_simp <;> with_reducible rfl)
                try simp only [Act.put, List.setIfInBounds_toArray, List.set_cons_zero, List.set_cons_succ]
                with_reducible refine wpS_take (v := ?_) ?_ ?_ ?_
                rotate_left
                · rfl
                · (go_simp <;> with_reducible rfl)
                try simp only [Act.put, List.setIfInBounds_toArray, List.set_cons_zero, List.set_cons_succ]
                with_reducible refine wpS_take (v := ?_) ?_ ?_ ?_
                rotate_left
                · rfl
                · (go_simp <;> with_reducible rfl)
                try simp only [Act.put, List.setIfInBounds_toArray, List.set_cons_zero, List.set_cons_succ]
                with_reducible refine wpS_take (v := ?_) ?_ ?_ ?_
                rotate_left
                · rfl
                · (go_simp <;> with_reducible rfl)
                try simp only [Act.put, List.setIfInBounds_toArray, List.set_cons_zero, List.set_cons_succ]
                with_reducible refine wpS_take (v := ?_) ?_ ?_ ?_
                rotate_left
                · rfl
                · (go_simp <;> with_reducible rfl)
                try simp only [Act.put, List.setIfInBounds_toArray, List.set_cons_zero, List.set_cons_succ]
                with_reducible refine wpS_take (v := ?_) ?_ ?_ ?_
                rotate_left
                · rfl
                · (go_simp <;> with_reducible rfl)
                try simp only [Act.put, List.setIfInBounds_toArray, List.set_cons_zero, List.set_cons_succ]
                with_reducible refine wpS_take (v := ?_) ?_ ?_ ?_
                rotate_left
                · rfl
                · (go_simp <;> with_reducible rfl)
                try simp only [Act.put, List.setIfInBounds_toArray, List.set_cons_zero, List.set_cons_succ]
                with_reducible refine wpS_take (v := ?_) ?_ ?_ ?_
                rotate_left
                · rfl
                · (go_simp <;> with_reducible rfl)
                try simp only [Act.put, List.setIfInBounds_toArray, List.set_cons_zero, List.set_cons_succ]
                with_reducible refine wpS_take (v := ?_) ?_ ?_ ?_
                rotate_left
                · rfl
                · (go_simp <;> with_reducible rfl)
                try simp only [Act.put, List.setIfInBounds_toArray, List.set_cons_zero, List.set_cons_succ]
                with_reducible refine wpS_take (v := ?_) ?_ ?_ ?_
                rotate_left
                · rfl
                · (go_simp <;> with_reducible rfl)
                try simp only [Act.put, List.setIfInBounds_toArray, List.set_cons_zero, List.set_cons_succ]
                with_reducible refine wpS_take (v := ?_) ?_ ?_ ?_
                rotate_left
                · rfl
                · (go_simp <;> with_reducible rfl)
                try simp only [Act.put, List.setIfInBounds_toArray, List.set_cons_zero, List.set_cons_succ]
                with_reducible refine wpS_take (v := ?_) ?_ ?_ ?_
                rotate_left
                · rfl
                · (go_simp <;> with_reducible rfl)
                try simp only [Act.put, List.setIfInBounds_toArray, List.set_cons_zero, List.set_cons_succ]
                with_reducible refine wpS_take (v := ?_) ?_ ?_ ?_
                rotate_left
                · rfl
                · (go_simp <;> with_reducible rfl)
                try simp only [Act.put, List.setIfInBounds_toArray, List.set_cons_zero, List.set_cons_succ]
                with_reducible refine wpS_take (v := ?_) ?_ ?_ ?_
                rotate_left
                · rfl
                · (go_simp <;> with_reducible rfl)
                try simp only [Act.put, List.setIfInBounds_toArray, List.set_cons_zero, List.set_cons_succ]
                with_reducible refine wpS_take (v := ?_) ?_ ?_ ?_
                rotate_left
                · rfl
                · (go_simp <;> with_reducible rfl)
                try simp only [Act.put, List.setIfInBounds_toArray, List.set_cons_zero, List.set_cons_succ]
                refine wpStill_nil ?_
                go_wp2_with fail
                refine (rapplicable_b num A X c cx xs ct _ RX0.out RC0.out hn hbd _ HA.out).mono ?_
                rintro e w2 ⟨rfl, hx2⟩
                have X2 := Lib.hid ((HS.out.trans (Ext.drew (Ext.refl wr))).trans hx2); clear hx2
                go_wp2
                go_ret
                exact ⟨ret_bool (box_no (by rw [prs_len]; exact hlt) (by rw [HJ.out, ok_next HPJ.out HP0.out HH.out, HA.out, Bool.and_false])).symm, H0.out.trans (X2.out)⟩
              · have HA := Lib.hid ha; clear ha
                have RX0 := Lib.hid (HXr.out.ext (Ext.drew (Ext.refl wr))); have RC0 := Lib.hid (HR.out.ext (Ext.drew (Ext.refl wr)))
                go_wp2
                refine still_tail_drew 34 (by kernel_rfl) (by kernel_rfl) ?_
                simp only [List.take_succ_cons, List.take_zero, List.drop_succ_cons, List.drop_zero]
                with_reducible refine wpS_take (v := ?_) ?_ ?_ ?_
                rotate_left
                · rfl
                · (go_simp <;> with_reducible rfl)
                try simp only [Act.put, List.setIfInBounds_toArray, List.set_cons_zero, List.set_cons_succ]
                with_reducible refine wpS_take (v := ?_) ?_ ?_ ?_
                rotate_left
                · rfl
                · (go_simp <;> with_reducible rfl)
                try simp only [Act.put, List.setIfInBounds_toArray, List.set_cons_zero, List.set_cons_succ]
                with_reducible refine wpS_take (v := ?_) ?_ ?_ ?_
                rotate_left
                · rfl
                · (go_simp <;> with_reducible rfl)
                try simp only [Act.put, List.setIfInBounds_toArray, List.set_cons_zero, List.set_cons_succ]
                with_reducible refine wpS_take (v := ?_) ?_ ?_ ?_
                rotate_left
                · rfl
                · (go_simp <;> with_reducible rfl)
                try simp only [Act.put, List.setIfInBounds_toArray, List.set_cons_zero, List.set_cons_succ]
                with_reducible refine wpS_take (v := ?_) ?_ ?_ ?_
                rotate_left
                · rfl
                · (go_simp <;> with_reducible rfl)
                try simp only [Act.put, List.setIfInBounds_toArray, List.set_cons_zero, List.set_cons_succ]
                with_reducible refine wpS_take (v := ?_) ?_ ?_ ?_
                rotate_left
                · rfl
                · (go_simp <;> with_reducible rfl)
                try simp only [Act.put, List.setIfInBounds_toArray, List.set_cons_zero, List.set_cons_succ]
                with_reducible refine wpS_take (v := ?_) ?_ ?_ ?_
                rotate_left
                · rfl
                · (go_simp <;> with_reducible rfl)
                try simp only [Act.put, List.setIfInBounds_toArray, List.set_cons_zero, List.set_cons_succ]
                with_reducible refine wpS_call ?_ ?_ (rcontains_c A c xs m _ RX0.out hn _ HH.out) ?_
                · rfl
                · (go_simp <;> with_reducible rfl)
                try simp only [Act.put, List.setIfInBounds_toArray, List.set_cons_zero, List.set_cons_succ]
                with_reducible refine wpS_take (v := ?_) ?_ ?_ ?_
                rotate_left
                · rfl
                · (go_simp <;> with_reducible rfl)
                try simp only [Act.put, List.setIfInBounds_toArray, List.set_cons_zero, List.set_cons_succ]
                with_reducible refine wpS_take (v := ?_) ?_ ?_ ?_
                rotate_left
                · rfl
                · (go_simp <;> with_reducible rfl)
                try simp only [Act.put, List.setIfInBounds_toArray, List.set_cons_zero, List.set_cons_succ]
                with_reducible refine wpS_take (v := ?_) ?_ ?_ ?_
                rotate_left
                · rfl
                · (go_simp <;> with_reducible rfl)
                try simp only [Act.put, List.setIfInBounds_toArray, List.set_cons_zero, List.set_cons_succ]
                with_reducible refine wpS_take (v := ?_) ?_ ?_ ?_
                rotate_left
                · rfl
                · (go_simp <;> with_reducible rfl)
                try simp only [Act.put, List.setIfInBounds_toArray, List.set_cons_zero, List.set_cons_succ]
                with_reducible refine wpS_take (v := ?_) ?_ ?_ ?_
                rotate_left
                · rfl
                · (go_simp <;> with_reducible rfl)
                try simp only [Act.put, List.setIfInBounds_toArray, List.set_cons_zero, List.set_cons_succ]
                with_reducible refine wpS_take (v := ?_) ?_ ?_ ?_
                rotate_left
                · rfl
                · (go_simp <;> with_reducible rfl)
                try simp only [Act.put, List.setIfInBounds_toArray, List.set_cons_zero, List.set_cons_succ]
                with_reducible refine wpS_take (v := ?_) ?_ ?_ ?_
                rotate_left
                · rfl
                · (go_simp <;> with_reducible rfl)
                try simp only [Act.put, List.setIfInBounds_toArray, List.set_cons_zero, List.set_cons_succ]
                with_reducible refine wpS_take (v := ?_) ?_ ?_ ?_
                rotate_left
                · rfl
                · (go_simp <;> with_reducible rfl)
                try simp only [Act.put, List.setIfInBounds_toArray, List.set_cons_zero, List.set_cons_succ]
                with_reducible refine wpS_take (v := ?_) ?_ ?_ ?_
                rotate_left
                · rfl
                · (go_simp <;> with_reducible rfl)
                try simp only [Act.put, List.setIfInBounds_toArray, List.set_cons_zero, List.set_cons_succ]
                with_reducible refine wpS_take (v := ?_) ?_ ?_ ?_
                rotate_left
                · rfl
                · (go_simp <;> with_reducible rfl)
                try simp only [Act.put, List.setIfInBounds_toArray, List.set_cons_zero, List.set_cons_succ]
                with_reducible refine wpS_take (v := ?_) ?_ ?_ ?_
                rotate_left
                · rfl
                · (go_simp <;> with_reducible rfl)
                try simp only [Act.put, List.setIfInBounds_toArray, List.set_cons_zero, List.set_cons_succ]
                with_reducible refine wpS_take (v := ?_) ?_ ?_ ?_
                rotate_left
                · rfl
                · (go_simp <;> with_reducible rfl)
                try simp only [Act.put, List.setIfInBounds_toArray, List.set_cons_zero, List.set_cons_succ]
                with_reducible refine wpS_take (v := ?_) ?_ ?_ ?_
                rotate_left
                · rfl
                · (go_simp <;> with_reducible rfl)
                try simp only [Act.put, List.setIfInBounds_toArray, List.set_cons_zero, List.set_cons_succ]
                with_reducible refine wpS_take (v := ?_) ?_ ?_ ?_
                rotate_left
                · rfl
                · (go_simp <;> with_reducible rfl)
                try simp only [Act.put, List.setIfInBounds_toArray, List.set_cons_zero, List.set_cons_succ]
                with_reducible refine wpS_take (v := ?_) ?_ ?_ ?_
                rotate_left
                · rfl
                · (go_simp <;> with_reducible rfl)
                try simp only [Act.put, List.setIfInBounds_toArray, List.set_cons_zero, List.set_cons_succ]
                with_reducible refine wpS_take (v := ?_) ?_ ?_ ?_
                rotate_left
                · rfl
                · (go_simp <;> with_reducible rfl)
                try simp only [Act.put, List.setIfInBounds_toArray, List.set_cons_zero, List.set_cons_succ]
                with_reducible refine wpS_take (v := ?_) ?_ ?_ ?_
                rotate_left
                · rfl
                · (go_simp <;> with_reducible rfl)
                try simp only [Act.put, List.setIfInBounds_toArray, List.set_cons_zero, List.set_cons_succ]
                with_reducible refine wpS_take (v := ?_) ?_ ?_ ?_
                rotate_left
                · rfl
                · (go_simp <;> with_reducible rfl)
                try simp only [Act.put, List.setIfInBounds_toArray, List.set_cons_zero, List.set_cons_succ]
                with_reducible refine wpS_take (v := ?_) ?_ ?_ ?_
                rotate_left
                · rfl
                · (go_simp <;> with_reducible rfl)
                try simp only [Act.put, List.setIfInBounds_toArray, List.set_cons_zero, List.set_cons_succ]
                with_reducible refine wpS_take (v := ?_) ?_ ?_ ?_
                rotate_left
                · rfl
                · (go_simp <;> with_reducible rfl)
                try simp only [Act.put, List.setIfInBounds_toArray, List.set_cons_zero, List.set_cons_succ]
                with_reducible refine wpS_take (v := ?_) ?_ ?_ ?_
                rotate_left
                · rfl
                · (go_simp <;> with_reducible rfl)
                try simp only [Act.put, List.setIfInBounds_toArray, List.set_cons_zero, List.set_cons_succ]
                with_reducible refine wpS_take (v := ?_) ?_ ?_ ?_
                rotate_left
                · rfl
                · (go_simp <;> with_reducible rfl)
                try simp only [Act.put, List.setIfInBounds_toArray, List.set_cons_zero, List.set_cons_succ]
                with_reducible refine wpS_take (v := ?_) ?_ ?_ ?_
                rotate_left
                · rfl
                · (go_simp <;> with_reducible rfl)
                try simp only [Act.put, List.setIfInBounds_toArray, List.set_cons_zero, List.set_cons_succ]
                with_reducible refine wpS_take (v := ?_) ?_ ?_ ?_
                rotate_left
                · rfl
                · (go_simp <;> with_reducible rfl)
                try simp only [Act.put, List.setIfInBounds_toArray, List.set_cons_zero, List.set_cons_succ]
                with_reducible refine wpS_take (v := ?_) ?_ ?_ ?_
                rotate_left
                · rfl
                · (go_simp <;> with_reducible rfl)
                try simp only [Act.put, List.setIfInBounds_toArray, List.set_cons_zero, List.set_cons_succ]
                with_reducible refine wpS_take (v := ?_) ?_ ?_ ?_
                rotate_left
                · rfl
                · (go_simp <;> with_reducible rfl)
                try simp only [Act.put, List.setIfInBounds_toArray, List.set_cons_zero, List.set_cons_succ]
                refine wpStill_nil ?_
                go_wp2_with fail
                refine (rapplicable_b num A X c cx xs ct _ RX0.out RC0.out hn hbd _ HA.out).mono ?_
                rintro e w2 ⟨rfl, hx2⟩
                have X2 := Lib.hid ((HS.out.trans (Ext.drew (Ext.refl wr))).trans hx2); clear hx2
                go_wp2
                go_roundw
                case rel => exact ⟨k + 1, by omega, by go_num, ok_step HT.out (by rw [HJ.out, ok_next HPJ.out HP0.out HH.out, HA.out, decide_eq_true HLO.out]; rfl), X2.out⟩
                case measure => simp [intOf] <;> omega
            · have hlo' : m ≤ m0 := by omega
              have HLO := Lib.hid hlo'
              clear hlo
              have RX0 := Lib.hid (HXr.out.ext (Ext.drew (Ext.refl wr))); have RC0 := Lib.hid (HR.out.ext (Ext.drew (Ext.refl wr)))
              go_wp2
              refine still_tail_drew 34 (by kernel_rfl) (by kernel_rfl) ?_
              simp only [List.take_succ_cons, List.take_zero, List.drop_succ_cons, List.drop_zero]
              with_reducible refine wpS_take (v := ?_) ?_ ?_ ?_
              rotate_left
              · rfl
              · (go_simp <;> with_reducible rfl)
              try simp only [Act.put, List.setIfInBounds_toArray, List.set_cons_zero, List.set_cons_succ]
              with_reducible refine wpS_take (v := ?_) ?_ ?_ ?_
              rotate_left
              · rfl
              · (go_simp <;> with_reducible rfl)
              try simp only [Act.put, List.setIfInBounds_toArray, List.set_cons_zero, List.set_cons_succ]
              with_reducible refine wpS_take (v := ?_) ?_ ?_ ?_
              rotate_left
              · rfl
              · (go_simp <;> with_reducible rfl)
              try simp only [Act.put, List.setIfInBounds_toArray, List.set_cons_zero, List.set_cons_succ]
              with_reducible refine wpS_take (v := ?_) ?_ ?_ ?_
              rotate_left
              · rfl
              · (go_simp <;> with_reducible rfl)
              try simp only [Act.put, List.setIfInBounds_toArray, List.set_cons_zero, List.set_cons_succ]
              with_reducible refine wpS_take (v := ?_) ?_ ?_ ?_
              rotate_left
              · rfl
              · (go_simp <;> with_reducible rfl)
              try simp only [Act.put, List.setIfInBounds_toArray, List.set_cons_zero, List.set_cons_succ]
              with_reducible refine wpS_take (v := ?_) ?_ ?_ ?_
              rotate_left
              · rfl
              · (go_simp <;> with_reducible rfl)
              try simp only [Act.put, List.setIfInBounds_toArray, List.set_cons_zero, List.set_cons_succ]
              with_reducible refine wpS_take (v := ?_) ?_ ?_ ?_
              rotate_left
              · rfl
              · (go_simp <;> with_reducible rfl)
              try simp only [Act.put, List.setIfInBounds_toArray, List.set_cons_zero, List.set_cons_succ]
              with_reducible refine wpS_call ?_ ?_ (rcontains_c A c xs m _ RX0.out hn _ HH.out) ?_
              · rfl
              · (go_simp <;> with_reducible rfl)
              try simp only [Act.put, List.setIfInBounds_toArray, List.set_cons_zero, List.set_cons_succ]
              with_reducible refine wpS_take (v := ?_) ?_ ?_ ?_
              rotate_left
              · rfl
              · (go_simp <;> with_reducible rfl)
              try simp only [Act.put, List.setIfInBounds_toArray, List.set_cons_zero, List.set_cons_succ]
              with_reducible refine wpS_take (v := ?_) ?_ ?_ ?_
              rotate_left
              · rfl
              · (go_simp <;> with_reducible rfl)
              try simp only [Act.put, List.setIfInBounds_toArray, List.set_cons_zero, List.set_cons_succ]
              with_reducible refine wpS_take (v := ?_) ?_ ?_ ?_
              rotate_left
              · rfl
              · (go_simp <;> with_reducible rfl)
              try simp only [Act.put, List.setIfInBounds_toArray, List.set_cons_zero, List.set_cons_succ]
              with_reducible refine wpS_take (v := ?_) ?_ ?_ ?_
              rotate_left
              · rfl
              · (go_simp <;> with_reducible rfl)
              try simp only [Act.put, List.setIfInBounds_toArray, List.set_cons_zero, List.set_cons_succ]
              with_reducible refine wpS_take (v := ?_) ?_ ?_ ?_
              rotate_left
              · rfl
              · (go_simp <;> with_reducible rfl)
              try simp only [Act.put, List.setIfInBounds_toArray, List.set_cons_zero, List.set_cons_succ]
              with_reducible refine wpS_take (v := ?_) ?_ ?_ ?_
              rotate_left
              · rfl
              · (go_simp <;> with_reducible rfl)
              try simp only [Act.put, List.setIfInBounds_toArray, List.set_cons_zero, List.set_cons_succ]
              with_reducible refine wpS_take (v := ?_) ?_ ?_ ?_
              rotate_left
              · rfl
              · (go_simp <;> with_reducible rfl)
              try simp only [Act.put, List.setIfInBounds_toArray, List.set_cons_zero, List.set_cons_succ]
              with_reducible refine wpS_take (v := ?_) ?_ ?_ ?_
              rotate_left
              · rfl
              · (go_simp <;> with_reducible rfl)
              try simp only [Act.put, List.setIfInBounds_toArray, List.set_cons_zero, List.set_cons_succ]
              with_reducible refine wpS_take (v := ?_) ?_ ?_ ?_
              rotate_left
              · rfl
              · (go_simp <;> with_reducible rfl)
              try simp only [Act.put, List.setIfInBounds_toArray, List.set_cons_zero, List.set_cons_succ]
              with_reducible refine wpS_take (v := ?_) ?_ ?_ ?_
              rotate_left
              · rfl
              · (go_simp <;> with_reducible rfl)
              try simp only [Act.put, List.setIfInBounds_toArray, List.set_cons_zero, List.set_cons_succ]
              with_reducible refine wpS_take (v := ?_) ?_ ?_ ?_
              rotate_left
              · rfl
              · (go_simp <;> with_reducible rfl)
              try simp only [Act.put, List.setIfInBounds_toArray, List.set_cons_zero, List.set_cons_succ]
              with_reducible refine wpS_take (v := ?_) ?_ ?_ ?_
              rotate_left
              · rfl
              · (go_simp <;> with_reducible rfl)
              try simp only [Act.put, List.setIfInBounds_toArray, List.set_cons_zero, List.set_cons_succ]
              with_reducible refine wpS_take (v := ?_) ?_ ?_ ?_
              rotate_left
              · rfl
              · (go_simp <;> with_reducible rfl)
              try simp only [Act.put, List.setIfInBounds_toArray, List.set_cons_zero, List.set_cons_succ]
              with_reducible refine wpS_take (v := ?_) ?_ ?_ ?_
              rotate_left
              · rfl
              · (go_simp <;> with_reducible rfl)
              try simp only [Act.put, List.setIfInBounds_toArray, List.set_cons_zero, List.set_cons_succ]
              with_reducible refine wpS_take (v := ?_) ?_ ?_ ?_
              rotate_left
              · rfl
              · (go_simp <;> with_reducible rfl)
              try simp only [Act.put, List.setIfInBounds_toArray, List.set_cons_zero, List.set_cons_succ]
              with_reducible refine wpS_take (v := ?_) ?_ ?_ ?_
              rotate_left
              · rfl
              · (go_simp <;> with_reducible rfl)
              try simp only [Act.put, List.setIfInBounds_toArray, List.set_cons_zero, List.set_cons_succ]
              with_reducible refine wpS_take (v := ?_) ?_ ?_ ?_
              rotate_left
              · rfl
              · (go_simp <;> with_reducible rfl)
              try simp only [Act.put, List.setIfInBounds_toArray, List.set_cons_zero, List.set_cons_succ]
              with_reducible refine wpS_take (v := ?_) ?_ ?_ ?_
              rotate_left
              · rfl
              · (go_simp <;> with_reducible rfl)
              try simp only [Act.put, List.setIfInBounds_toArray, List.set_cons_zero, List.set_cons_succ]
              with_reducible refine wpS_take (v := ?_) ?_ ?_ ?_
              rotate_left
              · rfl
              · (go_simp <;> with_reducible rfl)
              try simp only [Act.put, List.setIfInBounds_toArray, List.set_cons_zero, List.set_cons_succ]
              with_reducible refine wpS_take (v := ?_) ?_ ?_ ?_
              rotate_left
              · rfl
              · (go_simp <;> with_reducible rfl)
              try simp only [Act.put, List.setIfInBounds_toArray, List.set_cons_zero, List.set_cons_succ]
              with_reducible refine wpS_skip ?_ ?_
              · rfl
              try simp only [Act.put, List.setIfInBounds_toArray, List.set_cons_zero, List.set_cons_succ]
              with_reducible refine wpS_skip ?_ ?_
              · rfl
              try simp only [Act.put, List.setIfInBounds_toArray, List.set_cons_zero, List.set_cons_succ]
              with_reducible refine wpS_skip ?_ ?_
              · rfl
              try simp only [Act.put, List.setIfInBounds_toArray, List.set_cons_zero, List.set_cons_succ]
              with_reducible refine wpS_skip ?_ ?_
              · rfl
              try simp only [Act.put, List.setIfInBounds_toArray, List.set_cons_zero, List.set_cons_succ]
              with_reducible refine wpS_skip ?_ ?_
              · rfl
              try simp only [Act.put, List.setIfInBounds_toArray, List.set_cons_zero, List.set_cons_succ]
              with_reducible refine wpS_skip ?_ ?_
              · rfl
              try simp only [Act.put, List.setIfInBounds_toArray, List.set_cons_zero, List.set_cons_succ]
              refine wpStill_nil ?_
              go_wp2
              go_ret
              exact ⟨ret_bool (box_no (by rw [prs_len]; exact hlt) (by rw [HJ.out, ok_next HPJ.out HP0.out HH.out, decide_eq_false (Int.not_lt.2 HLO.out)]; rfl)).symm, H0.out.trans (HS.out.trans (Ext.drew (Ext.refl wr)))⟩
      · go_wp2
        go_ret
        exact ⟨ret_bool (box_yes HV.out (fun j hj => HT.out j (by rw [prs_len] at hj; omega))).symm, H0.out.trans HS.out⟩

end Go.Proofs.Ytagmocofmedmjaa
