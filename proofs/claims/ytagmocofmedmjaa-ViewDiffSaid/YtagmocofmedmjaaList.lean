/- Contracts: a list of ints is read from bytes. -/
import Derived.Test.YtagmocofmedmjaaInt
import Derived.Test.YtagmocofmedmjaaMerge
namespace Go.Proofs.Ytagmocofmedmjaa
open Go.RowKit

theorem int_len (A : Option Addr) (c n : Nat) (bs : List UInt8) (w : World) (h : Row w A (bytesV bs)) (hl : bs.length ≤ 1000000000) (hn : n = bs.length) :
    Calls Try.prog 88 #[.slice A n c] w fun e w' => e = retI (decI bs) ∧ w = w' := by subst hn; exact int_any A c bs w h hl
theorem readInt_len (A : Option Addr) (c n : Nat) (bs : List UInt8) (w : World) (h : Row w A (bytesV bs)) (hl : bs.length ≤ 1000000000) (hn : n = bs.length) :
    Calls Try.prog 89 #[.slice A n c] w fun e w' => e = retI (decI bs) ∧ w = w' := by subst hn; exact readInt_any A c bs w h hl

/-- a list in new memory, a length and an error are returned -/
def GivesL (w : World) (r : List Int × Nat × Int) (en : Ending) (w' : World) : Prop :=
  ∃ A c, en = .returned (.tuple #[.slice A r.1.length c, .int .i64 (r.2.1 : Int), .int .i64 r.2.2]) ∧ r.1.length ≤ c ∧ c ≤ maxLen ∧ Own w' w.heap.size 3 (.slice A r.1.length c) (ints r.1) ∧ Ext w w'
theorem gives_l {w w' : World} {r : List Int × Nat × Int} {l : List Int} {n : Nat} {k e : Int} {v : Value} (hr : r = (l, n, e)) (hk : k = (n : Int)) (h : Own w' w.heap.size 3 v (ints l)) (x : Ext w w') : GivesL w r (.returned (.tuple #[v, .int .i64 k, .int .i64 e])) w' := by
  subst hr hk
  have hl : (ints l).length = l.length := by simp [ints]
  obtain ⟨A, c, hv, h1, h2, _⟩ := h.slice
  rw [hl] at hv h1
  subst hv
  exact ⟨A, c, rfl, h1, h2, h, x⟩

/-- how far the reading of a list has come -/
def Mid (bs : List UInt8) (count i : Nat) (l : List Int) (n : Nat) (e : Int) (R : List Int × Nat × Int) : Prop :=
  (e = 0 ∧ readL bs (count - i) l n = R) ∨ (e ≠ 0 ∧ R = ([], 0, e))
theorem Mid.next {bs : List UInt8} {count i n : Nat} {l : List Int} {R : List Int × Nat × Int} (h : Mid bs count i l n 0 R) (hi : i < count) :
    Mid bs count (i + 1) (l ++ [(decI (bs.drop n)).1]) (n + (decI (bs.drop n)).2.1) (decI (bs.drop n)).2.2 R := by
  rcases h with ⟨_, h⟩ | ⟨h, _⟩
  · rw [show count - i = (count - (i + 1)) + 1 by omega] at h
    by_cases he : (decI (bs.drop n)).2.2 = 0
    · rw [readL_step he] at h; exact .inl ⟨he, h⟩
    · rw [readL_fail he] at h; exact .inr ⟨he, h.symm⟩
  · exact absurd rfl h
theorem Mid.done {bs : List UInt8} {count i n : Nat} {l : List Int} {R : List Int × Nat × Int} (h : Mid bs count i l n 0 R) (hi : ¬ i < count) : R = (l, n, 0) := by
  rcases h with ⟨_, h⟩ | ⟨h, _⟩
  · rw [show count - i = 0 by omega] at h; exact h.symm
  · exact absurd rfl h
theorem Mid.fail {bs : List UInt8} {count i n : Nat} {l : List Int} {e : Int} {R : List Int × Nat × Int} (h : Mid bs count i l n e R) (he : e ≠ 0) : R = ([], 0, e) := by
  rcases h with ⟨h, _⟩ | ⟨_, h⟩
  · exact absurd h he
  · exact h

set_option maxRecDepth 100000 in
set_option maxHeartbeats 800000 in
theorem list_any (A : Option Addr) (c : Nat) (bs : List UInt8) (m : Nat) (w : World) (h : Row w A (bytesV bs)) (hc : bs.length ≤ c) (hl : bs.length ≤ 1000000000) (hm : m ≤ 100000) :
    Calls Try.prog 87 #[.slice A bs.length c, .int .i64 (m : Int), .func (Fn.func 88) #[] #[]] w (GivesL w (decL bs m)) := by
  have H := Lib.hid h; clear h
  have hin := decN_in bs m
  by_cases he : (decN bs m).2.2 = 0
  · have HF : Hid (decL bs m = readL bs (decN bs m).1 [] (decN bs m).2.1) := by unfold Hid decL; rw [if_neg (by simpa using he)]
    have HE := Lib.hid he; clear he
    go_enter Try.func87, Try.ntmps87
    go_wp2_with fail
    refine (length_any A c bs m w H.out hl (by omega)).mono ?_
    rintro e w' ⟨rfl, rfl⟩
    unfold retI
    rw [HE.out]
    generalize hC : (decN bs m).1 = count at *
    generalize hN : (decN bs m).2.1 = n0 at *
    clear hC hN HE
    go_wp2
    go_loopw [6, 7, 8, 10, 11, 12, 13] (fun v nv ev i _ _ _ wr => ∃ (k n : Nat) (l : List Int) (e : Int), k ≤ count ∧ n ≤ bs.length ∧ l.length ≤ k ∧ nv = .int .i64 (n : Int) ∧ ev = .int .i64 e ∧ i = .int .i64 (k : Int) ∧ Hid (Mid bs count k l n e (decL bs m)) ∧ Own wr w.heap.size 3 v (ints l) ∧ Ext w wr) (fun _ _ _ i _ _ _ _ => count - (intOf i).toNat)
    case atStart => exact ⟨0, n0, [], 0, by omega, hin.2, by simp, rfl, rfl, rfl, .inl ⟨rfl, HF.out.symm⟩, Own.nil _ _ _, Ext.refl _⟩
    case round =>
      obtain ⟨k, n, l, e, hk, hn, hll, rfl, rfl, rfl, HM, ho, hx⟩ := hrel
      by_cases he : e = 0
      · subst he
        by_cases hlt : k < count
        · have hdi := decI_in (bs.drop n)
          rw [List.length_drop] at hdi
          have hfit : n + (decI (bs.drop n)).2.1 ≤ bs.length := by omega
          clear hdi
          have HMN := Lib.hid (HM.out.next hlt)
          by_cases hcn : c = n
          · have HZ := Lib.hid (fun A' => bytesV_drop bs n ▸ Row.past (w := wr) (A := A') (xs := bytesV bs) (k := n) (by rw [bytesV_len]; omega))
            subst hcn
            go_wp2_with fail
            refine (int_len _ _ _ (bs.drop c) _ (HZ.out _) (by rw [List.length_drop]; omega) (by simp only [List.length_drop]; try omega)).mono ?_
            rintro e' w' ⟨rfl, rfl⟩
            unfold retI
            generalize decI (bs.drop c) = r at *
            go_wp2_with (first
              | (at_builtin; refine push_int rfl (.tmp 39) (.tmp 41) rfl _ w.heap.size _ l (by rfl) _ (by rfl) ho (by omega) hx.size ?_; intro v1 w1 ho1 hg1 hs1))
            go_roundw
            case rel => exact ⟨k + 1, c + r.2.1, l ++ [r.1], r.2.2, by omega, hfit, by simp; omega, by go_num, rfl, by go_num, HMN, ho1, hg1.below hx hx.size (fun q hq => (ho.lt q hq).1)⟩
            case measure => simp [intOf]; omega
          · have HZ := Lib.hid (bytesV_drop bs n ▸ Row.map_ (k := n) (H.out.ext hx) (by rw [bytesV_len]; exact hc) hcn)
            go_wp2_with fail
            refine (int_len _ _ _ (bs.drop n) _ HZ.out (by rw [List.length_drop]; omega) (by simp only [List.length_drop]; try omega)).mono ?_
            rintro e' w' ⟨rfl, rfl⟩
            unfold retI
            generalize decI (bs.drop n) = r at *
            go_wp2_with (first
              | (at_builtin; refine push_int rfl (.tmp 39) (.tmp 41) rfl _ w.heap.size _ l (by rfl) _ (by rfl) ho (by omega) hx.size ?_; intro v1 w1 ho1 hg1 hs1))
            go_roundw
            case rel => exact ⟨k + 1, n + r.2.1, l ++ [r.1], r.2.2, by omega, hfit, by simp; omega, by go_num, rfl, by go_num, HMN, ho1, hg1.below hx hx.size (fun q hq => (ho.lt q hq).1)⟩
            case measure => simp [intOf]; omega
        · have HD := Lib.hid (HM.out.done hlt)
          go_wp2
          go_ret3
          exact gives_l HD.out rfl ho hx
      · have hb : (e == 0) = false := by simpa using he
        have hb' : (e != 0) = true := by simpa using he
        have HD := Lib.hid (HM.out.fail he)
        clear he
        go_wp2
        go_ret3
        exact gives_l HD.out rfl (Own.nil _ _ _) hx
  · have HF : Hid (decL bs m = ([], 0, (decN bs m).2.2)) := by unfold Hid decL; rw [if_pos he]
    have hb : ((decN bs m).2.2 == 0) = false := by simpa using he
    have hb' : ((decN bs m).2.2 != 0) = true := by simpa using he
    clear he
    go_enter Try.func87, Try.ntmps87
    go_wp2_with fail
    refine (length_any A c bs m w H.out hl (by omega)).mono ?_
    rintro e w' ⟨rfl, rfl⟩
    unfold retI
    go_wp2
    refine wp_loop_rounds 1 ?_
    rw [rounds_succ]
    go_wp2
    go_ret3
    exact gives_l HF.out rfl (Own.nil _ _ _) (Ext.refl _)

set_option maxRecDepth 100000 in
theorem intList_any (A : Option Addr) (c : Nat) (bs : List UInt8) (m : Nat) (w : World) (h : Row w A (bytesV bs)) (hc : bs.length ≤ c) (hl : bs.length ≤ 1000000000) (hm : m ≤ 100000) :
    Calls Try.prog 79 #[.slice A bs.length c, .int .i64 (m : Int)] w (GivesL w (decL bs m)) := by
  have H := Lib.hid h; clear h
  go_enter Try.func79, Try.ntmps79
  go_wp2_with fail
  refine (list_any A c bs m w H.out hc hl hm).mono ?_
  rintro e w1 ⟨A1, c1, rfl, hc1, hm1, ho1, hx1⟩
  go_wp2
  go_ret3
  exact ⟨A1, c1, rfl, hc1, hm1, ho1, hx1⟩
end Go.Proofs.Ytagmocofmedmjaa
