/- The contract of the reference's ReadIntList. -/
import Derived.Test.YtagmocofmedmjaaList
namespace Go.Proofs.Ytagmocofmedmjaa
open Go.RowKit

theorem readL_done {bs : List UInt8} {count i n : Nat} {l : List Int} {R : List Int × Nat × Int} (h : readL bs (count - i) l n = R) (hi : ¬ i < count) : R = (l, n, 0) := by
  rw [show count - i = 0 by omega] at h; exact h.symm
theorem readL_next {bs : List UInt8} {count i n : Nat} {l : List Int} {R : List Int × Nat × Int} (h : readL bs (count - i) l n = R) (hi : i < count) (he : (decI (bs.drop n)).2.2 = 0) :
    readL bs (count - (i + 1)) (l ++ [(decI (bs.drop n)).1]) (n + (decI (bs.drop n)).2.1) = R := by
  rw [show count - i = (count - (i + 1)) + 1 by omega, readL_step he] at h; exact h
theorem readL_stop {bs : List UInt8} {count i n : Nat} {l : List Int} {R : List Int × Nat × Int} (h : readL bs (count - i) l n = R) (hi : i < count) (he : (decI (bs.drop n)).2.2 ≠ 0) :
    R = ([], 0, (decI (bs.drop n)).2.2) := by
  rw [show count - i = (count - (i + 1)) + 1 by omega, readL_fail he] at h; exact h.symm

set_option maxRecDepth 100000 in
set_option maxHeartbeats 800000 in
theorem readIntList_any (A : Option Addr) (c : Nat) (bs : List UInt8) (m : Nat) (w : World) (h : Row w A (bytesV bs)) (hc : bs.length ≤ c) (hl : bs.length ≤ 1000000000) (hm : m ≤ 100000) :
    Calls Try.prog 81 #[.slice A bs.length c, .int .i64 (m : Int)] w (GivesL w (decL bs m)) := by
  have H := Lib.hid h; clear h
  have hwm : IntKind.u64.wrap (m : Int) = (m : Int) := u64_nat (by unfold U64; omega)
  have hin := (decU_in bs).2.1
  by_cases he : (decU bs).2.2 = 0
  · have hb : ((decU bs).2.2 != 0) = false := by simpa using he
    have HE := Lib.hid he; clear he
    by_cases hg : m < (decU bs).1
    · have HN : decN bs m = (0, 0, 5) := by unfold decN; rw [if_neg (by simpa using HE.out), if_pos hg]
      have HF : Hid (decL bs m = ([], 0, 5)) := by unfold Hid decL; rw [HN]; rfl
      clear HN
      go_enter Try.func81, Try.ntmps81
      go_wp2_with fail
      refine (readUint_any A c bs w H.out hl).mono ?_
      rintro e w' ⟨rfl, rfl⟩
      unfold retU
      go_wp2
      go_ret3
      exact gives_l HF.out rfl (Own.nil _ _ _) (Ext.refl _)
    · have HN : decN bs m = ((decU bs).1, (decU bs).2.1, 0) := by unfold decN; rw [if_neg (by simpa using HE.out), if_neg hg]
      have HF : Hid (decL bs m = readL bs (decU bs).1 [] (decU bs).2.1) := by unfold Hid decL; rw [HN]; rfl
      have hle : (decU bs).1 ≤ m := by omega
      clear hg HN
      go_enter Try.func81, Try.ntmps81
      go_wp2_with fail
      refine (readUint_any A c bs w H.out hl).mono ?_
      rintro e w' ⟨rfl, rfl⟩
      unfold retU
      rw [HE.out] at hb ⊢
      generalize (decU bs).1 = count at *
      generalize (decU bs).2.1 = n0 at *
      clear HE hb
      have hdg : decide (m < count) = false := by simp; omega
      go_wp2
      clear hwm hdg
      go_loopw [8, 10, 11, 12, 13, 14] (fun nv v i _ _ _ wr => ∃ (k n : Nat) (l : List Int), k ≤ count ∧ n ≤ bs.length ∧ l.length ≤ k ∧ nv = .int .i64 (n : Int) ∧ i = .int .u64 (k : Int) ∧ Hid (readL bs (count - k) l n = decL bs m) ∧ Own wr w.heap.size 3 v (ints l) ∧ Ext w wr) (fun _ _ i _ _ _ _ => count - (intOf i).toNat)
      case atStart => exact ⟨0, n0, [], by omega, hin, by simp, rfl, rfl, HF.out.symm, Own.nil _ _ _, Ext.refl _⟩
      case round =>
        obtain ⟨k, n, l, hk, hn, hll, rfl, rfl, HM, ho, hx⟩ := hrel
        by_cases hlt : k < count
        · have hdi := decI_in (bs.drop n)
          rw [List.length_drop] at hdi
          have hfit : n + (decI (bs.drop n)).2.1 ≤ bs.length := by omega
          clear hdi
          by_cases hf : (decI (bs.drop n)).2.2 = 0
          · have HMN := Lib.hid (readL_next HM.out hlt hf)
            have hb : ((decI (bs.drop n)).2.2 != 0) = false := by simpa using hf
            clear hf
            by_cases hcn : c = n
            · have HZ := Lib.hid (fun A' => bytesV_drop bs n ▸ Row.past (w := wr) (A := A') (xs := bytesV bs) (k := n) (by rw [bytesV_len]; omega))
              subst hcn
              go_wp2_with fail
              refine (readInt_len _ _ _ (bs.drop c) _ (HZ.out _) (by rw [List.length_drop]; omega) (by simp only [List.length_drop]; try omega)).mono ?_
              rintro e' w' ⟨rfl, rfl⟩
              unfold retI
              generalize decI (bs.drop c) = r at *
              go_wp2_with (first
                | (at_builtin; refine push_int rfl (.tmp 46) (.tmp 48) rfl _ w.heap.size _ l (by rfl) _ (by rfl) ho (by omega) hx.size ?_; intro v1 w1 ho1 hg1 hs1))
              go_roundw
              case rel => exact ⟨k + 1, c + r.2.1, l ++ [r.1], by omega, hfit, by simp; omega, by go_num, by go_num, HMN, ho1, hg1.below hx hx.size (fun q hq => (ho.lt q hq).1)⟩
              case measure => simp [intOf]; omega
            · have HZ := Lib.hid (bytesV_drop bs n ▸ Row.map_ (k := n) (H.out.ext hx) (by rw [bytesV_len]; exact hc) hcn)
              go_wp2_with fail
              refine (readInt_len _ _ _ (bs.drop n) _ HZ.out (by rw [List.length_drop]; omega) (by simp only [List.length_drop]; try omega)).mono ?_
              rintro e' w' ⟨rfl, rfl⟩
              unfold retI
              generalize decI (bs.drop n) = r at *
              go_wp2_with (first
                | (at_builtin; refine push_int rfl (.tmp 46) (.tmp 48) rfl _ w.heap.size _ l (by rfl) _ (by rfl) ho (by omega) hx.size ?_; intro v1 w1 ho1 hg1 hs1))
              go_roundw
              case rel => exact ⟨k + 1, n + r.2.1, l ++ [r.1], by omega, hfit, by simp; omega, by go_num, by go_num, HMN, ho1, hg1.below hx hx.size (fun q hq => (ho.lt q hq).1)⟩
              case measure => simp [intOf]; omega
          · have HD := Lib.hid (readL_stop HM.out hlt hf)
            have hb : ((decI (bs.drop n)).2.2 != 0) = true := by simpa using hf
            clear hf
            by_cases hcn : c = n
            · have HZ := Lib.hid (fun A' => bytesV_drop bs n ▸ Row.past (w := wr) (A := A') (xs := bytesV bs) (k := n) (by rw [bytesV_len]; omega))
              subst hcn
              go_wp2_with fail
              refine (readInt_len _ _ _ (bs.drop c) _ (HZ.out _) (by rw [List.length_drop]; omega) (by simp only [List.length_drop]; try omega)).mono ?_
              rintro e' w' ⟨rfl, rfl⟩
              unfold retI
              generalize decI (bs.drop c) = r at *
              go_wp2
              go_ret3
              exact gives_l HD.out rfl (Own.nil _ _ _) hx
            · have HZ := Lib.hid (bytesV_drop bs n ▸ Row.map_ (k := n) (H.out.ext hx) (by rw [bytesV_len]; exact hc) hcn)
              go_wp2_with fail
              refine (readInt_len _ _ _ (bs.drop n) _ HZ.out (by rw [List.length_drop]; omega) (by simp only [List.length_drop]; try omega)).mono ?_
              rintro e' w' ⟨rfl, rfl⟩
              unfold retI
              generalize decI (bs.drop n) = r at *
              go_wp2
              go_ret3
              exact gives_l HD.out rfl (Own.nil _ _ _) hx
        · have HD := Lib.hid (readL_done HM.out hlt)
          go_wp2
          go_ret3
          exact gives_l HD.out rfl ho hx
  · have HN : decN bs m = (0, 0, (decU bs).2.2) := by unfold decN; rw [if_pos he]
    have HF : Hid (decL bs m = ([], 0, (decU bs).2.2)) := by unfold Hid decL; rw [HN]; exact if_pos he
    have hb : ((decU bs).2.2 != 0) = true := by simpa using he
    clear he HN
    go_enter Try.func81, Try.ntmps81
    go_wp2_with fail
    refine (readUint_any A c bs w H.out hl).mono ?_
    rintro e w' ⟨rfl, rfl⟩
    unfold retU
    go_wp2
    go_ret3
    exact gives_l HF.out rfl (Own.nil _ _ _) (Ext.refl _)
end Go.Proofs.Ytagmocofmedmjaa
