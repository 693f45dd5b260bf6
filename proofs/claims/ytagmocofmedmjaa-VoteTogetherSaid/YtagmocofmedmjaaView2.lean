/- Contracts of package view: cuts. -/
import Derived.Test.YtagmocofmedmjaaView1
import Derived.Test.YtagmocofmedmjaaOwn
namespace Go.Proofs.Ytagmocofmedmjaa
open Go.RowKit

theorem contains_yes (A : Option Addr) (c : Nat) (xs : List Int) (id : Int) (w : World) (h : Row w A (ints xs)) (hn : xs.length ≤ 9223372036854775807) (hv : hasB xs id = true) :
    Calls Try.prog 20 #[.slice A xs.length c, .int .i64 id] w fun e w' => e = .returned (.bool true) ∧ w = w' := by
  rw [← hv]; exact contains_any A c xs id w h hn
theorem contains_no (A : Option Addr) (c : Nat) (xs : List Int) (id : Int) (w : World) (h : Row w A (ints xs)) (hn : xs.length ≤ 9223372036854775807) (hv : hasB xs id = false) :
    Calls Try.prog 20 #[.slice A xs.length c, .int .i64 id] w fun e w' => e = .returned (.bool false) ∧ w = w' := by
  rw [← hv]; exact contains_any A c xs id w h hn

theorem split_yes (num : Int) (A Ac Al Ao : Option Addr) (c cc cl co : Nat) (xs cut l other : List Int) (w : World) (hx : Row w A (ints xs)) (hc : Row w Ac (ints cut)) (hl : Row w Al (ints l)) (ho : Row w Ao (ints other))
    (hn : xs.length ≤ 9223372036854775807) (hnc : cut.length ≤ 9223372036854775807) (hnl : l.length ≤ 1000) (hno : other.length ≤ 9223372036854775807) (hv : validB num xs = true) (hcv : idsB cut 32 = true) :
    Calls Try.prog 76 #[.agg #[.int .i64 num, .slice A xs.length c], .slice Ac cut.length cc, .slice Al l.length cl, .slice Ao other.length co] w (GivesI2 w (among l other true) (among l other false)) := by
  have HX := Lib.hid hx; have HC := Lib.hid hc; have HL := Lib.hid hl; have HO := Lib.hid ho; have HV := Lib.hid hv; have HCV := Lib.hid hcv
  clear hx hc hl ho hv hcv
  have H0 := Lib.hid (Ext.new w (.cells #[.int .i64 num, .slice A xs.length c] 36))
  go_enter Try.func76, Try.ntmps76
  go_wp2_with (first
    | (go_at_call 50; refine (valid_yes _ _ _ _ _ (HX.out.ext H0.out) hn HV.out).mono ?_; rintro e w1 ⟨rfl, hx1⟩; have H1 := Lib.hid (Ext.trans H0.out hx1))
    | (go_at_call 18; refine (validCut_yes _ _ _ _ (HC.out.ext H1.out) hnc HCV.out).mono ?_; rintro e w2 ⟨rfl, rfl⟩))
  go_loopw [8, 9, 11, 22] (fun v u _ i wr => ∃ k : Nat, k ≤ l.length ∧ i = .int .i64 k ∧ Own wr w.heap.size 3 v (ints (filt (fun x => hasB other x == true) l k)) ∧ Own wr w.heap.size 3 u (ints (filt (fun x => hasB other x == false) l k)) ∧ Apart v u ∧ Ext w wr) (fun _ _ _ i _ => l.length - (intOf i).toNat)
  case atStart => exact ⟨0, Nat.zero_le _, rfl, Own.nil _ _ _, Own.nil _ _ _, Apart.nil _, H1.out⟩
  case round =>
    obtain ⟨k, hk, rfl, hv, hu, hap, hxr⟩ := hrel
    by_cases hlt : k < l.length
    · obtain ⟨bk, off, x, rfl, hc, HXx⟩ := (HL.out.ext hxr).at_ hlt
      have HO1 := Lib.hid (HO.out.ext hxr)
      have hf1 := filt_len (fun x => hasB other x == true) l k
      have hf2 := filt_len (fun x => hasB other x == false) l k
      by_cases hp : hasB other x = true
      · have HP := Lib.hid hp; clear hp
        go_wp2_with (first
          | (go_at_call 20; refine (contains_yes _ _ _ _ _ HO1.out hno HP.out).mono ?_; rintro e w' ⟨rfl, rfl⟩)
          | (at_builtin; refine push_int rfl (.tmp 29) (.tmp 31) rfl wr w.heap.size _ (filt (fun x => hasB other x == true) l k) (by rfl) x (by rfl) hv (by omega) hxr.size ?_; intro v1 w1 ho1 hg1 hs1))
        go_roundw
        case rel => exact ⟨k + 1, by omega, by go_num, by rw [filt_in HXx.out (by simp [HP.out])]; exact ho1, by rw [filt_out HXx.out (by simp [HP.out])]; exact hu.kept hg1 hap.symm, hap.stems hs1 hu, hg1.below hxr hxr.size (fun q hq => (hv.lt q hq).1)⟩
        case measure => simp [intOf]; omega
      · have hp' : hasB other x = false := by simpa using hp
        have HP := Lib.hid hp'; clear hp hp'
        go_wp2_with (first
          | (go_at_call 20; refine (contains_no _ _ _ _ _ HO1.out hno HP.out).mono ?_; rintro e w' ⟨rfl, rfl⟩)
          | (at_builtin; refine push_int rfl (.tmp 33) (.tmp 35) rfl wr w.heap.size _ (filt (fun x => hasB other x == false) l k) (by rfl) x (by rfl) hu (by omega) hxr.size ?_; intro v1 w1 ho1 hg1 hs1))
        go_roundw
        case rel => exact ⟨k + 1, by omega, by go_num, by rw [filt_out HXx.out (by simp [HP.out])]; exact hv.kept hg1 hap, by rw [filt_in HXx.out (by simp [HP.out])]; exact ho1, (hap.symm.stems hs1 hv).symm, hg1.below hxr hxr.size (fun q hq => (hu.lt q hq).1)⟩
        case measure => simp [intOf]; omega
    · go_wp2
      go_ret2
      exact gives_own2 (by rw [filt_all hlt] at hv; exact hv) (by rw [filt_all hlt] at hu; exact hu) hxr
end Go.Proofs.Ytagmocofmedmjaa
