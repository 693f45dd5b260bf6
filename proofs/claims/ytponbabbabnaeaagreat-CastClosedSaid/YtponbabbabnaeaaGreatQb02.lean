/- Part 2 of the proof: contracts of functions that the statement reaches. Conditions: as each theorem says. -/
import Derived.Laws.CopyOwn
import Derived.Deep.RegionHeld3
import Derived.Test.YtponbabbabnaeaaGreatQb01
namespace Go.Proofs.YtponbabbabnaeaaGreat
open Go.RowKit
def zrow (n : Nat) : Array Value := madeCells #[.int .u8 0] n
theorem zrow_size (n : Nat) : (zrow n).size = n := size_madeCells _ _
theorem make_bytes (l n : Nat) (hn : n ≤ 1000000000) (W : World) :
  (Instr.makeSlice 29 (.int .i64 (l : Int)) (.int .i64 ((l : Int) + (n : Int)))).run Tryz.prog W = .ok (.slice (some ⟨W.heap.size, 0, none⟩) l (l + n)) (W.alloc (.cells (zrow (l + n)) 5)) ∨ 1000000000 < l := by
 rcases Nat.lt_or_ge 1000000000 l with h | h
 ·exact .inr h
 ·left
  obtain ⟨i0, hi, hz0, hz1, hz2⟩ := info_parts info_u8
  have hr := run_make (P := Tryz.prog) W 29 5 i0 (.int .u8 0) Tryz.underlying29 hi hz0 .i64 .i64 (l : Int) ((l : Int) + (n : Int)) (by omega) (by omega) (by rw [hz2]; omega) (by omega)
  rw [hz1] at hr
  have e1 : ((l : Int) + (n : Int)).toNat = l + n := by omega
  have e2 : ((l : Int)).toNat = l := by omega
  rw [e1, e2, Nat.mul_one] at hr
  exact hr
set_option maxRecDepth 100000 in
theorem extend_any (A : Option Addr) (c : Nat) (bs : List UInt8) (n : Nat) (w : World) (h : Row w A (bytesV bs)) (hl : bs.length ≤ 1000000000) (hn : n ≤ 1000000000) :
  Calls Tryz.prog 122 #[.slice A bs.length c, .int .i64 (n : Int)] w (GivesB w bs) := by
 have H := hJ h; clear h
 have hmk : ∀ W : World, (Instr.makeSlice 29 (.int .i64 (bs.length : Int)) (.int .i64 ((bs.length : Int) + (n : Int)))).run Tryz.prog W = .ok (.slice (some ⟨W.heap.size, 0, none⟩) bs.length (bs.length + n)) (W.alloc (.cells (zrow (bs.length + n)) 5)) := fun W => (make_bytes bs.length n hn W).resolve_right (by omega)
 go_enter Tryz.func122, Tryz.ntmps122
 go_wp2_with (with_reducible refine wpList_copy_splice rfl (.tmp 13) (.tmp 14) 29 29 rfl 5 Tryz.underlying29 (by kernel_rfl) (some ⟨w.heap.size, 0, none⟩) A bs.length (bs.length + n) bs.length c rfl rfl w.heap.size 0 (zrow (bs.length + n)).toList 5 (heap_alloc_new w _) (bytesV bs) ?h1 ?h2 ?h3 (bytesV_one bs) w.heap.size w (Ext.new w _) (Nat.le_refl _) ?_; rotate_right; intro w1 hg1 hb1)
 case h1 => rw [bytesV_len]; exact (Nat.min_self _).symm
 case h2 =>
  intro hp
  try refine ⟨rfl, ?_⟩
  obtain ⟨b, off, rfl, hb, h3⟩ := H.out.addr hp
  refine ⟨_, rfl, fun j v hj => ?_⟩
  have := h3 j v hj
  rw [World.cell?_alloc_lt _ _ _ (by simpa [Addr.add] using (by split <;> exact hb : (if j = 0 then (⟨b, off, none⟩ : Addr) else ⟨b, off + j, none⟩).block < w.heap.size))]
  unfold Addr.add
  split
  ·next h0 => subst h0; simpa using this
  ·exact this
 case h3 => rw [bytesV_len]; simp [zrow_size]
 go_wp2; go_ret
 show GivesB w bs (.returned (.slice (some ⟨w.heap.size, 0, none⟩) bs.length (bs.length + n))) w1
 refine gives_b ?_ hb1
 refine ⟨by simp, .inr ⟨w.heap.size, bs.length + n, _, by rw [bytesV_len], Nat.le_refl _, hg1.out, by rw [bytesV_len]; omega, by unfold maxLen; omega, ?_, ?_⟩⟩
 ·rw [List.size_toArray, length_splice _ _ _ (by rw [bytesV_len]; simp [zrow_size])]; simp [zrow_size]
 ·rw [Nat.mul_one]; simp [splice]
set_option maxRecDepth 100000 in
theorem putInt_any (B : Nat) (v : Value) (xs : List UInt8) (n : Int) (w : World) (ho : Own w B 5 v (bytesV xs)) (hB : B ≤ w.heap.size) (hl : xs.length ≤ 1000000000) (hn : Hid (I64 n)) :
  Calls Tryz.prog 121 #[v, .int .i64 n] w (Grows w B v (xs ++ encU (zig n))) := by
 have HO := hJ ho; clear ho
 go_enter Tryz.func121, Tryz.ntmps121
 go_wp2_with fail
 rw [zig_bits hn.out]
 refine (putUint_any B v xs (zig n) w HO.out hB hl (zig_lt hn.out)).mono ?_
 rintro e w1 ⟨v1, rfl, ho1, hg1, hs1⟩
 go_wp2; go_ret
 exact ⟨v1, rfl, ho1, hg1, hs1⟩
theorem appendUint_any (A : Option Addr) (c : Nat) (bs : List UInt8) (n : Nat) (w : World) (h : Row w A (bytesV bs)) (hl : bs.length ≤ 1000000) (hn : Hid (n < U64)) :
  Calls Tryz.prog 123 #[.slice A bs.length c, .int .u64 (n : Int)] w (GivesB w (bs ++ encU n)) := by
 have H := hJ h; clear h
 go_enter Tryz.func123, Tryz.ntmps123
 go_wp2_with fail
 refine (extend_any A c bs 10 w H.out (by omega) (by omega)).mono ?_
 rintro e w1 ⟨A1, c1, rfl, hc1, hm1, ho1, hx1⟩
 go_wp2_with fail
 refine (putUint_any w.heap.size _ bs n w1 ho1 hx1.size (by omega) hn).mono ?_
 rintro e w2 ⟨v2, rfl, ho2, hg2, hs2⟩
 go_wp2; go_ret
 exact gives_b ho2 (hg2.below hx1 hx1.size (fun k hk => (ho1.lt k hk).1))
end Go.Proofs.YtponbabbabnaeaaGreat
namespace Go.Proofs.YtponbabbabnaeaaGreat
open Go.RowKit
end Go.Proofs.YtponbabbabnaeaaGreat
namespace Go.Proofs.YtponbabbabnaeaaGreat
open Go.RowKit
end Go.Proofs.YtponbabbabnaeaaGreat
namespace Go.Proofs.YtponbabbabnaeaaGreat
open Go.RowKit
theorem place_any (A : Option Addr) (c : Nat) (xs : List Int) (id : Int) (w : World) (h : Row w A (ints xs)) (hn : xs.length ≤ 9223372036854775807) :
  Calls Tryz.prog 156 #[.slice A xs.length c, .int .i64 id] w fun e w' => e = .returned (.int .i64 (place xs id)) ∧ w = w' := by
 have H := hJ h; clear h
 go_enter Tryz.func156, Tryz.ntmps156
 go_wp2; go_loop [5, 6, 9] (fun _ _ i => ∃ k : Nat, k ≤ xs.length ∧ i = .int .i64 k ∧ Hid (find id (xs.drop k) k = place xs id)) (fun _ _ i => xs.length - (intOf i).toNat)
 case atStart => exact ⟨0, Nat.zero_le _, rfl, rfl⟩
 case round =>
  obtain ⟨k, hk, rfl, HR⟩ := hrel
  by_cases hlt : k < xs.length
  ·obtain ⟨b, off, x, rfl, hc, HX⟩ := H.out.at_ hlt
   by_cases he : x = id
   ·have hb : (x == id) = true := by simp [he]
    have HE := hJ he; clear he
    go_wp2; go_ret
    exact ⟨ret_int (by rw [← HR.out, find_hit HX.out HE.out]), rfl⟩
   ·have hb : (x == id) = false := by simp [he]
    have HE := hJ he; clear he
    go_wp2; go_round
    case rel => exact ⟨k + 1, by omega, by go_num, by rw [← find_miss HX.out HE.out]; exact HR.out⟩
    case measure => simp [intOf]; omega
  ·go_wp2
   go_ret
   exact ⟨ret_int (by rw [← HR.out, find_end hlt]), rfl⟩
theorem identifiers_any (A : Option Addr) (c : Nat) (xs : List Int) (most : Int) (w : World) (h : Row w A (ints xs)) (hn : xs.length ≤ 9223372036854775807) :
  Calls Tryz.prog 192 #[.slice A xs.length c, .int .i64 most] w fun e w' => e = .returned (.bool (idsB xs most)) ∧ w = w' := by
 have H := hJ h; clear h
 by_cases h1 : (xs.length : Int) < 1
 ·have HE : Hid (idsB xs most = false) := by unfold Hid idsB; rw [if_pos (.inl h1)]
  have hd : decide ((xs.length : Int) < 1) = true := by simpa using h1
  go_enter Tryz.func192, Tryz.ntmps192
  go_wp2; go_ret
  exact ⟨ret_bool HE.out.symm, rfl⟩
 ·have h1' : (1 : Int) ≤ xs.length := by omega
  by_cases h2 : most < (xs.length : Int)
  ·have HE : Hid (idsB xs most = false) := by unfold Hid idsB; rw [if_pos (.inr h2)]
   go_enter Tryz.func192, Tryz.ntmps192
   go_wp2; go_ret
   exact ⟨ret_bool HE.out.symm, rfl⟩
  ·have HE : Hid (idsB xs most = rises 0 xs) := by unfold Hid idsB; rw [if_neg (by omega)]
   have h2' : (xs.length : Int) ≤ most := by omega
   clear h1 h2; go_enter Tryz.func192, Tryz.ntmps192
   go_wp2; go_loop [5, 7, 19] (fun l _ i => ∃ (k : Nat) (last : Int), k ≤ xs.length ∧ l = .int .i64 last ∧ i = .int .i64 k ∧ Hid (rises last (xs.drop k) = rises 0 xs)) (fun _ _ i => xs.length - (intOf i).toNat)
   case atStart => exact ⟨0, 0, Nat.zero_le _, rfl, rfl, rfl⟩
   case round =>
    obtain ⟨k, last, hk, rfl, rfl, HR⟩ := hrel
    by_cases hlt : k < xs.length
    ·obtain ⟨b, off, x, rfl, hc, HX⟩ := H.out.at_ hlt
     by_cases ha : x ≤ last
     ·go_wp2
      go_ret
      exact ⟨ret_bool (by rw [HE.out, ← HR.out, rises_lo HX.out ha]), rfl⟩
     ·by_cases hb : 1000 < x
      ·go_wp2
       go_ret
       exact ⟨ret_bool (by rw [HE.out, ← HR.out, rises_hi HX.out hb]), rfl⟩
      ·have ha' : last < x := by omega
       have hb' : x ≤ 1000 := by omega
       clear ha hb; go_wp2; go_round
       case rel => exact ⟨k + 1, x, by omega, rfl, by go_num, by rw [← rises_on HX.out ha' hb']; exact HR.out⟩
       case measure => simp [intOf]; omega
    ·go_wp2
     go_ret
     exact ⟨ret_bool (by rw [HE.out, ← HR.out, rises_end hlt]), rfl⟩
theorem validMembers_any (A : Option Addr) (c : Nat) (xs : List Int) (w : World) (h : Row w A (ints xs)) (hn : xs.length ≤ 9223372036854775807) :
  Calls Tryz.prog 155 #[.slice A xs.length c] w fun e w' => e = .returned (.bool (idsB xs 16)) ∧ w = w' := by
 go_enter Tryz.func155, Tryz.ntmps155
 go_wp2_with (go_at_call 192; refine (identifiers_any _ _ _ _ _ h hn).mono ?_; rintro e w' ⟨rfl, rfl⟩)
 go_ret
 exact ⟨rfl, rfl⟩
theorem validCut_any (A : Option Addr) (c : Nat) (xs : List Int) (w : World) (h : Row w A (ints xs)) (hn : xs.length ≤ 9223372036854775807) :
  Calls Tryz.prog 205 #[.slice A xs.length c] w fun e w' => e = .returned (.bool (idsB xs 32)) ∧ w = w' := by
 go_enter Tryz.func205, Tryz.ntmps205
 go_wp2_with (go_at_call 192; refine (identifiers_any _ _ _ _ _ h hn).mono ?_; rintro e w' ⟨rfl, rfl⟩)
 go_ret
 exact ⟨rfl, rfl⟩
theorem contains_any (A : Option Addr) (c : Nat) (xs : List Int) (id : Int) (w : World) (h : Row w A (ints xs)) (hn : xs.length ≤ 9223372036854775807) :
  Calls Tryz.prog 85 #[.slice A xs.length c, .int .i64 id] w fun e w' => e = .returned (.bool (hasB xs id)) ∧ w = w' := by
 go_enter Tryz.func85, Tryz.ntmps85
 go_wp2_with (go_at_call 156; refine (place_any _ _ _ _ _ h hn).mono ?_; rintro e w' ⟨rfl, rfl⟩)
 go_ret
 exact ⟨rfl, rfl⟩
theorem majority_any (n : Int) (w : World) :
  Calls Tryz.prog 169 #[.int .i64 n] w fun e w' => e = .returned (.int .i64 (majZ n)) ∧ w = w' := by
 by_cases h1 : 1 ≤ n
 ·by_cases h2 : n ≤ 16
  ·have HE : Hid (majZ n = n / 2 + 1) := if_pos ⟨h1, h2⟩
   go_enter Tryz.func169, Tryz.ntmps169
   go_wp2; go_ret
   exact ⟨ret_int HE.out.symm, rfl⟩
  ·have HE : Hid (majZ n = 0) := if_neg (by omega)
   go_enter Tryz.func169, Tryz.ntmps169
   go_wp2; go_ret
   exact ⟨ret_int HE.out.symm, rfl⟩
 ·have HE : Hid (majZ n = 0) := if_neg (by omega)
  have hd : decide (1 ≤ n) = false := by simpa using h1
  go_enter Tryz.func169, Tryz.ntmps169
  go_wp2; go_ret
  exact ⟨ret_int HE.out.symm, rfl⟩
theorem valid_any (num : Int) (A : Option Addr) (c : Nat) (xs : List Int) (w : World) (h : Row w A (ints xs)) (hn : xs.length ≤ 9223372036854775807) :
  Calls Tryz.prog 84 #[.agg #[.int .i64 num, .slice A xs.length c]] w fun e w' => e = .returned (.bool (validB num xs)) ∧ Ext w w' := by
 by_cases h1 : 0 ≤ num
 ·by_cases h2 : num ≤ 1099511627776
  ·have HE := hJ (validB_mid (xs := xs) h1 h2)
   have H := hJ h; clear h
   go_enter Tryz.func84, Tryz.ntmps84
   go_wp2_with (go_at_call 155; refine (validMembers_any _ _ _ _ (H.out.ext ((Below.refl _ _).alloc (Nat.le_refl _) _)) hn).mono ?_; rintro e w' ⟨rfl, hs⟩)
   go_ret
   exact ⟨ret_bool HE.out.symm, Ext.trans ((Below.refl _ _).alloc (Nat.le_refl _) _) (by rw [hs]; exact Below.refl _ _)⟩
  ·have HE := hJ (validB_big (n := num) (xs := xs) (by omega))
   go_enter Tryz.func84, Tryz.ntmps84
   go_wp2; go_ret
   exact ⟨ret_bool HE.out.symm, (Below.refl _ _).alloc (Nat.le_refl _) _⟩
 ·have HE := hJ (validB_neg (n := num) (xs := xs) (by omega))
  go_enter Tryz.func84, Tryz.ntmps84
  go_wp2; go_ret
  exact ⟨ret_bool HE.out.symm, (Below.refl _ _).alloc (Nat.le_refl _) _⟩
theorem validCut_yes (A : Option Addr) (c : Nat) (xs : List Int) (w : World) (h : Row w A (ints xs)) (hn : xs.length ≤ 9223372036854775807) (hv : idsB xs 32 = true) :
  Calls Tryz.prog 205 #[.slice A xs.length c] w fun e w' => e = .returned (.bool true) ∧ w = w' := by
 rw [← hv]; exact validCut_any A c xs w h hn
theorem validCut_no (A : Option Addr) (c : Nat) (xs : List Int) (w : World) (h : Row w A (ints xs)) (hn : xs.length ≤ 9223372036854775807) (hv : idsB xs 32 = false) :
  Calls Tryz.prog 205 #[.slice A xs.length c] w fun e w' => e = .returned (.bool false) ∧ w = w' := by
 rw [← hv]; exact validCut_any A c xs w h hn
theorem valid_yes (num : Int) (A : Option Addr) (c : Nat) (xs : List Int) (w : World) (h : Row w A (ints xs)) (hn : xs.length ≤ 9223372036854775807) (hv : validB num xs = true) :
  Calls Tryz.prog 84 #[.agg #[.int .i64 num, .slice A xs.length c]] w fun e w' => e = .returned (.bool true) ∧ Ext w w' := by
 rw [← hv]; exact valid_any num A c xs w h hn
theorem valid_no (num : Int) (A : Option Addr) (c : Nat) (xs : List Int) (w : World) (h : Row w A (ints xs)) (hn : xs.length ≤ 9223372036854775807) (hv : validB num xs = false) :
  Calls Tryz.prog 84 #[.agg #[.int .i64 num, .slice A xs.length c]] w fun e w' => e = .returned (.bool false) ∧ Ext w w' := by
 rw [← hv]; exact valid_any num A c xs w h hn
end Go.Proofs.YtponbabbabnaeaaGreat
namespace Go.Proofs.YtponbabbabnaeaaGreat
open Go.RowKit
theorem contains_yes (A : Option Addr) (c : Nat) (xs : List Int) (id : Int) (w : World) (h : Row w A (ints xs)) (hn : xs.length ≤ 9223372036854775807) (hv : hasB xs id = true) :
  Calls Tryz.prog 85 #[.slice A xs.length c, .int .i64 id] w fun e w' => e = .returned (.bool true) ∧ w = w' := by
 rw [← hv]; exact contains_any A c xs id w h hn
theorem contains_no (A : Option Addr) (c : Nat) (xs : List Int) (id : Int) (w : World) (h : Row w A (ints xs)) (hn : xs.length ≤ 9223372036854775807) (hv : hasB xs id = false) :
  Calls Tryz.prog 85 #[.slice A xs.length c, .int .i64 id] w fun e w' => e = .returned (.bool false) ∧ w = w' := by
 rw [← hv]; exact contains_any A c xs id w h hn
theorem split_yes (num : Int) (A Ac Al Ao : Option Addr) (c cc cl co : Nat) (xs cut l other : List Int) (w : World) (hx : Row w A (ints xs)) (hc : Row w Ac (ints cut)) (hl : Row w Al (ints l)) (ho : Row w Ao (ints other))
  (hn : xs.length ≤ 9223372036854775807) (hnc : cut.length ≤ 9223372036854775807) (hnl : l.length ≤ 1000) (hno : other.length ≤ 9223372036854775807) (hv : validB num xs = true) (hcv : idsB cut 32 = true) :
  Calls Tryz.prog 209 #[.agg #[.int .i64 num, .slice A xs.length c], .slice Ac cut.length cc, .slice Al l.length cl, .slice Ao other.length co] w (GivesI2 w (among l other true) (among l other false)) := by
 have HX := hJ hx; have HC := hJ hc; have HL := hJ hl; have HO := hJ ho; have HV := hJ hv; have HCV := hJ hcv
 clear hx hc hl ho hv hcv; have H0 := hJ (Ext.new w (.cells #[.int .i64 num, .slice A xs.length c] 46))
 go_enter Tryz.func209, Tryz.ntmps209
 go_wp2_with (first
  | (go_at_call 84; refine (valid_yes _ _ _ _ _ (HX.out.ext H0.out) hn HV.out).mono ?_; rintro e w1 ⟨rfl, hx1⟩; have H1 := hJ (Ext.trans H0.out hx1))
  | (go_at_call 205; refine (validCut_yes _ _ _ _ (HC.out.ext H1.out) hnc HCV.out).mono ?_; rintro e w2 ⟨rfl, rfl⟩))
 go_loopw [8, 9, 11, 22] (fun v u _ i wr => ∃ k : Nat, k ≤ l.length ∧ i = .int .i64 k ∧ Own wr w.heap.size 3 v (ints (filt (fun x => hasB other x == true) l k)) ∧ Own wr w.heap.size 3 u (ints (filt (fun x => hasB other x == false) l k)) ∧ Apart v u ∧ Ext w wr) (fun _ _ _ i _ => l.length - (intOf i).toNat)
 case atStart => exact ⟨0, Nat.zero_le _, rfl, Own.nil _ _ _, Own.nil _ _ _, Apart.nil _, H1.out⟩
 case round =>
  obtain ⟨k, hk, rfl, hv, hu, hap, hxr⟩ := hrel
  by_cases hlt : k < l.length
  ·obtain ⟨bk, off, x, rfl, hc, HXx⟩ := (HL.out.ext hxr).at_ hlt
   have HO1 := hJ (HO.out.ext hxr)
   have hf1 := filt_len (fun x => hasB other x == true) l k
   have hf2 := filt_len (fun x => hasB other x == false) l k
   by_cases hp : hasB other x = true
   ·have HP := hJ hp; clear hp
    go_wp2_with (first
     | (go_at_call 85; refine (contains_yes _ _ _ _ _ HO1.out hno HP.out).mono ?_; rintro e w' ⟨rfl, rfl⟩)
     | (at_builtin; refine push_int rfl (.tmp 29) (.tmp 31) rfl wr w.heap.size _ (filt (fun x => hasB other x == true) l k) (by rfl) x (by rfl) hv (by omega) hxr.size ?_; intro v1 w1 ho1 hg1 hs1))
    go_roundw
    case rel => exact ⟨k + 1, by omega, by go_num, by rw [filt_in HXx.out (by simp [HP.out])]; exact ho1, by rw [filt_out HXx.out (by simp [HP.out])]; exact hu.kept hg1 hap.symm, hap.stems hs1 hu, hg1.below hxr hxr.size (fun q hq => (hv.lt q hq).1)⟩
    case measure => simp [intOf]; omega
   ·have hp' : hasB other x = false := by simpa using hp
    have HP := hJ hp'; clear hp hp'
    go_wp2_with (first
     | (go_at_call 85; refine (contains_no _ _ _ _ _ HO1.out hno HP.out).mono ?_; rintro e w' ⟨rfl, rfl⟩)
     | (at_builtin; refine push_int rfl (.tmp 33) (.tmp 35) rfl wr w.heap.size _ (filt (fun x => hasB other x == false) l k) (by rfl) x (by rfl) hu (by omega) hxr.size ?_; intro v1 w1 ho1 hg1 hs1))
    go_roundw
    case rel => exact ⟨k + 1, by omega, by go_num, by rw [filt_out HXx.out (by simp [HP.out])]; exact hv.kept hg1 hap, by rw [filt_in HXx.out (by simp [HP.out])]; exact ho1, (hap.symm.stems hs1 hv).symm, hg1.below hxr hxr.size (fun q hq => (hu.lt q hq).1)⟩
    case measure => simp [intOf]; omega
  ·go_wp2
   go_ret2
   exact gives_own2 (by rw [filt_all hlt] at hv; exact hv) (by rw [filt_all hlt] at hu; exact hu) hxr
end Go.Proofs.YtponbabbabnaeaaGreat
namespace Go.Proofs.YtponbabbabnaeaaGreat
open Go.RowKit
theorem split_no (num : Int) (A Ac Al Ao : Option Addr) (c cc nl cl no co : Nat) (xs cut : List Int) (w : World) (hx : Row w A (ints xs)) (hc : Row w Ac (ints cut))
  (hn : xs.length ≤ 9223372036854775807) (hnc : cut.length ≤ 9223372036854775807) (hv : okCut num xs cut = false) :
  Calls Tryz.prog 209 #[.agg #[.int .i64 num, .slice A xs.length c], .slice Ac cut.length cc, .slice Al nl cl, .slice Ao no co] w (GivesI2 w [] []) := by
 have HX := hJ hx; have HC := hJ hc
 clear hx hc; have H0 := hJ (Ext.new w (.cells #[.int .i64 num, .slice A xs.length c] 46))
 rcases okCut_not hv with hv | ⟨hv, hcv⟩
 ·have HV := hJ hv; clear hv
  go_enter Tryz.func209, Tryz.ntmps209
  go_wp2_with (first
   | (go_at_call 84; refine (valid_no _ _ _ _ _ (HX.out.ext H0.out) hn HV.out).mono ?_; rintro e w1 ⟨rfl, hx1⟩; have H1 := hJ (Ext.trans H0.out hx1)))
  go_ret2
  exact gives_own2 (Own.nil _ _ _) (Own.nil _ _ _) H1.out
 ·have HV := hJ hv; have HCV := hJ hcv; clear hv hcv
  go_enter Tryz.func209, Tryz.ntmps209
  go_wp2_with (first
   | (go_at_call 84; refine (valid_yes _ _ _ _ _ (HX.out.ext H0.out) hn HV.out).mono ?_; rintro e w1 ⟨rfl, hx1⟩; have H1 := hJ (Ext.trans H0.out hx1))
   | (go_at_call 205; refine (validCut_no _ _ _ _ (HC.out.ext H1.out) hnc HCV.out).mono ?_; rintro e w2 ⟨rfl, rfl⟩))
  go_ret2
  exact gives_own2 (Own.nil _ _ _) (Own.nil _ _ _) H1.out
theorem GivesI.from {a w w' : World} {out : List Int} {en : Ending} (e : Ext a w) (h : GivesI w out en w') : GivesI a out en w' := by
 obtain ⟨A, c, h1, h2, h3, h4, h5⟩ := h
 refine ⟨A, c, h1, h2, h3, ?_, e.trans h5⟩
 obtain ⟨g1, g2⟩ := h4
 refine ⟨g1, ?_⟩
 rcases g2 with g2 | ⟨k, cap, cur, g3, g4, r⟩
 ·exact .inl g2
 ·exact .inr ⟨k, cap, cur, g3, Nat.le_trans e.size g4, r⟩
theorem joiners_any (num : Int) (A Ac : Option Addr) (c cc : Nat) (xs cut : List Int) (w : World) (hx : Row w A (ints xs)) (hc : Row w Ac (ints cut))
  (hn : xs.length ≤ 9223372036854775807) (hnc : cut.length ≤ 9223372036854775807) :
  Calls Tryz.prog 207 #[.agg #[.int .i64 num, .slice A xs.length c], .slice Ac cut.length cc] w (GivesI w (joiners num xs cut)) := by
 have H0 := hJ (Ext.new w (.cells #[.int .i64 num, .slice A xs.length c] 46))
 have HX := hJ (hx.ext H0.out); have HC := hJ (hc.ext H0.out)
 clear hx hc; by_cases hv : okCut num xs cut = true
 ·have HE : Hid (joiners num xs cut = among cut xs false) := if_pos hv
  have hb : cut.length ≤ 1000 := by have := (idsB_len (m := 32) (okCut_iff.1 hv).2).2; omega
  have HV := hJ (okCut_iff.1 hv)
  clear hv; go_enter Tryz.func207, Tryz.ntmps207
  go_wp2_with (first
   | (go_at_call 209; refine (split_yes _ _ _ _ _ _ _ _ _ _ _ _ _ _ HX.out HC.out HC.out HX.out hn hnc hb hn HV.out.1 HV.out.2).mono ?_; rintro e w1 ⟨A1, c1, A2, c2, rfl, ho1, ho2, hx1⟩))
  go_ret
  exact (gives_own (by rw [HE.out]; exact ho2) hx1).from H0.out
 ·have hv' : okCut num xs cut = false := by simpa using hv
  have HE : Hid (joiners num xs cut = []) := if_neg hv
  have HV := hJ hv'
  clear hv hv'; go_enter Tryz.func207, Tryz.ntmps207
  go_wp2_with (first
   | (go_at_call 209; refine (split_no _ _ _ _ _ _ _ _ _ _ _ _ _ _ HX.out HC.out hn hnc HV.out).mono ?_; rintro e w1 ⟨A1, c1, A2, c2, rfl, ho1, ho2, hx1⟩))
  go_ret
  exact (gives_own (by rw [HE.out]; exact ho2) hx1).from H0.out
theorem survivors_any (num : Int) (A Ac : Option Addr) (c cc : Nat) (xs cut : List Int) (w : World) (hx : Row w A (ints xs)) (hc : Row w Ac (ints cut))
  (hn : xs.length ≤ 9223372036854775807) (hnc : cut.length ≤ 9223372036854775807) :
  Calls Tryz.prog 206 #[.agg #[.int .i64 num, .slice A xs.length c], .slice Ac cut.length cc] w (GivesI w (survivors num xs cut)) := by
 have H0 := hJ (Ext.new w (.cells #[.int .i64 num, .slice A xs.length c] 46))
 have HX := hJ (hx.ext H0.out); have HC := hJ (hc.ext H0.out)
 clear hx hc; by_cases hv : okCut num xs cut = true
 ·have HE : Hid (survivors num xs cut = among xs cut false) := if_pos hv
  have hb : xs.length ≤ 1000 := by have := (validB_len (okCut_iff.1 hv).1).2; omega
  have HV := hJ (okCut_iff.1 hv)
  clear hv; go_enter Tryz.func206, Tryz.ntmps206
  go_wp2_with (first
   | (go_at_call 209; refine (split_yes _ _ _ _ _ _ _ _ _ _ _ _ _ _ HX.out HC.out HX.out HC.out hn hnc hb hnc HV.out.1 HV.out.2).mono ?_; rintro e w1 ⟨A1, c1, A2, c2, rfl, ho1, ho2, hx1⟩))
  go_ret
  exact (gives_own (by rw [HE.out]; exact ho2) hx1).from H0.out
 ·have hv' : okCut num xs cut = false := by simpa using hv
  have HE : Hid (survivors num xs cut = []) := if_neg hv
  have HV := hJ hv'
  clear hv hv'; go_enter Tryz.func206, Tryz.ntmps206
  go_wp2_with (first
   | (go_at_call 209; refine (split_no _ _ _ _ _ _ _ _ _ _ _ _ _ _ HX.out HC.out hn hnc HV.out).mono ?_; rintro e w1 ⟨A1, c1, A2, c2, rfl, ho1, ho2, hx1⟩))
  go_ret
  exact (gives_own (by rw [HE.out]; exact ho2) hx1).from H0.out
end Go.Proofs.YtponbabbabnaeaaGreat
namespace Go.Proofs.YtponbabbabnaeaaGreat
open Go.RowKit
def nextBox (w : World) (num : Int) (s : Value) : World := (w.alloc (.cells #[.int .i64 num, s] 46)).alloc (.cells #[.int .i64 0, .slice none 0 0] 46)
theorem nextBox_cells {w w1 : World} {num : Int} {s : Value} (h : Ext (nextBox w num s) w1) :
  w1.cell? ⟨w.heap.size, 0, none⟩ = some (.int .i64 num) ∧ w1.cell? ⟨w.heap.size, 1, none⟩ = some s ∧
  w1.cell? ⟨w.heap.size + 1, 0, none⟩ = some (.int .i64 0) ∧ w1.cell? ⟨w.heap.size + 1, 1, none⟩ = some (.slice none 0 0) ∧
  w1.frozen? ⟨w.heap.size + 1, 0, none⟩ = false ∧ w1.frozen? ⟨w.heap.size + 1, 1, none⟩ = false ∧ w.heap.size + 2 ≤ w1.heap.size := by
 have hs := h.size
 simp only [nextBox, World.size_alloc] at hs
 refine ⟨?_, ?_, ?_, ?_, ?_, ?_, by omega⟩
 ·rw [h.cell (p := ⟨w.heap.size, 0, none⟩) (by simp [nextBox]; omega)]; simp [nextBox]
 ·rw [h.cell (p := ⟨w.heap.size, 1, none⟩) (by simp [nextBox]; omega)]; simp [nextBox]
 ·rw [h.cell (p := ⟨w.heap.size + 1, 0, none⟩) (by simp [nextBox])]; simp [nextBox]
 ·rw [h.cell (p := ⟨w.heap.size + 1, 1, none⟩) (by simp [nextBox])]; simp [nextBox]
 ·rw [h.frozen (p := ⟨w.heap.size + 1, 0, none⟩) (by simp [nextBox])]; simp [nextBox]
 ·rw [h.frozen (p := ⟨w.heap.size + 1, 1, none⟩) (by simp [nextBox])]; simp [nextBox]
theorem nextBox_ext (w : World) (num : Int) (s : Value) : Ext w (nextBox w num s) := (Ext.new w _).alloc _
theorem next_no (num : Int) (A Ac : Option Addr) (c cc : Nat) (xs cut : List Int) (w : World) (hx : Row w A (ints xs)) (hc : Row w Ac (ints cut))
  (hn : xs.length ≤ 9223372036854775807) (hnc : cut.length ≤ 9223372036854775807) (hv : okCut num xs cut = false) :
  Calls Tryz.prog 194 #[.agg #[.int .i64 num, .slice A xs.length c], .slice Ac cut.length cc] w (GivesV w (nextF num xs cut)) := by
 have H0 := hJ (nextBox_ext w num (.slice A xs.length c))
 have HX := hJ (hx.ext H0.out); have HC := hJ (hc.ext H0.out)
 clear hx hc; have HE : Hid (nextF num xs cut = (0, [], 1)) := if_pos hv
 rcases okCut_not hv with hv | ⟨hv, hcv⟩
 ·have HV := hJ hv; clear hv
  go_enter Tryz.func194, Tryz.ntmps194
  go_wp2_with (first
   | (go_at_call 84; refine (valid_no _ _ _ _ _ HX.out hn HV.out).mono ?_; rintro e w1 ⟨rfl, hx1⟩; obtain ⟨q0, q1, q2, q3, q4, q5, q6⟩ := nextBox_cells hx1; have H1 := hJ (Ext.trans H0.out hx1); clear hx1))
  exact bodyPost_ret (v := .tuple #[.agg #[.int .i64 0, .slice none 0 0], .int .i64 1]) (by simp [results, Tryz.results194, go_sem, q2, q3]) rfl (gives_v HE.out (Own.nil _ _ _) ((H1.out.set (by simp) _).set (by simp) _))
 ·have HV := hJ hv; have HCV := hJ hcv; clear hv hcv
  go_enter Tryz.func194, Tryz.ntmps194
  go_wp2_with (first
   | (go_at_call 84; refine (valid_yes _ _ _ _ _ HX.out hn HV.out).mono ?_; rintro e w1 ⟨rfl, hx1⟩; obtain ⟨q0, q1, q2, q3, q4, q5, q6⟩ := nextBox_cells hx1; have HC1 := hJ (HC.out.ext hx1); have H1 := hJ (Ext.trans H0.out hx1); clear hx1)
   | (go_at_call 205; refine (validCut_no _ _ _ _ HC1.out hnc HCV.out).mono ?_; rintro e w2 ⟨rfl, rfl⟩))
  exact bodyPost_ret (v := .tuple #[.agg #[.int .i64 0, .slice none 0 0], .int .i64 1]) (by simp [results, Tryz.results194, go_sem, q2, q3]) rfl (gives_v HE.out (Own.nil _ _ _) ((H1.out.set (by simp) _).set (by simp) _))
set_option maxHeartbeats 1000000 in
theorem next_yes (num : Int) (A Ac : Option Addr) (c cc : Nat) (xs cut : List Int) (w : World) (hx : Row w A (ints xs)) (hc : Row w Ac (ints cut))
  (hn : xs.length ≤ 9223372036854775807) (hnc : cut.length ≤ 9223372036854775807) (hv : okCut num xs cut = true) :
  Calls Tryz.prog 194 #[.agg #[.int .i64 num, .slice A xs.length c], .slice Ac cut.length cc] w (GivesV w (nextF num xs cut)) := by
 have H0 := hJ (nextBox_ext w num (.slice A xs.length c))
 have HX := hJ (hx.ext H0.out); have HC := hJ (hc.ext H0.out)
 clear hx hc; have HV := hJ (okCut_iff.1 hv)
 have HO := hJ hv
 have hl1 : xs.length ≤ 16 := (validB_len HV.out.1).2
 have hl2 : cut.length ≤ 32 := (idsB_len (m := 32) HV.out.2).2
 clear hv; go_enter Tryz.func194, Tryz.ntmps194
 go_wp2_with (first
  | (go_at_call 84; refine (valid_yes _ _ _ _ _ HX.out hn HV.out.1).mono ?_; rintro e w1 ⟨rfl, hx1⟩; obtain ⟨q0, q1, q2, q3, q4, q5, q6⟩ := nextBox_cells hx1; have HX1 := hJ (HX.out.ext hx1); have HC1 := hJ (HC.out.ext hx1); have H1 := hJ hx1; clear hx1)
  | (go_at_call 205; refine (validCut_yes _ _ _ _ HC1.out hnc HV.out.2).mono ?_; rintro e w2 ⟨rfl, rfl⟩))
 go_region_held3 (fun w' => w'.cell? ⟨w.heap.size, 0, none⟩ = some (.int .i64 num) ∧ w'.cell? ⟨w.heap.size, 1, none⟩ = some (.slice A xs.length c))
  (first | go_keep | (go_split_ands; refine ⟨?_, ?_⟩ <;> first | (rw [hx3.cell (by simp; omega)]; assumption) | (rw [hx2.cell (by simp; omega)]; assumption)))
  (first
   | (go_at_call 206; refine (survivors_any _ _ _ _ _ _ _ _ (by exact HX1.out) (by exact HC1.out) hn hnc).mono ?_; rintro e w2 ⟨A2, c2, rfl, hc2, hm2, ho2, hx2⟩; have s2 : w1.heap.size ≤ w2.heap.size := hx2.size; have HX2 := hJ (Row.ext (w := w1.drew) HX1.out hx2); have HC2 := hJ (Row.ext (w := w1.drew) HC1.out hx2))
   | (go_at_call 207; refine (joiners_any _ _ _ _ _ _ _ _ (by exact HX2.out) (by exact HC2.out) hn hnc).mono ?_; rintro e w3 ⟨A3, c3, rfl, hc3, hm3, ho3, hx3⟩; have s3 := hx3.size))
 have H3 := hJ (((Ext.drew H1.out).trans hx2).trans hx3)
 clear q0 q1 q2 q3 q4 q5 q6; obtain ⟨q0, q1, q2, q3, q4, q5, q6⟩ := nextBox_cells H3.out
 have HS := hJ (ho2.ext hx3)
 have HE := hJ (Ext.trans H0.out H3.out)
 clear hx2 hx3 HX2 HC2 HX1 HC1 H1; have hsl := surv_len HO.out
 have hjl := join_len HO.out
 have hnum := validB_num HV.out.1
 by_cases h1 : 2 * (survivors num xs cut).length ≤ xs.length
 ·have HF := hJ (nextF_maj HO.out h1)
  go_wp2; exact bodyPost_ret (v := .tuple #[.agg #[.int .i64 0, .slice none 0 0], .int .i64 9]) (by simp [results, Tryz.results194, go_sem, q2, q3]) rfl (gives_v HF.out (Own.nil _ _ _) ((HE.out.set (by simp) _).set (by simp) _))
 ·have h1' : xs.length < 2 * (survivors num xs cut).length := by omega
  have HN1 := hJ h1
  clear h1; by_cases h2 : num = 1099511627776
  ·have HF := hJ (nextF_lim HO.out HN1.out (.inl h2))
   have h2b : (num == 1099511627776) = true := by simpa using h2
   clear h2; go_wp2; exact bodyPost_ret (v := .tuple #[.agg #[.int .i64 0, .slice none 0 0], .int .i64 5]) (by simp [results, Tryz.results194, go_sem, q2, q3]) rfl (gives_v HF.out (Own.nil _ _ _) ((HE.out.set (by simp) _).set (by simp) _))
  ·have h2b : (num == 1099511627776) = false := by simpa using h2
   by_cases h3 : 16 < (survivors num xs cut).length + (joiners num xs cut).length
   ·have HF := hJ (nextF_lim HO.out HN1.out (.inr h3))
    clear h2; go_wp2; exact bodyPost_ret (v := .tuple #[.agg #[.int .i64 0, .slice none 0 0], .int .i64 5]) (by simp [results, Tryz.results194, go_sem, q2, q3]) rfl (gives_v HF.out (Own.nil _ _ _) ((HE.out.set (by simp) _).set (by simp) _))
   ·have HF := hJ (nextF_ok HO.out HN1.out (by omega))
    have h3' : (survivors num xs cut).length + (joiners num xs cut).length ≤ 16 := by omega
    have h2' : num < 1099511627776 := by omega
    have hw : IntKind.i64.wrap (num + 1) = num + 1 := IntWalk.i64_in _ (by omega)
    clear h2 h3; go_wp2; go_region_held3 (fun w' => w'.cell? ⟨w.heap.size, 0, none⟩ = some (.int .i64 num))
     (first | go_keep)
     (first
      | (go_at_call 208; refine (merge_any _ _ _ _ _ _ _ (by exact HS.out.row) (by exact ho3.row) (by omega) (by omega) (by omega)).mono ?_; rintro e w4 ⟨A4, c4, rfl, hc4, hm4, ho4, hx4⟩; obtain ⟨k0, k1, k2, k3, k4, k5, k6⟩ := nextBox_cells ((Ext.drew H3.out).trans hx4)))
    go_wp2; have HB := hJ (Ext.trans HE.out (Ext.trans (Ext.drew (Ext.refl w3)) hx4))
    refine bodyPost_ret (v := .tuple #[.agg #[.int .i64 (num + 1), .slice A4 (mergeL (survivors num xs cut) (joiners num xs cut)).length c4], .int .i64 0]) (by simp [results, Tryz.results194, go_sem, k2, k3]) rfl (gives_v HF.out ((Own.set (Own.set (ho4.base ?_) ?_ _) ?_ _)) ((HB.out.set (by simp) _).set (by simp) _))
    ·show w.heap.size ≤ w3.heap.size; omega
    ·intro k hk; have := (ho4.lt k hk).1; simp only [World.drew] at this; simp; omega
    ·intro k hk; have := (ho4.lt k hk).1; simp only [World.drew] at this; simp; omega
end Go.Proofs.YtponbabbabnaeaaGreat
namespace Go.Proofs.YtponbabbabnaeaaGreat
theorem mergeL_nil (a : List Int) : mergeL a [] = a := by unfold mergeL; simp
theorem nil_mergeL (a : List Int) : mergeL [] a = a := by unfold mergeL; simp
theorem mergeL_le {x y : Int} {a b : List Int} (h : x ≤ y) : mergeL (x :: a) (y :: b) = x :: mergeL a (y :: b) := by
 unfold mergeL; rw [List.cons_merge_cons_pos _ _ _ (by simp [leB, h])]
theorem mergeL_gt {x y : Int} {a b : List Int} (h : y < x) : mergeL (x :: a) (y :: b) = y :: mergeL (x :: a) b := by
 unfold mergeL; rw [List.cons_merge_cons_neg _ _ _ (by simp [leB]; omega)]
theorem rises_iff (xs : List Int) : ∀ last, rises last xs = true ↔ xs.Pairwise (· < ·) ∧ ∀ x ∈ xs, last < x ∧ x ≤ 1000 := by
 induction xs with
 | nil => intro last; simp [rises]
 | cons x xs ih =>
  intro last
  unfold rises
  by_cases h : x ≤ last ∨ 1000 < x
  ·rw [if_pos h]
   simp only [Bool.false_eq_true, false_iff, not_and]
   intro _ hall
   have := hall x (by simp)
   omega
  ·rw [if_neg h, ih, List.pairwise_cons]
   constructor
   ·rintro ⟨h1, h2⟩
    refine ⟨⟨fun y hy => (h2 y hy).1, h1⟩, fun y hy => ?_⟩
    rcases List.mem_cons.1 hy with rfl | hy
    ·omega
    ·have := h2 y hy; omega
   ·rintro ⟨⟨h1, h2⟩, h3⟩
    exact ⟨h2, fun y hy => ⟨h1 y hy, (h3 y (by simp [hy])).2⟩⟩
theorem idsB_iff {xs : List Int} {m : Nat} : idsB xs m = true ↔ 1 ≤ xs.length ∧ xs.length ≤ m ∧ xs.Pairwise (· < ·) ∧ ∀ x ∈ xs, 0 < x ∧ x ≤ 1000 := by
 unfold idsB
 by_cases h : (xs.length : Int) < 1 ∨ (m : Int) < (xs.length : Int)
 ·rw [if_pos h]; simp only [Bool.false_eq_true, false_iff]; omega
 ·rw [if_neg h, rises_iff]
  exact ⟨fun k => ⟨by omega, by omega, k⟩, fun k => k.2.2⟩
theorem idsB_sorted {xs : List Int} {m : Int} (h : idsB xs m = true) : xs.Pairwise (· < ·) := by
 unfold idsB at h
 split at h
 ·cases h
 ·exact ((rises_iff xs 0).1 h).1
theorem validB_ids {n : Int} {xs : List Int} (h : validB n xs = true) : idsB xs 16 = true := by
 unfold validB at h; simp only [Bool.and_eq_true] at h; exact h.2
def diffF (n : Int) (xs : List Int) (m : Int) (ys : List Int) : List Int := if validB n xs && validB m ys then mergeL (among xs ys false) (among ys xs false) else []
theorem diffF_yes {n m : Int} {xs ys : List Int} (h1 : validB n xs = true) (h2 : validB m ys = true) : diffF n xs m ys = mergeL (among xs ys false) (among ys xs false) := by simp [diffF, h1, h2]
theorem diffF_no1 {n m : Int} {xs ys : List Int} (h1 : validB n xs = false) : diffF n xs m ys = [] := by simp [diffF, h1]
theorem diffF_no2 {n m : Int} {xs ys : List Int} (h2 : validB m ys = false) : diffF n xs m ys = [] := by simp [diffF, h2]
theorem ids16_32 {xs : List Int} (h : idsB xs 16 = true) : idsB xs 32 = true := by
 have := (idsB_iff (m := 16)).1 h; exact (idsB_iff (m := 32)).2 ⟨this.1, by omega, this.2.2⟩
end Go.Proofs.YtponbabbabnaeaaGreat
namespace Go.Proofs.YtponbabbabnaeaaGreat
open Go.RowKit
theorem sameInts_any (A A' : Option Addr) (c c' : Nat) (xs ys : List Int) (w : World) (h : Row w A (ints xs)) (h' : Row w A' (ints ys)) (hn : xs.length ≤ 9223372036854775807) :
  Calls Tryz.prog 153 #[.slice A xs.length c, .slice A' ys.length c'] w fun e w' => e = .returned (.bool (sameB xs ys)) ∧ Still w w' := by
 have H := hJ h; clear h
 have H' := hJ h'; clear h'
 by_cases hl : xs.length = ys.length
 ·have HL := hJ hl
  have hb : ((xs.length : Int) != (ys.length : Int)) = false := by simp [hl]
  have hle : ys.length ≤ xs.length := by omega
  have hge : xs.length ≤ ys.length := by omega
  clear hl; go_enter Tryz.func153, Tryz.ntmps153
  go_wp2; go_loopw [5] (fun i wr => ∃ k : Nat, k ≤ xs.length ∧ i = .int .i64 k ∧ Hid (xs.take k = ys.take k) ∧ Still w wr) (fun i _ => xs.length - (intOf i).toNat)
  case atStart => exact ⟨0, Nat.zero_le _, rfl, rfl, Still.refl _⟩
  case round =>
   obtain ⟨k, hk, rfl, HT, HS⟩ := hrel
   by_cases hlt : k < xs.length
   ·obtain ⟨b, off, x, rfl, hc, HX⟩ := (HS.row H.out).at_ hlt
    obtain ⟨b', off', y, rfl, hc', HY⟩ := (HS.row H'.out).at_ (show k < ys.length by omega)
    by_cases he : x = y
    ·have hb' : (x != y) = false := by simp [he]
     have HE := hJ he; clear he
     go_wp2; go_quiet (fail)
     go_wp2; go_roundw
     case rel => exact ⟨k + 1, by omega, by go_num, same_step HX.out HY.out HE.out HT.out, HS.drewN _⟩
     case measure => simp [intOf]; omega
    ·have hb' : (x != y) = true := by simp [he]
     have HE := hJ he; clear he
     go_wp2; go_quiet (fail)
     go_wp2; go_ret
     exact ⟨ret_bool (sameB_diff HX.out HY.out HE.out).symm, HS.drewN _⟩
   ·go_wp2
    go_ret
    exact ⟨ret_bool (sameB_all hlt HL.out HT.out).symm, HS⟩
 ·have HE := hJ (sameB_len hl)
  have hb : ((xs.length : Int) != (ys.length : Int)) = true := by simp; omega
  clear hl; go_enter Tryz.func153, Tryz.ntmps153
  go_wp2; go_ret
  exact ⟨ret_bool HE.out.symm, Still.refl _⟩
theorem equal_any (A A' : Option Addr) (c c' : Nat) (xs ys : List Int) (w : World) (h : Row w A (ints xs)) (h' : Row w A' (ints ys)) (hn : xs.length ≤ 9223372036854775807) :
  Calls Tryz.prog 196 #[.slice A xs.length c, .slice A' ys.length c'] w fun e w' => e = .returned (.bool (sameB xs ys)) ∧ Still w w' := by
 have H := hJ h; clear h
 have H' := hJ h'; clear h'
 by_cases hl : xs.length = ys.length
 ·have HL := hJ hl
  have hb : ((xs.length : Int) != (ys.length : Int)) = false := by simp [hl]
  have hle : ys.length ≤ xs.length := by omega
  have hge : xs.length ≤ ys.length := by omega
  clear hl; go_enter Tryz.func196, Tryz.ntmps196
  go_wp2; go_loopw [5, 13] (fun _ i wr => ∃ k : Nat, k ≤ xs.length ∧ i = .int .i64 k ∧ Hid (xs.take k = ys.take k) ∧ Still w wr) (fun _ i _ => xs.length - (intOf i).toNat)
  case atStart => exact ⟨0, Nat.zero_le _, rfl, rfl, Still.refl _⟩
  case round =>
   obtain ⟨k, hk, rfl, HT, HS⟩ := hrel
   by_cases hlt : k < xs.length
   ·obtain ⟨b, off, x, rfl, hc, HX⟩ := (HS.row H.out).at_ hlt
    obtain ⟨b', off', y, rfl, hc', HY⟩ := (HS.row H'.out).at_ (show k < ys.length by omega)
    by_cases he : x = y
    ·have hb' : (x != y) = false := by simp [he]
     have HE := hJ he; clear he
     go_wp2; go_quiet (fail)
     go_wp2; go_roundw
     case rel => exact ⟨k + 1, by omega, by go_num, same_step HX.out HY.out HE.out HT.out, HS.drewN _⟩
     case measure => simp [intOf]; omega
    ·have hb' : (x != y) = true := by simp [he]
     have HE := hJ he; clear he
     go_wp2; go_quiet (fail)
     go_wp2; go_ret
     exact ⟨ret_bool (sameB_diff HX.out HY.out HE.out).symm, HS.drewN _⟩
   ·go_wp2
    go_ret
    exact ⟨ret_bool (sameB_all hlt HL.out HT.out).symm, HS⟩
 ·have HE := hJ (sameB_len hl)
  have hb : ((xs.length : Int) != (ys.length : Int)) = true := by simp; omega
  clear hl; go_enter Tryz.func196, Tryz.ntmps196
  go_wp2; go_ret
  exact ⟨ret_bool HE.out.symm, Still.refl _⟩
end Go.Proofs.YtponbabbabnaeaaGreat
namespace Go.Proofs.YtponbabbabnaeaaGreat
open Go.RowKit
end Go.Proofs.YtponbabbabnaeaaGreat
namespace Go.Proofs.YtponbabbabnaeaaGreat
open Go.RowKit
theorem next_any (num : Int) (A Ac : Option Addr) (c cc : Nat) (xs cut : List Int) (w : World) (hx : Row w A (ints xs)) (hc : Row w Ac (ints cut))
  (hn : xs.length ≤ 9223372036854775807) (hnc : cut.length ≤ 9223372036854775807) :
  Calls Tryz.prog 194 #[.agg #[.int .i64 num, .slice A xs.length c], .slice Ac cut.length cc] w (GivesV w (nextF num xs cut)) := by
 cases h : okCut num xs cut
 ·exact next_no num A Ac c cc xs cut w hx hc hn hnc h
 ·exact next_yes num A Ac c cc xs cut w hx hc hn hnc h
end Go.Proofs.YtponbabbabnaeaaGreat
namespace Go.Proofs.YtponbabbabnaeaaGreat
open Go.RowKit
def twoBox (w : World) (n : Int) (s : Value) (m : Int) (t : Value) : World := (w.alloc (.cells #[.int .i64 n, s] 46)).alloc (.cells #[.int .i64 m, t] 46)
theorem twoBox_cells {w w1 : World} {n m : Int} {s t : Value} (h : Ext (twoBox w n s m t) w1) :
  w1.cell? ⟨w.heap.size, 0, none⟩ = some (.int .i64 n) ∧ w1.cell? ⟨w.heap.size, 1, none⟩ = some s ∧
  w1.cell? ⟨w.heap.size + 1, 0, none⟩ = some (.int .i64 m) ∧ w1.cell? ⟨w.heap.size + 1, 1, none⟩ = some t := by
 refine ⟨?_, ?_, ?_, ?_⟩
 ·rw [h.cell (p := ⟨w.heap.size, 0, none⟩) (by simp [twoBox]; omega)]; simp [twoBox]
 ·rw [h.cell (p := ⟨w.heap.size, 1, none⟩) (by simp [twoBox]; omega)]; simp [twoBox]
 ·rw [h.cell (p := ⟨w.heap.size + 1, 0, none⟩) (by simp [twoBox])]; simp [twoBox]
 ·rw [h.cell (p := ⟨w.heap.size + 1, 1, none⟩) (by simp [twoBox])]; simp [twoBox]
theorem twoBox_ext (w : World) (n m : Int) (s t : Value) : Ext w (twoBox w n s m t) := (Ext.new w _).alloc _
theorem Own.cap {w : World} {B : Nat} {e : TypeId} {A : Option Addr} {n c : Nat} {xs : List Value} (h : Own w B e (.slice A n c) xs) : n ≤ c := by
 obtain ⟨_, h2⟩ := h
 rcases h2 with ⟨hv, _⟩ | ⟨g, cap, cur, hv, _, _, h3, _⟩
 ·cases hv; exact Nat.le_refl _
 ·injection hv with _ h4 h5
  omega
set_option maxHeartbeats 800000 in
theorem diff_any (n m : Int) (A B : Option Addr) (c d : Nat) (xs ys : List Int) (w : World) (hx : Row w A (ints xs)) (hy : Row w B (ints ys))
  (hn : xs.length ≤ 9223372036854775807) (hm : ys.length ≤ 9223372036854775807) :
  Calls Tryz.prog 195 #[.agg #[.int .i64 n, .slice A xs.length c], .agg #[.int .i64 m, .slice B ys.length d]] w (GivesI w (diffF n xs m ys)) := by
 have H0 := hJ (twoBox_ext w n m (.slice A xs.length c) (.slice B ys.length d))
 have HX := hJ (hx.ext H0.out); have HY := hJ (hy.ext H0.out)
 clear hx hy; by_cases hv : validB n xs = true
 ·have HV := hJ hv
  clear hv; by_cases hv' : validB m ys = true
  ·have HV' := hJ hv'
   clear hv'; have HF := hJ (diffF_yes HV.out HV'.out)
   have hl1 : xs.length ≤ 16 := (validB_len HV.out).2
   have hl2 : ys.length ≤ 16 := (validB_len HV'.out).2
   have hl3 := among_len xs ys false
   have hl4 := among_len ys xs false
   go_enter Tryz.func195, Tryz.ntmps195
   go_wp2_with fail
   refine (valid_yes _ _ _ _ _ HX.out hn HV.out).mono ?_
   rintro e w1 ⟨rfl, hx1⟩
   have H1 := hJ hx1
   have HX1 := hJ (HX.out.ext hx1); have HY1 := hJ (HY.out.ext hx1)
   clear hx1; obtain ⟨q0, q1, q2, q3⟩ := twoBox_cells H1.out
   go_wp2_with fail
   refine (valid_yes _ _ _ _ _ HY1.out hm HV'.out).mono ?_
   rintro e w2 ⟨rfl, hx2⟩
   have H2 := hJ (H1.out.trans hx2)
   have HX2 := hJ (HX1.out.ext hx2); have HY2 := hJ (HY1.out.ext hx2)
   clear hx2 q0 q1 q2 q3 HX1 HY1 H1; obtain ⟨q0, q1, q2, q3⟩ := twoBox_cells H2.out
   go_wp2_with fail
   refine (split_yes _ _ _ _ _ _ _ _ _ _ _ _ _ _ HX2.out HY2.out HX2.out HY2.out hn hm (by omega) hm HV.out (ids16_32 (validB_ids HV'.out))).mono ?_
   rintro e w3 ⟨A3, c3, A3', c3', rfl, ho3, ho3', hx3⟩
   have H3 := hJ (H2.out.trans hx3)
   have HX3 := hJ (HX2.out.ext hx3); have HY3 := hJ (HY2.out.ext hx3)
   clear hx3 q0 q1 q2 q3 HX2 HY2 H2; obtain ⟨q0, q1, q2, q3⟩ := twoBox_cells H3.out
   go_wp2_with fail
   refine (split_yes _ _ _ _ _ _ _ _ _ _ _ _ _ _ HX3.out HY3.out HY3.out HX3.out hn hm (by omega) hn HV.out (ids16_32 (validB_ids HV'.out))).mono ?_
   rintro e w4 ⟨A4, c4, A4', c4', rfl, ho4, ho4', hx4⟩
   have H4 := hJ (H3.out.trans hx4)
   have HR3 := hJ (ho3'.ext hx4).row
   have hc3 := ho3'.cap
   clear hx4 q0 q1 q2 q3 HX3 HY3 H3; obtain ⟨q0, q1, q2, q3⟩ := twoBox_cells H4.out
   go_wp2_with fail
   refine (merge_any _ _ _ _ _ _ _ HR3.out ho4'.row hc3 (by omega) (by omega)).mono ?_
   rintro e w5 ⟨A5, c5, rfl, hc5, hm5, ho5, hx5⟩
   go_wp2; go_ret
   exact (gives_own (by rw [HF.out]; exact ho5) hx5).from (H0.out.trans H4.out)
  ·have hv2 : validB m ys = false := by simpa using hv'
   have HV' := hJ hv2
   clear hv' hv2; have HF := hJ (diffF_no2 (n := n) (xs := xs) HV'.out)
   go_enter Tryz.func195, Tryz.ntmps195
   go_wp2_with fail
   refine (valid_yes _ _ _ _ _ HX.out hn HV.out).mono ?_
   rintro e w1 ⟨rfl, hx1⟩
   have H1 := hJ hx1
   have HY1 := hJ (HY.out.ext hx1)
   clear hx1; obtain ⟨q0, q1, q2, q3⟩ := twoBox_cells H1.out
   go_wp2_with fail
   refine (valid_no _ _ _ _ _ HY1.out hm HV'.out).mono ?_
   rintro e w2 ⟨rfl, hx2⟩
   go_wp2; go_ret
   exact gives_own (by rw [HF.out]; exact Own.nil _ _ _) (H0.out.trans (H1.out.trans hx2))
 ·have hv2 : validB n xs = false := by simpa using hv
  have HV := hJ hv2
  clear hv hv2; have HF := hJ (diffF_no1 (m := m) (ys := ys) HV.out)
  go_enter Tryz.func195, Tryz.ntmps195
  go_wp2_with fail
  refine (valid_no _ _ _ _ _ HX.out hn HV.out).mono ?_
  rintro e w1 ⟨rfl, hx1⟩
  go_wp2; go_ret
  exact gives_own (by rw [HF.out]; exact Own.nil _ _ _) (H0.out.trans hx1)
end Go.Proofs.YtponbabbabnaeaaGreat
namespace Go.Proofs.YtponbabbabnaeaaGreat
open Go.RowKit
def encL (xs : List Int) : List UInt8 := xs.flatMap fun x => encU (zig x)
theorem encL_snoc {xs : List Int} {k : Nat} {x : Int} (h : xs[k]? = some x) : encL (xs.take (k + 1)) = encL (xs.take k) ++ encU (zig x) := by
 unfold encL; rw [take_snoc h]; simp
theorem encL_all {xs : List Int} {k : Nat} (h : ¬ k < xs.length) : encL (xs.take k) = encL xs := by rw [List.take_of_length_le (by omega)]
theorem encL_len {xs : List Int} (h : ∀ x ∈ xs, I64 x) (k : Nat) : (encL (xs.take k)).length ≤ 11 * k := by
 induction k with
 | zero => simp [encL]
 | succ k ih =>
  cases hx : xs[k]? with
  | none =>
   have : xs.take (k + 1) = xs.take k := by rw [List.take_add_one, hx]; simp
   rw [this]; omega
  | some x =>
   rw [encL_snoc hx, List.length_append]
   have := encU_len10 (zig_lt (h x (List.mem_of_getElem? hx)))
   omega
theorem len_u64 {n : Nat} (h : n ≤ 1000000) : n < U64 := by unfold U64; omega
set_option maxRecDepth 100000 in
theorem appendInts_any (A A' : Option Addr) (c c' : Nat) (bs : List UInt8) (xs : List Int) (w : World) (h : Row w A (bytesV bs)) (h' : Row w A' (ints xs)) (hl : bs.length ≤ 1000000) (hn : xs.length ≤ 1000000) (hb : ∀ x ∈ xs, I64 x) :
  Calls Tryz.prog 193 #[.slice A bs.length c, .slice A' xs.length c'] w (GivesB w (bs ++ encU xs.length ++ encL xs)) := by
 have H := hJ h; have H' := hJ h'; have HB := hJ hb
 clear h h' hb; go_enter Tryz.func193, Tryz.ntmps193
 go_wp2_with fail
 rw [show (10 : Int) + 2 * (xs.length : Int) = ((10 + 2 * xs.length : Nat) : Int) by omega]
 refine (extend_any A c bs (10 + 2 * xs.length) w H.out (by omega) (by omega)).mono ?_
 rintro e w1 ⟨A1, c1, rfl, hc1, hm1, ho1, hx1⟩
 have hwl : IntKind.u64.wrap (xs.length : Int) = (xs.length : Int) := u64_nat (len_u64 hn)
 go_wp2_with fail
 refine (putUint_any w.heap.size _ bs xs.length w1 ho1 hx1.size (by omega) (len_u64 hn)).mono ?_
 rintro e w2 ⟨v2, rfl, ho2, hg2, hs2⟩
 have hx2 := hJ (hg2.below hx1 hx1.size (fun k hk => (ho1.lt k hk).1))
 have hl2 := encU_len10 (len_u64 hn)
 clear hwl; go_wp2; go_loopw [5, 7, 20] (fun v _ i wr => ∃ k : Nat, k ≤ xs.length ∧ i = .int .i64 k ∧ Own wr w.heap.size 5 v (bytesV (bs ++ encU xs.length ++ encL (xs.take k))) ∧ Ext w wr) (fun _ _ i _ => xs.length - (intOf i).toNat)
 case atStart => exact ⟨0, Nat.zero_le _, rfl, by simpa [encL] using ho2, hx2.out⟩
 case round =>
  obtain ⟨k, hk, rfl, ho, hx⟩ := hrel
  have hel := encL_len HB.out k
  by_cases hlt : k < xs.length
  ·obtain ⟨b, off, x, hA, hc, HX⟩ := (H'.out.ext hx).at_ hlt
   subst hA
   have hlen : (bs ++ encU xs.length ++ encL (xs.take k)).length ≤ 1000000000 := by simp only [List.length_append]; omega
   go_wp2_with fail
   refine (putInt_any w.heap.size _ _ x wr ho hx.size hlen (HB.out x (List.mem_of_getElem? HX.out))).mono ?_
   rintro e w3 ⟨v3, rfl, ho3, hg3, hs3⟩
   go_wp2; go_roundw
   case rel => exact ⟨k + 1, by omega, by go_num, by rw [encL_snoc HX.out, ← List.append_assoc]; exact ho3, hg3.below hx hx.size (fun k hk => (ho.lt k hk).1)⟩
   case measure => simp [intOf]; omega
  ·go_wp2
   go_ret
   exact gives_b (by rw [encL_all hlt] at ho; exact ho) hx
def encV (num : Int) (xs : List Int) : List UInt8 := if validB num xs then encU num.toNat ++ encU xs.length ++ encL xs else []
theorem encV_yes {num : Int} {xs : List Int} (h : validB num xs = true) : encV num xs = encU num.toNat ++ encU xs.length ++ encL xs := if_pos h
theorem encV_no {num : Int} {xs : List Int} (h : validB num xs = false) : encV num xs = [] := if_neg (by simp [h])
theorem valid_i64 {num : Int} {xs : List Int} (h : validB num xs = true) : ∀ x ∈ xs, I64 x := by
 intro x hx
 have := ((idsB_iff (m := 16)).1 (validB_ids h)).2.2.2 x hx
 unfold I64; omega
end Go.Proofs.YtponbabbabnaeaaGreat
