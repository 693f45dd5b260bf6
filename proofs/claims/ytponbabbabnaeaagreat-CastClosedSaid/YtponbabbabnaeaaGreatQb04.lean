/- Part 4 of the proof: contracts of functions that the statement reaches. Conditions: as each theorem says. -/
import Derived.RegionTactic
import Derived.Deep.RegionHeld3
import Derived.StillTailTactics
import Derived.Test.YtponbabbabnaeaaGreatQb03
import Derived.Test.YtponbabbabnaeaaGreatQb01
import Derived.Test.YtponbabbabnaeaaGreatQb02
namespace Go.Proofs.YtponbabbabnaeaaGreat
open Go.RowKit
theorem Row.byteN {w : World} {A : Option Addr} {bs : List UInt8} {k : Nat} (h : Row w A (bytesV bs)) (hk : k < bs.length) :
  ∃ b off m, A = some ⟨b, off, none⟩ ∧ w.cell? ⟨b, off + k, none⟩ = some (.int .u8 ((m : Nat) : Int)) ∧ m < 256 ∧ Hid (∃ x, bs[k]? = some x ∧ x.toNat = m) := by
 obtain ⟨b, off, x, h1, h2, h3⟩ := h.byte hk
 exact ⟨b, off, x.toNat, h1, h2, x.toNat_lt, x, h3, rfl⟩
def retU (r : Nat × Nat × Int) : Ending := .returned (.tuple #[.int .u64 (r.1 : Int), .int .i64 (r.2.1 : Int), .int .i64 r.2.2])
theorem retU_of {r : Nat × Nat × Int} {a b e : Int} {x y : Nat} (h : r = (x, y, e)) (h1 : a = (x : Int)) (h2 : b = (y : Int)) : Ending.returned (.tuple #[.int .u64 a, .int .i64 b, .int .i64 e]) = retU r := by
 rw [h, h1, h2]; rfl
set_option maxRecDepth 100000 in
set_option maxHeartbeats 800000 in
theorem uint_any (A : Option Addr) (c : Nat) (bs : List UInt8) (w : World) (h : Row w A (bytesV bs)) (hl : bs.length ≤ 1000000000) :
  Calls Tryz.prog 182 #[.slice A bs.length c] w fun e w' => e = retU (decU bs) ∧ w = w' := by
 have H := hJ h; clear h
 go_enter Tryz.func182, Tryz.ntmps182
 go_wp2; go_loop [2, 5, 6, 9] (fun v _ _ i => ∃ k a : Nat, k ≤ bs.length ∧ k ≤ 9 ∧ v = .int .u64 (a : Int) ∧ i = .int .i64 (k : Int) ∧ Hid (a < 2 ^ (7 * k)) ∧ Hid (readU (bs.drop k) k a = decU bs)) (fun _ _ _ i => bs.length - (intOf i).toNat)
 case atStart => exact ⟨0, 0, by omega, by omega, rfl, rfl, by simp [Hid], rfl⟩
 case round =>
  obtain ⟨k, a, hk, hk9, rfl, rfl, HA, HR⟩ := hrel
  by_cases hlt : k < bs.length
  ·obtain ⟨b, off, m, rfl, hc, hm, HX⟩ := H.out.byteN hlt
   by_cases h9 : k = 9
   ·subst h9
    by_cases h1 : 1 < m
    ·have HF : Hid (decU bs = (0, 0, 3)) := by
      obtain ⟨x, hx, rfl⟩ := HX.out; rw [← HR.out]; exact readU_bad hx (.inl ⟨rfl, h1⟩)
     go_wp2; go_ret3
     exact ⟨retU_of HF.out rfl rfl, rfl⟩
    ·by_cases h0 : m = 0
     ·have HF : Hid (decU bs = (0, 0, 3)) := by
       obtain ⟨x, hx, hx'⟩ := HX.out; rw [← HR.out]; exact readU_bad hx (.inr ⟨by omega, by omega⟩)
      have hz : ((m : Int) == 0) = true := by simp; omega
      have hd : decide ((1 : Int) < (m : Int)) = false := by simp; omega
      have hm1 : m ≤ 1 := by omega
      clear h0 h1; go_wp2; go_ret3
      exact ⟨retU_of HF.out rfl rfl, rfl⟩
     ·have HF : Hid (decU bs = (a + m % 128 * 2 ^ (7 * 9), 9 + 1, 0)) := by
       obtain ⟨x, hx, rfl⟩ := HX.out; rw [← HR.out]; exact readU_last hx (by omega) (by omega)
      have hz : ((m : Int) == 0) = false := by simp; omega
      have hd : decide ((1 : Int) < (m : Int)) = false := by simp; omega
      have hm1 : m ≤ 1 := by omega
      clear h0 h1; go_wp2; go_ret3
      exact ⟨retU_of HF.out (or_nine hm1 HA.out) rfl, rfl⟩
   ·have hk8 : k < 9 := by omega
    have h9b : ((k : Int) == 9) = false := by simp; omega
    clear h9; by_cases h0 : 0 < k ∧ m = 0
    ·obtain ⟨h0, h1⟩ := h0
     have HF : Hid (decU bs = (0, 0, 3)) := by
      obtain ⟨x, hx, hx'⟩ := HX.out; rw [← HR.out]; exact readU_bad hx (.inr ⟨h0, by omega⟩)
     have hz : ((m : Int) == 0) = true := by simp; omega
     clear h1; go_wp2; go_ret3
     exact ⟨retU_of HF.out rfl rfl, rfl⟩
    ·by_cases h2 : m < 128
     ·have HF : Hid (decU bs = (a + m % 128 * 2 ^ (7 * k), k + 1, 0)) := by
       obtain ⟨x, hx, rfl⟩ := HX.out; rw [← HR.out]; exact readU_last hx (by omega) h2
      rcases Nat.eq_zero_or_pos k with hk0 | hk0
      ·have hkz : decide (0 < k) = false := by simp; omega
       have HZ := hJ hk0
       have hk1 : k ≤ 0 := by omega
       clear h0 hk0; go_wp2; go_ret3
       exact ⟨retU_of HF.out (or_step hm HA.out hk8) (by omega), rfl⟩
      ·have hz : ((m : Int) == 0) = false := by simp; omega
       clear h0; go_wp2; go_ret3
       exact ⟨retU_of HF.out (or_step hm HA.out hk8) (by omega), rfl⟩
     ·have HF : Hid (readU (bs.drop (k + 1)) (k + 1) (a + m % 128 * 2 ^ (7 * k)) = decU bs) := by
       obtain ⟨x, hx, rfl⟩ := HX.out; rw [← HR.out]; exact (readU_next hx (by omega) h2).symm
      have h2' : 128 ≤ m := by omega
      have hz : ((m : Int) == 0) = false := by simp; omega
      clear h0 h2; rcases Nat.eq_zero_or_pos k with hk0 | hk0
      ·have hkz : decide (0 < k) = false := by simp; omega
       have hk1 : k ≤ 0 := by omega
       clear hk0; go_wp2; go_round
       case rel => exact ⟨k + 1, a + m % 128 * 2 ^ (7 * k), by omega, by omega, by rw [or_step hm HA.out hk8], by go_num, pow_next HA.out, HF⟩
       case measure => simp [intOf]; omega
      ·go_wp2
       go_round
       case rel => exact ⟨k + 1, a + m % 128 * 2 ^ (7 * k), by omega, by omega, by rw [or_step hm HA.out hk8], by go_num, pow_next HA.out, HF⟩
       case measure => simp [intOf]; omega
  ·have HF : Hid (decU bs = (0, 0, 2)) := by rw [Hid, ← HR.out]; exact readU_end hlt
   go_wp2; go_ret3
   exact ⟨retU_of HF.out rfl rfl, rfl⟩
end Go.Proofs.YtponbabbabnaeaaGreat
namespace Go.Proofs.YtponbabbabnaeaaGreat
open Go.RowKit
end Go.Proofs.YtponbabbabnaeaaGreat
namespace Go.Proofs.YtponbabbabnaeaaGreat
open Go.RowKit
def retI (r : Int × Nat × Int) : Ending := .returned (.tuple #[.int .i64 r.1, .int .i64 (r.2.1 : Int), .int .i64 r.2.2])
set_option maxRecDepth 100000 in
theorem int_any (A : Option Addr) (c : Nat) (bs : List UInt8) (w : World) (h : Row w A (bytesV bs)) (hl : bs.length ≤ 1000000000) :
  Calls Tryz.prog 185 #[.slice A bs.length c] w fun e w' => e = retI (decI bs) ∧ w = w' := by
 have H := hJ h; clear h
 have HB := hJ (unzig_bits (decU_in bs).1)
 go_enter Tryz.func185, Tryz.ntmps185
 go_wp2_with fail
 refine (uint_any A c bs w H.out hl).mono ?_
 rintro e w' ⟨rfl, rfl⟩
 unfold retU
 go_wp2; go_ret3
 refine ⟨?_, rfl⟩
 unfold retI decI
 rw [← HB.out]
 rfl
set_option maxRecDepth 100000 in
theorem length_any (A : Option Addr) (c : Nat) (bs : List UInt8) (m : Nat) (w : World) (h : Row w A (bytesV bs)) (hl : bs.length ≤ 1000000000) (hm : m ≤ 1000000000) :
  Calls Tryz.prog 181 #[.slice A bs.length c, .int .i64 (m : Int)] w fun e w' => e = retI (((decN bs m).1 : Int), (decN bs m).2.1, (decN bs m).2.2) ∧ w = w' := by
 have H := hJ h; clear h
 have hwm : IntKind.u64.wrap (m : Int) = (m : Int) := u64_nat (by unfold U64; omega)
 by_cases he : (decU bs).2.2 = 0
 ·have hb : ((decU bs).2.2 != 0) = false := by simpa using he
  have HE := hJ he; clear he
  by_cases hg : m < (decU bs).1
  ·have HF : Hid (decN bs m = (0, 0, 5)) := by unfold Hid decN; rw [if_neg (by simpa using HE.out), if_pos hg]
   go_enter Tryz.func181, Tryz.ntmps181
   go_wp2_with fail
   refine (uint_any A c bs w H.out hl).mono ?_
   rintro e w' ⟨rfl, rfl⟩
   unfold retU
   go_wp2; go_ret3
   refine ⟨?_, rfl⟩
   rw [HF.out]
   rfl
  ·have HF : Hid (decN bs m = ((decU bs).1, (decU bs).2.1, 0)) := by unfold Hid decN; rw [if_neg (by simpa using HE.out), if_neg hg]
   have hle : (decU bs).1 ≤ m := by omega
   clear hg; go_enter Tryz.func181, Tryz.ntmps181
   go_wp2_with fail
   refine (uint_any A c bs w H.out hl).mono ?_
   rintro e w' ⟨rfl, rfl⟩
   unfold retU
   go_wp2; go_ret3
   refine ⟨?_, rfl⟩
   rw [HF.out]
   rfl
 ·have hb : ((decU bs).2.2 != 0) = true := by simpa using he
  have HF : Hid (decN bs m = (0, 0, (decU bs).2.2)) := by unfold Hid decN; rw [if_pos he]
  clear he; go_enter Tryz.func181, Tryz.ntmps181
  go_wp2_with fail
  refine (uint_any A c bs w H.out hl).mono ?_
  rintro e w' ⟨rfl, rfl⟩
  unfold retU
  go_wp2; go_ret3
  refine ⟨?_, rfl⟩
  rw [HF.out]
  rfl
end Go.Proofs.YtponbabbabnaeaaGreat
namespace Go.Proofs.YtponbabbabnaeaaGreat
open Go.RowKit
theorem int_len (A : Option Addr) (c n : Nat) (bs : List UInt8) (w : World) (h : Row w A (bytesV bs)) (hl : bs.length ≤ 1000000000) (hn : n = bs.length) :
  Calls Tryz.prog 185 #[.slice A n c] w fun e w' => e = retI (decI bs) ∧ w = w' := by subst hn; exact int_any A c bs w h hl
def GivesL (w : World) (r : List Int × Nat × Int) (en : Ending) (w' : World) : Prop :=
 ∃ A c, en = .returned (.tuple #[.slice A r.1.length c, .int .i64 (r.2.1 : Int), .int .i64 r.2.2]) ∧ r.1.length ≤ c ∧ c ≤ maxLen ∧ Own w' w.heap.size 3 (.slice A r.1.length c) (ints r.1) ∧ Ext w w'
theorem gives_l {w w' : World} {r : List Int × Nat × Int} {l : List Int} {n : Nat} {k e : Int} {v : Value} (hr : r = (l, n, e)) (hk : k = (n : Int)) (h : Own w' w.heap.size 3 v (ints l)) (x : Ext w w') : GivesL w r (.returned (.tuple #[v, .int .i64 k, .int .i64 e])) w' := by
 subst hr hk
 have hl : (ints l).length = l.length := by simp [ints]
 obtain ⟨A, c, hv, h1, h2, _⟩ := h.slice
 rw [hl] at hv h1
 subst hv
 exact ⟨A, c, rfl, h1, h2, h, x⟩
def Mid (bs : List UInt8) (count i : Nat) (l : List Int) (n : Nat) (e : Int) (R : List Int × Nat × Int) : Prop :=
 (e = 0 ∧ readL bs (count - i) l n = R) ∨ (e ≠ 0 ∧ R = ([], 0, e))
theorem Mid.next {bs : List UInt8} {count i n : Nat} {l : List Int} {R : List Int × Nat × Int} (h : Mid bs count i l n 0 R) (hi : i < count) :
  Mid bs count (i + 1) (l ++ [(decI (bs.drop n)).1]) (n + (decI (bs.drop n)).2.1) (decI (bs.drop n)).2.2 R := by
 rcases h with ⟨_, h⟩ | ⟨h, _⟩
 ·rw [show count - i = (count - (i + 1)) + 1 by omega] at h
  by_cases he : (decI (bs.drop n)).2.2 = 0
  ·rw [readL_step he] at h; exact .inl ⟨he, h⟩
  ·rw [readL_fail he] at h; exact .inr ⟨he, h.symm⟩
 ·exact absurd rfl h
theorem Mid.done {bs : List UInt8} {count i n : Nat} {l : List Int} {R : List Int × Nat × Int} (h : Mid bs count i l n 0 R) (hi : ¬ i < count) : R = (l, n, 0) := by
 rcases h with ⟨_, h⟩ | ⟨h, _⟩
 ·rw [show count - i = 0 by omega] at h; exact h.symm
 ·exact absurd rfl h
theorem Mid.fail {bs : List UInt8} {count i n : Nat} {l : List Int} {e : Int} {R : List Int × Nat × Int} (h : Mid bs count i l n e R) (he : e ≠ 0) : R = ([], 0, e) := by
 rcases h with ⟨h, _⟩ | ⟨_, h⟩
 ·exact absurd h he
 ·exact h
set_option maxRecDepth 100000 in
set_option maxHeartbeats 800000 in
theorem list_any (A : Option Addr) (c : Nat) (bs : List UInt8) (m : Nat) (w : World) (h : Row w A (bytesV bs)) (hc : bs.length ≤ c) (hl : bs.length ≤ 1000000000) (hm : m ≤ 100000) :
  Calls Tryz.prog 233 #[.slice A bs.length c, .int .i64 (m : Int), .func (Fn.func 185) #[] #[]] w (GivesL w (decL bs m)) := by
 have H := hJ h; clear h
 have hin := decN_in bs m
 by_cases he : (decN bs m).2.2 = 0
 ·have HF : Hid (decL bs m = readL bs (decN bs m).1 [] (decN bs m).2.1) := by unfold Hid decL; rw [if_neg (by simpa using he)]
  have HE := hJ he; clear he
  go_enter Tryz.func233, Tryz.ntmps233
  go_wp2_with fail
  refine (length_any A c bs m w H.out hl (by omega)).mono ?_
  rintro e w' ⟨rfl, rfl⟩
  unfold retI
  rw [HE.out]
  generalize hC : (decN bs m).1 = count at *
  generalize hN : (decN bs m).2.1 = n0 at *
  clear hC hN HE; go_wp2; go_loopw [6, 7, 8, 10, 11, 12, 13] (fun v nv ev i _ _ _ wr => ∃ (k n : Nat) (l : List Int) (e : Int), k ≤ count ∧ n ≤ bs.length ∧ l.length ≤ k ∧ nv = .int .i64 (n : Int) ∧ ev = .int .i64 e ∧ i = .int .i64 (k : Int) ∧ Hid (Mid bs count k l n e (decL bs m)) ∧ Own wr w.heap.size 3 v (ints l) ∧ Ext w wr) (fun _ _ _ i _ _ _ _ => count - (intOf i).toNat)
  case atStart => exact ⟨0, n0, [], 0, by omega, hin.2, by simp, rfl, rfl, rfl, .inl ⟨rfl, HF.out.symm⟩, Own.nil _ _ _, Ext.refl _⟩
  case round =>
   obtain ⟨k, n, l, e, hk, hn, hll, rfl, rfl, rfl, HM, ho, hx⟩ := hrel
   by_cases he : e = 0
   ·subst he
    by_cases hlt : k < count
    ·have hdi := decI_in (bs.drop n)
     rw [List.length_drop] at hdi
     have hfit : n + (decI (bs.drop n)).2.1 ≤ bs.length := by omega
     clear hdi; have HMN := hJ (HM.out.next hlt)
     by_cases hcn : c = n
     ·have HZ := hJ (fun A' => bytesV_drop bs n ▸ Row.past (w := wr) (A := A') (xs := bytesV bs) (k := n) (by rw [bytesV_len]; omega))
      subst hcn
      go_wp2_with fail
      refine (int_len _ _ _ (bs.drop c) _ (HZ.out _) (by rw [List.length_drop]; omega) (by simp only [List.length_drop]; try omega)).mono ?_
      rintro e' w' ⟨rfl, rfl⟩
      unfold retI
      generalize decI (bs.drop c) = r at *
      go_wp2_with (first
       | (at_builtin; refine push_int rfl (.tmp 39) (.tmp 41) rfl _ w.heap.size _ l (by rfl) _ (by rfl) ho (by omega) hx.size ?_; intro v1 w1 ho1 hg1 hs1))
      go_roundw
      case rel => exact ⟨k + 1, c + r.2.1, l ++ [r.1], r.2.2, by omega, hfit, by simp; omega, by go_num, rfl, by go_num, HMN, ho1, hg1.below hx hx.size (fun q hq => (ho.lt q hq).1)⟩
      case measure => simp [intOf]; omega
     ·have HZ := hJ (bytesV_drop bs n ▸ Row.map_ (k := n) (H.out.ext hx) (by rw [bytesV_len]; exact hc) hcn)
      go_wp2_with fail
      refine (int_len _ _ _ (bs.drop n) _ HZ.out (by rw [List.length_drop]; omega) (by simp only [List.length_drop]; try omega)).mono ?_
      rintro e' w' ⟨rfl, rfl⟩
      unfold retI
      generalize decI (bs.drop n) = r at *
      go_wp2_with (first
       | (at_builtin; refine push_int rfl (.tmp 39) (.tmp 41) rfl _ w.heap.size _ l (by rfl) _ (by rfl) ho (by omega) hx.size ?_; intro v1 w1 ho1 hg1 hs1))
      go_roundw
      case rel => exact ⟨k + 1, n + r.2.1, l ++ [r.1], r.2.2, by omega, hfit, by simp; omega, by go_num, rfl, by go_num, HMN, ho1, hg1.below hx hx.size (fun q hq => (ho.lt q hq).1)⟩
      case measure => simp [intOf]; omega
    ·have HD := hJ (HM.out.done hlt)
     go_wp2; go_ret3
     exact gives_l HD.out rfl ho hx
   ·have hb : (e == 0) = false := by simpa using he
    have hb' : (e != 0) = true := by simpa using he
    have HD := hJ (HM.out.fail he)
    clear he; go_wp2; go_ret3
    exact gives_l HD.out rfl (Own.nil _ _ _) hx
 ·have HF : Hid (decL bs m = ([], 0, (decN bs m).2.2)) := by unfold Hid decL; rw [if_pos he]
  have hb : ((decN bs m).2.2 == 0) = false := by simpa using he
  have hb' : ((decN bs m).2.2 != 0) = true := by simpa using he
  clear he; go_enter Tryz.func233, Tryz.ntmps233
  go_wp2_with fail
  refine (length_any A c bs m w H.out hl (by omega)).mono ?_
  rintro e w' ⟨rfl, rfl⟩
  unfold retI
  go_wp2; refine wp_loop_rounds 1 ?_
  rw [rounds_succ]
  go_wp2; go_ret3
  exact gives_l HF.out rfl (Own.nil _ _ _) (Ext.refl _)
set_option maxRecDepth 100000 in
theorem intList_any (A : Option Addr) (c : Nat) (bs : List UInt8) (m : Nat) (w : World) (h : Row w A (bytesV bs)) (hc : bs.length ≤ c) (hl : bs.length ≤ 1000000000) (hm : m ≤ 100000) :
  Calls Tryz.prog 225 #[.slice A bs.length c, .int .i64 (m : Int)] w (GivesL w (decL bs m)) := by
 have H := hJ h; clear h
 go_enter Tryz.func225, Tryz.ntmps225
 go_wp2_with fail
 refine (list_any A c bs m w H.out hc hl hm).mono ?_
 rintro e w1 ⟨A1, c1, rfl, hc1, hm1, ho1, hx1⟩
 go_wp2; go_ret3
 exact ⟨A1, c1, rfl, hc1, hm1, ho1, hx1⟩
end Go.Proofs.YtponbabbabnaeaaGreat
namespace Go.Proofs.YtponbabbabnaeaaGreat
open Go.RowKit
end Go.Proofs.YtponbabbabnaeaaGreat
namespace Go.Proofs.YtponbabbabnaeaaGreat
open Go.RowKit
theorem intList_len (A : Option Addr) (c n : Nat) (bs : List UInt8) (m : Nat) (w : World) (h : Row w A (bytesV bs)) (hc : bs.length ≤ c) (hl : bs.length ≤ 1000000000) (hm : m ≤ 100000) (hn : n = bs.length) :
  Calls Tryz.prog 225 #[.slice A n c, .int .i64 (m : Int)] w (GivesL w (decL bs m)) := by subst hn; exact intList_any A c bs m w h hc hl hm
theorem validMembers_still (A : Option Addr) (c : Nat) (xs : List Int) (w : World) (h : Row w A (ints xs)) (hn : xs.length ≤ 9223372036854775807) (b : Bool) (hb : idsB xs 16 = b) :
  Calls Tryz.prog 155 #[.slice A xs.length c] w fun e w' => e = .returned (.bool b) ∧ Still w w' := by
 subst hb; exact (validMembers_any A c xs w h hn).mono fun e w' ⟨h1, h2⟩ => ⟨h1, h2 ▸ Still.refl _⟩
def GivesD (w : World) (r : Int × List Int × Nat × Int) (en : Ending) (w' : World) : Prop :=
 ∃ A c, en = .returned (.tuple #[.agg #[.int .i64 r.1, .slice A r.2.1.length c], .int .i64 (r.2.2.1 : Int), .int .i64 r.2.2.2]) ∧ r.2.1.length ≤ c ∧ c ≤ maxLen ∧ Own w' w.heap.size 3 (.slice A r.2.1.length c) (ints r.2.1) ∧ Ext w w'
theorem gives_d {w w' : World} {r : Int × List Int × Nat × Int} {num : Int} {l : List Int} {n : Nat} {k e : Int} {v : Value} (hr : r = (num, l, n, e)) (hk : k = (n : Int)) (h : Own w' w.heap.size 3 v (ints l)) (x : Ext w w') : GivesD w r (.returned (.tuple #[.agg #[.int .i64 num, v], .int .i64 k, .int .i64 e])) w' := by
 subst hr hk
 have hl : (ints l).length = l.length := by simp [ints]
 obtain ⟨A, c, hv, h1, h2, _⟩ := h.slice
 rw [hl] at hv h1
 subst hv
 exact ⟨A, c, rfl, h1, h2, h, x⟩
theorem Ext.view_new {w w1 : World} (h : Ext (w.alloc (.cells #[.int .i64 0, .slice none 0 0] 46)) w1) :
  w1.cell? ⟨w.heap.size, 0, none⟩ = some (.int .i64 0) ∧ w1.cell? ⟨w.heap.size, 1, none⟩ = some (.slice none 0 0) ∧ w1.frozen? ⟨w.heap.size, 0, none⟩ = false ∧ w1.frozen? ⟨w.heap.size, 1, none⟩ = false ∧ w.heap.size + 1 ≤ w1.heap.size :=
 ⟨by simpa using h.cell_new 0, by simpa using h.cell_new 1, h.frozen_new 0, h.frozen_new 1, by have := h.size; simp at this; omega⟩
theorem Row.tail {w : World} {A : Option Addr} {bs : List UInt8} {c n : Nat} (h : Row w A (bytesV bs)) (hc : bs.length ≤ c) (hcn : ¬ c = n) : Row w (A.map (·.add n)) (bytesV (bs.drop n)) :=
 bytesV_drop bs n ▸ Row.map_ (k := n) h (by rw [bytesV_len]; exact hc) hcn
theorem Row.empty {w : World} {A : Option Addr} {bs : List UInt8} {n : Nat} (h : bs.length ≤ n) : Row w A (bytesV (bs.drop n)) :=
 bytesV_drop bs n ▸ Row.past (w := w) (A := A) (xs := bytesV bs) (k := n) (by rw [bytesV_len]; exact h)
section
variable {bs : List UInt8}
theorem decV_1 (h : (decU bs).2.2 ≠ 0) : decV bs = (0, [], 0, (decU bs).2.2) := by unfold decV; rw [if_pos h]
theorem decV_2 (h : (decU bs).2.2 = 0) (h2 : 1099511627776 < (decU bs).1) : decV bs = (0, [], 0, 3) := by unfold decV; rw [if_neg (by simpa using h), if_pos h2]
theorem decV_3 (h : (decU bs).2.2 = 0) (h2 : ¬ 1099511627776 < (decU bs).1) (h3 : (decL (bs.drop (decU bs).2.1) 16).2.2 ≠ 0) : decV bs = (0, [], 0, (decL (bs.drop (decU bs).2.1) 16).2.2) := by unfold decV; rw [if_neg (by simpa using h), if_neg h2, if_pos h3]
theorem decV_4 (h : (decU bs).2.2 = 0) (h2 : ¬ 1099511627776 < (decU bs).1) (h3 : (decL (bs.drop (decU bs).2.1) 16).2.2 = 0) (h4 : idsB (decL (bs.drop (decU bs).2.1) 16).1 16 = false) : decV bs = (0, [], 0, 3) := by
 unfold decV; rw [if_neg (by simpa using h), if_neg h2, if_neg (by simpa using h3), if_pos h4]
theorem decV_5 (h : (decU bs).2.2 = 0) (h2 : ¬ 1099511627776 < (decU bs).1) (h3 : (decL (bs.drop (decU bs).2.1) 16).2.2 = 0) (h4 : idsB (decL (bs.drop (decU bs).2.1) 16).1 16 = true) : decV bs = (((decU bs).1 : Int), (decL (bs.drop (decU bs).2.1) 16).1, (decU bs).2.1 + (decL (bs.drop (decU bs).2.1) 16).2.1, 0) := by
 unfold decV; rw [if_neg (by simpa using h), if_neg h2, if_neg (by simpa using h3), if_neg (by simp [h4])]
end
theorem readL_len (bs : List UInt8) : ∀ (c : Nat) (l : List Int) (n : Nat), n ≤ bs.length → (readL bs c l n).1.length ≤ l.length + c ∧ (readL bs c l n).2.1 ≤ bs.length := by
 intro c
 induction c with
 | zero => intro l n hn; exact ⟨by simp [readL], hn⟩
 | succ c ih =>
  intro l n hn
  by_cases h : (decI (bs.drop n)).2.2 = 0
  ·rw [readL_step h]
   have h1 := decI_in (bs.drop n)
   rw [List.length_drop] at h1
   have := ih (l ++ [(decI (bs.drop n)).1]) (n + (decI (bs.drop n)).2.1) (by omega)
   simp only [List.length_append, List.length_cons, List.length_nil] at this
   omega
  ·rw [readL_fail h]; simp
theorem decL_in (bs : List UInt8) (m : Nat) : (decL bs m).1.length ≤ m ∧ (decL bs m).2.1 ≤ bs.length := by
 unfold decL
 split
 ·simp
 ·have h := decN_in bs m
  have := readL_len bs (decN bs m).1 [] (decN bs m).2.1 h.2
  simp at this
  omega
set_option maxRecDepth 100000 in
set_option maxHeartbeats 1000000 in
theorem decode_any (A : Option Addr) (c : Nat) (bs : List UInt8) (w : World) (h : Row w A (bytesV bs)) (hc : bs.length ≤ c) (hl : bs.length ≤ 1000000) :
  Calls Tryz.prog 210 #[.slice A bs.length c] w (GivesD w (decV bs)) := by
 have H0 := hJ (Ext.new w (.cells #[.int .i64 0, .slice none 0 0] 46))
 have H := hJ (h.ext H0.out); clear h
 have hin := (decU_in bs).2.1
 obtain ⟨q0, q1, q2, q3, q4⟩ := Ext.view_new (Ext.refl (w.alloc (.cells #[.int .i64 0, .slice none 0 0] 46)))
 by_cases he : (decU bs).2.2 = 0
 ·have hb : ((decU bs).2.2 != 0) = false := by simpa using he
  have HE := hJ he; clear he
  by_cases hg : 1099511627776 < (decU bs).1
  ·have HF := hJ (decV_2 HE.out hg)
   clear q0 q1 q2 q3 q4; go_enter Tryz.func210, Tryz.ntmps210
   go_wp2_with fail
   refine (uint_any A c bs _ H.out (by omega)).mono ?_
   rintro e w' ⟨rfl, rfl⟩
   unfold retU
   go_wp2; exact bodyPost_ret (v := .tuple #[.agg #[.int .i64 0, .slice none 0 0], .int .i64 0, .int .i64 3]) (by simp [results, Tryz.results210, go_sem]) rfl (gives_d HF.out rfl (Own.nil _ _ _) H0.out)
  ·have HG := hJ hg
   have hle : (decU bs).1 ≤ 1099511627776 := by omega
   clear hg; have hli := decL_in (bs.drop (decU bs).2.1) 16
   rw [List.length_drop] at hli
   have HV := hJ (show ∀ w1 : World, Ext (w.alloc (.cells #[.int .i64 0, .slice none 0 0] 46)) w1 → True from fun _ _ => trivial)
   clear q0 q1 q2 q3 q4; go_enter Tryz.func210, Tryz.ntmps210
   go_wp2_with fail
   refine (uint_any A c bs _ H.out (by omega)).mono ?_
   rintro e w' ⟨rfl, rfl⟩
   unfold retU
   have hdg : decide (1099511627776 < (decU bs).1) = false := by simp; omega
   have key : ∀ (A' : Option Addr) (n' c' : Nat), n' = (bs.drop (decU bs).2.1).length → n' ≤ c' → Row (w.alloc (.cells #[.int .i64 0, .slice none 0 0] 46)) A' (bytesV (bs.drop (decU bs).2.1)) →
     Calls Tryz.prog 225 #[.slice A' n' c', .int .i64 16] (w.alloc (.cells #[.int .i64 0, .slice none 0 0] 46)) (GivesL (w.alloc (.cells #[.int .i64 0, .slice none 0 0] 46)) (decL (bs.drop (decU bs).2.1) 16)) :=
    fun A' n' c' h1 h2 h3 => intList_len A' c' n' (bs.drop (decU bs).2.1) 16 _ h3 (by omega) (by rw [List.length_drop]; omega) (by omega) h1
   have KEY := hJ key
   clear key; have HT := hJ (show ¬ c = (decU bs).2.1 → Row (w.alloc (.cells #[.int .i64 0, .slice none 0 0] 46)) (A.map (·.add (decU bs).2.1)) (bytesV (bs.drop (decU bs).2.1)) from fun h => Row.tail H.out hc h)
   have HT0 := hJ (show c = (decU bs).2.1 → ∀ A', Row (w.alloc (.cells #[.int .i64 0, .slice none 0 0] 46)) A' (bytesV (bs.drop (decU bs).2.1)) from fun h A' => Row.empty (by omega))
   have H3 := hJ (fun h => decV_3 HE.out HG.out h)
   have H4 := hJ (fun h h' => decV_4 HE.out HG.out h h')
   have H5 := hJ (fun h h' => decV_5 HE.out HG.out h h')
   rw [HE.out] at hb ⊢
   clear HE HG HV; have HTL := hJ (show (bs.drop (decU bs).2.1).length = bs.length - (decU bs).2.1 from List.length_drop)
   generalize hR : decL (bs.drop (decU bs).2.1) 16 = R at *
   clear hR; generalize (decU bs).1 = num at *
   generalize bs.drop (decU bs).2.1 = tl at *
   generalize (decU bs).2.1 = used at *
   by_cases hcn : c = used
   ·have HZ := hJ (HT0.out hcn)
    obtain rfl : used = c := hcn.symm
    clear HT HT0; go_wp2_with fail
    refine (KEY.out _ _ _ (by have := HTL.out; omega) (by omega) (HZ.out _)).mono ?_
    rintro e w1 ⟨A1, c1, rfl, hc1, hm1, ho1, hx1⟩
    have HX1 := hJ hx1
    clear hx1; obtain ⟨q0, q1, q2, q3, q4⟩ := Ext.view_new HX1.out
    by_cases hf : R.2.2 = 0
    ·have hbf : (R.2.2 != 0) = false := by simpa using hf
     have HF0 := hJ hf
     clear hf; cases hv : idsB R.1 16
     ·have HF := hJ (H4.out HF0.out hv)
      have HVM := hJ hv
      clear hv; go_wp2_with fail
      refine (validMembers_still _ _ _ _ ho1.row (by omega) false HVM.out).mono ?_
      rintro e w2 ⟨rfl, hs2⟩
      have HX2 := hJ (HX1.out.trans hs2.ext)
      clear hs2 q0 q1 q2 q3 q4; obtain ⟨q0, q1, q2, q3, q4⟩ := Ext.view_new HX2.out
      go_wp2; exact bodyPost_ret (v := .tuple #[.agg #[.int .i64 0, .slice none 0 0], .int .i64 0, .int .i64 3]) (by simp [results, Tryz.results210, go_sem, q0, q1]) rfl (gives_d HF.out rfl (Own.nil _ _ _) (((H0.out.trans HX2.out).set (by simp) _).set (by simp) _))
     ·have HF := hJ (H5.out HF0.out hv)
      have HVM := hJ hv
      clear hv; go_wp2_with fail
      refine (validMembers_still _ _ _ _ ho1.row (by omega) true HVM.out).mono ?_
      rintro e w2 ⟨rfl, hs2⟩
      have HX2 := hJ (HX1.out.trans hs2.ext)
      have HO2 := hJ (ho1.ext hs2.ext)
      clear hs2 q0 q1 q2 q3 q4; obtain ⟨q0, q1, q2, q3, q4⟩ := Ext.view_new HX2.out
      go_wp2; refine bodyPost_ret (v := .tuple #[.agg #[.int .i64 (num : Int), .slice A1 R.1.length c1], .int .i64 ((used : Int) + (R.2.1 : Int)), .int .i64 0]) (by simp [results, Tryz.results210, go_sem, q0, q1]) rfl (gives_d HF.out (by omega) (Own.set (Own.set (HO2.out.base (by simp)) ?_ _) ?_ _) (((H0.out.trans HX2.out).set (by simp) _).set (by simp) _))
      ·intro k hk; have := (HO2.out.lt k hk).1; simp at this ⊢; omega
      ·intro k hk; have := (HO2.out.lt k hk).1; simp at this ⊢; omega
    ·have hbf : (R.2.2 != 0) = true := by simpa using hf
     have HF := hJ (H3.out hf)
     clear hf; go_wp2; exact bodyPost_ret (v := .tuple #[.agg #[.int .i64 0, .slice none 0 0], .int .i64 0, .int .i64 R.2.2]) (by simp [results, Tryz.results210, go_sem, q0, q1]) rfl (gives_d HF.out rfl (Own.nil _ _ _) (((H0.out.trans HX1.out).set (by simp) _).set (by simp) _))
   ·have HZ := hJ (HT.out hcn)
    clear HT HT0; go_wp2_with fail
    refine (KEY.out _ _ _ (by have := HTL.out; omega) (by omega) HZ.out).mono ?_
    rintro e w1 ⟨A1, c1, rfl, hc1, hm1, ho1, hx1⟩
    have HX1 := hJ hx1
    clear hx1; obtain ⟨q0, q1, q2, q3, q4⟩ := Ext.view_new HX1.out
    by_cases hf : R.2.2 = 0
    ·have hbf : (R.2.2 != 0) = false := by simpa using hf
     have HF0 := hJ hf
     clear hf; cases hv : idsB R.1 16
     ·have HF := hJ (H4.out HF0.out hv)
      have HVM := hJ hv
      clear hv; go_wp2_with fail
      refine (validMembers_still _ _ _ _ ho1.row (by omega) false HVM.out).mono ?_
      rintro e w2 ⟨rfl, hs2⟩
      have HX2 := hJ (HX1.out.trans hs2.ext)
      clear hs2 q0 q1 q2 q3 q4; obtain ⟨q0, q1, q2, q3, q4⟩ := Ext.view_new HX2.out
      go_wp2; exact bodyPost_ret (v := .tuple #[.agg #[.int .i64 0, .slice none 0 0], .int .i64 0, .int .i64 3]) (by simp [results, Tryz.results210, go_sem, q0, q1]) rfl (gives_d HF.out rfl (Own.nil _ _ _) (((H0.out.trans HX2.out).set (by simp) _).set (by simp) _))
     ·have HF := hJ (H5.out HF0.out hv)
      have HVM := hJ hv
      clear hv; go_wp2_with fail
      refine (validMembers_still _ _ _ _ ho1.row (by omega) true HVM.out).mono ?_
      rintro e w2 ⟨rfl, hs2⟩
      have HX2 := hJ (HX1.out.trans hs2.ext)
      have HO2 := hJ (ho1.ext hs2.ext)
      clear hs2 q0 q1 q2 q3 q4; obtain ⟨q0, q1, q2, q3, q4⟩ := Ext.view_new HX2.out
      go_wp2; refine bodyPost_ret (v := .tuple #[.agg #[.int .i64 (num : Int), .slice A1 R.1.length c1], .int .i64 ((used : Int) + (R.2.1 : Int)), .int .i64 0]) (by simp [results, Tryz.results210, go_sem, q0, q1]) rfl (gives_d HF.out (by omega) (Own.set (Own.set (HO2.out.base (by simp)) ?_ _) ?_ _) (((H0.out.trans HX2.out).set (by simp) _).set (by simp) _))
      ·intro k hk; have := (HO2.out.lt k hk).1; simp at this ⊢; omega
      ·intro k hk; have := (HO2.out.lt k hk).1; simp at this ⊢; omega
    ·have hbf : (R.2.2 != 0) = true := by simpa using hf
     have HF := hJ (H3.out hf)
     clear hf; go_wp2; exact bodyPost_ret (v := .tuple #[.agg #[.int .i64 0, .slice none 0 0], .int .i64 0, .int .i64 R.2.2]) (by simp [results, Tryz.results210, go_sem, q0, q1]) rfl (gives_d HF.out rfl (Own.nil _ _ _) (((H0.out.trans HX1.out).set (by simp) _).set (by simp) _))
 ·have hb : ((decU bs).2.2 != 0) = true := by simpa using he
  have HF := hJ (decV_1 he)
  clear he q0 q1 q2 q3 q4; go_enter Tryz.func210, Tryz.ntmps210
  go_wp2_with fail
  refine (uint_any A c bs _ H.out (by omega)).mono ?_
  rintro e w' ⟨rfl, rfl⟩
  unfold retU
  go_wp2; exact bodyPost_ret (v := .tuple #[.agg #[.int .i64 0, .slice none 0 0], .int .i64 0, .int .i64 (decU bs).2.2]) (by simp [results, Tryz.results210, go_sem]) rfl (gives_d HF.out rfl (Own.nil _ _ _) H0.out)
end Go.Proofs.YtponbabbabnaeaaGreat
namespace Go.Proofs.YtponbabbabnaeaaGreat
open Go.RowKit
end Go.Proofs.YtponbabbabnaeaaGreat
namespace Go.Proofs.YtponbabbabnaeaaGreat
open Go.RowKit
theorem num_u64 {num : Int} {xs : List Int} (h : validB num xs = true) : num.toNat < U64 := by
 have := validB_num h; unfold U64; omega
theorem GivesB.from {a w w' : World} {bs : List UInt8} {en : Ending} (e : Ext a w) (h : GivesB w bs en w') : GivesB a bs en w' := by
 obtain ⟨A, c, h1, h2, h3, h4, h5⟩ := h
 exact ⟨A, c, h1, h2, h3, h4.base e.size, e.trans h5⟩
set_option maxRecDepth 100000 in
theorem encode_any (num : Int) (A : Option Addr) (c : Nat) (xs : List Int) (w : World) (h : Row w A (ints xs)) (hn : xs.length ≤ 9223372036854775807) :
  Calls Tryz.prog 158 #[.agg #[.int .i64 num, .slice A xs.length c]] w (GivesB w (encV num xs)) := by
 have H0 := hJ (Ext.new w (.cells #[.int .i64 num, .slice A xs.length c] 46))
 have HX := hJ (h.ext H0.out)
 clear h; by_cases hv : validB num xs = true
 ·have HE := hJ (encV_yes hv)
  have HV := hJ hv
  have hnum := validB_num hv
  have hl1 : xs.length ≤ 16 := (validB_len hv).2
  clear hv; obtain ⟨k, hk⟩ : ∃ k : Nat, num = (k : Int) := ⟨num.toNat, by omega⟩
  subst hk
  have hwl : IntKind.u64.wrap (k : Int) = (k : Int) := u64_nat (by have := num_u64 HV.out; simpa using this)
  have hwl' := hJ (show k < U64 by have := num_u64 HV.out; simpa using this)
  go_enter Tryz.func158, Tryz.ntmps158
  go_wp2_with fail
  refine (valid_yes _ _ _ _ _ HX.out hn HV.out).mono ?_
  rintro e w1 ⟨rfl, hx1⟩
  have q0 : w1.cell? ⟨w.heap.size, 0, none⟩ = some (.int .i64 k) := by simpa using hx1.cell_new 0
  have q1 : w1.cell? ⟨w.heap.size, 1, none⟩ = some (.slice A xs.length c) := by simpa using hx1.cell_new 1
  have q2 : w.heap.size + 1 ≤ w1.heap.size := by have := hx1.size; simp at this; omega
  have HX1 := hJ (HX.out.ext hx1)
  have H1 := hJ (H0.out.trans hx1)
  clear hx1; go_wp2; go_region_held3 (fun w' => w'.cell? ⟨w.heap.size, 0, none⟩ = some (.int .i64 k) ∧ w'.cell? ⟨w.heap.size, 1, none⟩ = some (.slice A xs.length c))
   (first | go_keep | (go_split_ands; refine ⟨?_, ?_⟩ <;> first | (rw [hx3.cell (by simp; omega)]; assumption) | (rw [hx2.cell (by simp; omega)]; assumption)))
   (first
    | (go_at_call 123; refine (appendUint_any none 0 [] k _ (by exact Row.nil _ _) (by simp) hwl').mono ?_; rintro e w2 ⟨A2, c2, rfl, hc2, hm2, ho2, hx2⟩; have s2 : w1.heap.size ≤ w2.heap.size := hx2.size; have HX2 := hJ (Row.ext (w := w1.drew) HX1.out hx2))
    | (go_at_call 193; refine (appendInts_any _ _ _ _ _ _ _ (by exact ho2.row) (by exact HX2.out) (by have := encU_len10 hwl'.out; simp; omega) (by omega) (valid_i64 HV.out)).mono ?_; rintro e w3 ⟨A3, c3, rfl, hc3, hm3, ho3, hx3⟩))
  go_wp2; go_ret
  exact GivesB.from (Ext.drew H1.out |>.trans hx2) (gives_b (by rw [HE.out]; simpa using ho3) hx3)
 ·have hv' : validB num xs = false := by simpa using hv
  have HE := hJ (encV_no hv')
  have HV := hJ hv'
  clear hv hv'; go_enter Tryz.func158, Tryz.ntmps158
  go_wp2_with fail
  refine (valid_no _ _ _ _ _ HX.out hn HV.out).mono ?_
  rintro e w1 ⟨rfl, hx1⟩
  go_wp2; go_ret
  exact gives_b (by rw [HE.out]; exact Own.nil _ _ _) (H0.out.trans hx1)
end Go.Proofs.YtponbabbabnaeaaGreat
namespace Go.Proofs.YtponbabbabnaeaaGreat
open Go.RowKit
theorem ents_at {w : World} {A : Option Addr} {l : List Ent} {i : Nat} (h : Row w A (entE.cells l)) (hi : i < l.length) :
  ∃ b off e, A = some ⟨b, off, none⟩ ∧ b < w.heap.size ∧ w.cell? ⟨b, off + i * 4, none⟩ = some (.int .i64 (Ent.v e)) ∧ w.cell? ⟨b, off + i * 4 + 1, none⟩ = some (.int .i64 e.o) ∧ w.cell? ⟨b, off + i * 4 + 2, none⟩ = some (.int .i64 e.q) ∧ w.cell? ⟨b, off + i * 4 + 3, none⟩ = some (.string (strB e.p)) ∧ Hid (l[i]? = some e) := by
 obtain ⟨b, off, e, h1, h2, h3, _, h5⟩ := Elem.Box.at_ (E := entE) (w := w) (A := A) (l := l) ⟨h, fun a _ => ⟨trivial, fun r hr => by simp [entE] at hr⟩⟩ hi
 have h3' : ∀ j u, (entE.f e)[j]? = some u → w.cell? ⟨b, off + i * 4 + j, none⟩ = some u := h3.out
 exact ⟨b, off, e, h1, h2, by simpa using h3' 0 _ rfl, h3' 1 _ rfl, h3' 2 _ rfl, h3' 3 _ rfl, h5⟩
theorem views_at {w : World} {A : Option Addr} {l : List VwM} {i : Nat} (h : viewE.Box w A l) (hi : i < l.length) :
  ∃ b off n X cx xs, A = some ⟨b, off, none⟩ ∧ b < w.heap.size ∧ w.cell? ⟨b, off + i * 2, none⟩ = some (.int .i64 n) ∧ w.cell? ⟨b, off + i * 2 + 1, none⟩ = some (.slice X (List.length xs) cx) ∧ Hid (Row w X (ints xs)) ∧ xs.length ≤ cx ∧ cx ≤ maxLen ∧ Hid (l[i]? = some ⟨n, X, cx, xs⟩) := by
 obtain ⟨b, off, v, h1, h2, h3, h4, h5⟩ := h.at_ hi
 have h3' : ∀ j u, (viewE.f v)[j]? = some u → w.cell? ⟨b, off + i * 2 + j, none⟩ = some u := h3.out
 exact ⟨b, off, v.n, v.A, v.c, v.xs, h1, h2, by simpa using h3' 0 _ rfl, h3' 1 _ rfl, hJ (h4.out.2 (v.A, ints v.xs) (by simp [viewE])), h4.out.1.1, h4.out.1.2, h5⟩
def vws (l : List VwM) : List Vw := l.map VwM.v
theorem vws_len (l : List VwM) : (vws l).length = l.length := by simp [vws]
theorem vws_at {l : List VwM} {i : Nat} {n : Int} {X : Option Addr} {cx : Nat} {xs : List Int} (h : l[i]? = some ⟨n, X, cx, xs⟩) : (vws l)[i]? = some (n, xs) := by simp [vws, h, VwM.v]
theorem identifier_any (n : Int) (w : World) : Calls Tryz.prog 71 #[.int .i64 n] w fun e w' => e = .returned (.bool (isId n)) ∧ w = w' := by
 by_cases h1 : 1 ≤ n
 ·have h1' : decide (1 ≤ n) = true := decide_eq_true h1
  go_enter Tryz.func71, Tryz.ntmps71
  go_wp2; go_ret
  exact ⟨ret_bool (by simp [isId, h1]), rfl⟩
 ·have h1' : decide (1 ≤ n) = false := decide_eq_false h1
  have H := hJ h1
  clear h1; go_enter Tryz.func71, Tryz.ntmps71
  go_wp2; go_ret
  exact ⟨ret_bool (by rw [isId, decide_eq_false (Int.not_le.2 H.out)]; rfl), rfl⟩
theorem own_step {l : List Ent} {k : Nat} {e : Ent} {o : Int} (h : l[k]? = some e) : ownN (l.take (k + 1)) o = ownN (l.take k) o + if e.o == o then 1 else 0 := by
 unfold ownN; rw [take_snoc h]; simp [List.countP_append, List.countP_cons]
theorem own_all {l : List Ent} {k : Nat} {o : Int} (h : ¬ k < l.length) : ownN (l.take k) o = ownN l o := by rw [List.take_of_length_le (by omega)]
theorem own_le (l : List Ent) (o : Int) : ownN l o ≤ l.length := List.countP_le_length
theorem own_take (l : List Ent) (k : Nat) (o : Int) : ownN (l.take k) o ≤ k := Nat.le_trans (own_le _ _) (by simp; omega)
set_option maxRecDepth 100000 in
theorem own_any (A : Option Addr) (c : Nat) (l : List Ent) (o : Int) (w : World) (h : Row w A (entE.cells l)) (hn : l.length ≤ 1000000000) :
  Calls Tryz.prog 91 #[.slice A l.length c, .int .i64 o] w fun e w' => e = .returned (.int .i64 (ownN l o)) ∧ Ext w w' := by
 have H := hJ h; clear h
 go_enter Tryz.func91, Tryz.ntmps91
 go_wp2; go_loopw [5, 10] (fun n i wr => ∃ k : Nat, k ≤ l.length ∧ i = .int .i64 k ∧ n = .int .i64 (ownN (l.take k) o) ∧ Ext w wr) (fun _ i _ => l.length - (intOf i).toNat)
 case atStart => exact ⟨0, Nat.zero_le _, rfl, rfl, Ext.refl _⟩
 case round =>
  obtain ⟨k, hk, rfl, rfl, HS0⟩ := hrel
  have HS := hJ HS0; clear HS0
  by_cases hlt : k < l.length
  ·obtain ⟨b, off, e, rfl, hb, c0, c1, c2, c3, HX⟩ := ents_at (H.out.ext HS.out) hlt
   have HT := hJ (own_step (o := o) HX.out)
   have hv := own_take l k o
   generalize ownN (l.take k) o = n at *
   cases hb : e.o == o
   ·have HB := hJ hb
    go_wp2; go_roundw
    case rel => exact ⟨k + 1, by omega, by go_num, by rw [HT.out]; simp [HB.out], HS.out.alloc _⟩
    case measure => simp [intOf]; omega
   ·have HB := hJ hb
    go_wp2; go_roundw
    case rel => exact ⟨k + 1, by omega, by go_num, by rw [HT.out]; simp [HB.out], HS.out.alloc _⟩
    case measure => simp [intOf]; omega
  ·go_wp2
   go_ret
   exact ⟨ret_int (congrArg Nat.cast (own_all hlt)), HS.out⟩
def GivesVw (w : World) (v : Vw) (en : Ending) (w' : World) : Prop :=
 ∃ A c, en = .returned (.agg #[.int .i64 v.1, .slice A v.2.length c]) ∧ v.2.length ≤ c ∧ c ≤ maxLen ∧ Hid (Row w' A (ints v.2)) ∧ Ext w w'
theorem gives_vw {w w' : World} {v : Vw} {n : Int} {A : Option Addr} {c : Nat} {xs : List Int} (hv : v = (n, xs)) (h1 : xs.length ≤ c) (h2 : c ≤ maxLen) (hr : Row w' A (ints xs)) (e : Ext w w') : GivesVw w v (.returned (.agg #[.int .i64 n, .slice A xs.length c])) w' := by
 subst hv; exact ⟨A, c, rfl, h1, h2, hJ hr, e⟩
theorem lastV_at {l : List Vw} {j : Nat} {v : Vw} (hj : l.length = j + 1) (h : l[j]? = some v) : lastV l = v := by
 unfold lastV vwAt; rw [hj, Nat.add_sub_cancel, h]; rfl
set_option maxRecDepth 100000 in
theorem last_any (A : Option Addr) (c : Nat) (l : List VwM) (w : World) (h : viewE.Box w A l) (hp : 0 < l.length) (hn : l.length ≤ 1000000000) :
  Calls Tryz.prog 49 #[.slice A l.length c] w (GivesVw w (lastV (vws l))) := by
 obtain ⟨j, hj⟩ : ∃ j, l.length = j + 1 := ⟨l.length - 1, by omega⟩
 obtain ⟨b, off, n, X, cx, xs, rfl, hb, c0, c1, HR, h1, h2, HX⟩ := views_at h (show j < l.length by omega)
 have HL := hJ (lastV_at (by rw [vws_len]; exact hj) (vws_at HX.out))
 have hw1 : IntKind.i64.wrap ((l.length : Int) - 1) = (j : Int) := by rw [IntWalk.i64_in _ (by omega)]; omega
 have k1 : (0 : Int) ≤ (j : Int) := by omega
 have k2 : (j : Int) < (l.length : Int) := by omega
 have k3 : j < l.length := by omega
 clear hj h; go_enter Tryz.func49, Tryz.ntmps49
 go_wp2; refine bodyPost_ret (v := .agg #[.int .i64 n, .slice X xs.length cx]) (by simp [results, Tryz.results49, go_sem]) rfl (gives_vw HL.out h1 h2 (HR.out.ext (Ext.new _ _)) (Ext.new _ _))
end Go.Proofs.YtponbabbabnaeaaGreat
namespace Go.Proofs.YtponbabbabnaeaaGreat
open Go.RowKit
def GivesVN (w : World) (v : Vw) (en : Ending) (w' : World) : Prop :=
 ∃ A c, en = .returned (.agg #[.int .i64 v.1, .slice A v.2.length c]) ∧ v.2.length ≤ c ∧ c ≤ maxLen ∧ Hid (Row w' A (ints v.2)) ∧ Hid (∀ p, ints v.2 ≠ [] → A = some p → w.heap.size ≤ p.block) ∧ Ext w w'
theorem own_new {w' : World} {B : Nat} {A : Option Addr} {n c : Nat} {vs : List Value} {α : Type} {E : Elem α} {l : List α} (h : E.Own w' B (.slice A n c) l) : ∀ p, vs ≠ [] → A = some p → B ≤ p.block := by
 intro p _ hp
 subst hp
 exact (h.lt p.block rfl).1
theorem Elem.Own.set_other {α : Type} {E : Elem α} {w : World} {B : Nat} {v : Value} {l : List α} (h : E.Own w B v l) {p : Addr} (hp : ∀ k, v.ownBlock = some k → k ≠ p.block) (u : Value) : E.Own (w.setCell p u) B v l :=
 h.keep fun k hk _ => Below.heap_setCell _ _ _ _ (hp k hk)
set_option maxRecDepth 100000 in
theorem cloneView_any (n : Int) (A : Option Addr) (c : Nat) (xs : List Int) (w : World) (h : Row w A (ints xs)) (hn : xs.length ≤ 1000000) :
  Calls Tryz.prog 86 #[.agg #[.int .i64 n, .slice A xs.length c]] w (GivesVN w (n, xs)) := by
 have H0 := hJ ((Ext.new w (.cells #[.int .i64 n, .slice A xs.length c] 46)).alloc (.cells #[.int .i64 0, .slice none 0 0] 46))
 have HX : Hid (intE.Box (((w.alloc (.cells #[.int .i64 n, .slice A xs.length c] 46)).alloc (.cells #[.int .i64 0, .slice none 0 0] 46)).drew) A xs) := hJ ⟨by rw [intE_cells]; exact h.ext H0.out.drew, fun a _ => ⟨trivial, fun r hr => by simp [intE] at hr⟩⟩
 clear h; go_enter Tryz.func86, Tryz.ntmps86
 go_wp2; go_region_held3 (fun w' => w'.cell? ⟨w.heap.size, 0, none⟩ = some (.int .i64 n) ∧ w'.cell? ⟨w.heap.size, 1, none⟩ = some (.slice A xs.length c))
  (first | (go_keep; done) | exact ⟨r0, r1⟩ | exact ⟨t0, t1⟩)
  (first
   | (go_at_call 157; (with_reducible refine (clone_ints A c xs _ (by exact HX.out) hn).mono ?_); rintro e v1 ⟨A1, c1, rfl, h1, h2, ho1, hx1⟩; have X1 := hJ (Ext.trans H0.out.drew hx1); have HO := hJ ho1; have y1 : w.heap.size + 1 < v1.heap.size := (by have := hx1.size; simp at this; omega); have r0 : v1.cell? ⟨w.heap.size, 0, none⟩ = some (.int .i64 n) := (by rw [hx1.cell (by simp <;> omega)]; simp); have r1 : v1.cell? ⟨w.heap.size, 1, none⟩ = some (.slice A xs.length c) := (by rw [hx1.cell (by simp <;> omega)]; simp); have fz : v1.frozen? ⟨w.heap.size + 1, 0, none⟩ = false := (by rw [hx1.frozen (by simp)]; simp); have fz1 : v1.frozen? ⟨w.heap.size + 1, 1, none⟩ = false := (by rw [hx1.frozen (by simp)]; simp); have k0 : v1.cell? ⟨w.heap.size + 1, 0, none⟩ = some (.int .i64 0) := (by rw [hx1.cell (by simp)]; simp); have k1 : v1.cell? ⟨w.heap.size + 1, 1, none⟩ = some (.slice none 0 0) := (by rw [hx1.cell (by simp)]; simp); clear ho1 hx1))
 have HO2 := hJ ((HO.out.1.set_other (p := ⟨w.heap.size + 1, 0, none⟩) (fun k hk => by have := (HO.out.1.lt k hk).1; simp at this; simp only; omega) (.int .i64 n)).set_other (p := ⟨w.heap.size + 1, 1, none⟩) (fun k hk => by have := (HO.out.1.lt k hk).1; simp at this; simp only; omega) (.slice A1 xs.length c1))
 have X2 := hJ ((X1.out.set (p := ⟨w.heap.size + 1, 0, none⟩) (by simp) (.int .i64 n)).set (p := ⟨w.heap.size + 1, 1, none⟩) (by simp) (.slice A1 xs.length c1))
 have HN := hJ (own_new (vs := ints xs) HO.out.1)
 clear HO X1 HX H0 r0 r1; go_wp2; refine bodyPost_ret (v := .agg #[.int .i64 n, .slice A1 xs.length c1]) (by simp [results, Tryz.results86, go_sem, k0, k1]) rfl ?_
 exact ⟨A1, c1, rfl, h1, h2, hJ (by have := HO2.out.row; rwa [intE_cells] at this), hJ (fun p hp hA => by have := HN.out p hp hA; simp at this; omega), X2.out⟩
end Go.Proofs.YtponbabbabnaeaaGreat
namespace Go.Proofs.YtponbabbabnaeaaGreat
open Go.RowKit
def entV (e : Ent) : Value := .agg #[.int .i64 e.v, .int .i64 e.o, .int .i64 e.q, .string (strB e.p)]
set_option maxRecDepth 100000 in
theorem viewEntry_any (n : Int) (A : Option Addr) (c : Nat) (xs : List Int) (w : World) (h : Row w A (ints xs)) (hn : xs.length ≤ 9223372036854775807) :
  Calls Tryz.prog 87 #[.agg #[.int .i64 n, .slice A xs.length c]] w fun e w' => e = .returned (entV (viewEnt n xs)) ∧ Ext w w' := by
 have H0 := hJ ((Ext.new w (.cells #[.int .i64 n, .slice A xs.length c] 46)).alloc (.cells #[.int .i64 0, .int .i64 0, .int .i64 0, .string { data := #[] }] 66))
 have HX := hJ (h.ext H0.out.drew)
 clear h; go_enter Tryz.func87, Tryz.ntmps87
 go_wp2; go_region_held (fun w' => w'.cell? ⟨w.heap.size, 0, none⟩ = some (.int .i64 n) ∧ w'.cell? ⟨w.heap.size, 1, none⟩ = some (.slice A xs.length c))
  (first | (go_keep; done) | exact ⟨r0, r1⟩)
  (first
   | (go_at_call 158; (with_reducible refine (encode_any n A c xs _ (by exact HX.out) hn).mono ?_); rintro e v1 ⟨A1, c1, rfl, h1, h2, ho1, hx1⟩; have X1 := hJ (Ext.trans H0.out.drew hx1); have hcv := conv_bytes c1 _ ho1.row rfl; have y1 : w.heap.size + 1 < v1.heap.size := (by have := hx1.size; simp at this; omega); have r0 : v1.cell? ⟨w.heap.size, 0, none⟩ = some (.int .i64 n) := (by rw [hx1.cell (by simp <;> omega)]; simp); have r1 : v1.cell? ⟨w.heap.size, 1, none⟩ = some (.slice A xs.length c) := (by rw [hx1.cell (by simp <;> omega)]; simp); have f0 : v1.frozen? ⟨w.heap.size + 1, 0, none⟩ = false := (by rw [hx1.frozen (by simp)]; simp); have f1 : v1.frozen? ⟨w.heap.size + 1, 1, none⟩ = false := (by rw [hx1.frozen (by simp)]; simp); have f2 : v1.frozen? ⟨w.heap.size + 1, 2, none⟩ = false := (by rw [hx1.frozen (by simp)]; simp); have f3 : v1.frozen? ⟨w.heap.size + 1, 3, none⟩ = false := (by rw [hx1.frozen (by simp)]; simp); have k0 : v1.cell? ⟨w.heap.size + 1, 0, none⟩ = some (.int .i64 0) := (by rw [hx1.cell (by simp)]; simp); have k1 : v1.cell? ⟨w.heap.size + 1, 1, none⟩ = some (.int .i64 0) := (by rw [hx1.cell (by simp)]; simp); have k2 : v1.cell? ⟨w.heap.size + 1, 2, none⟩ = some (.int .i64 0) := (by rw [hx1.cell (by simp)]; simp); have k3 : v1.cell? ⟨w.heap.size + 1, 3, none⟩ = some (.string { data := #[] }) := (by rw [hx1.cell (by simp)]; simp); clear ho1 hx1))
 have X2 := hJ ((((X1.out.set (p := ⟨w.heap.size + 1, 0, none⟩) (by simp) (.int .i64 n)).set (p := ⟨w.heap.size + 1, 1, none⟩) (by simp) (.int .i64 0)).set (p := ⟨w.heap.size + 1, 2, none⟩) (by simp) (.int .i64 n)).set (p := ⟨w.heap.size + 1, 3, none⟩) (by simp) (.string (strB (encV n xs))))
 clear X1 HX H0 r0 r1 hcv; go_wp2; exact bodyPost_ret (v := entV (viewEnt n xs)) (by simp [results, Tryz.results87, go_sem, k0, k1, k2, k3, entV, viewEnt]) rfl ⟨rfl, X2.out⟩
end Go.Proofs.YtponbabbabnaeaaGreat
namespace Go.Proofs.YtponbabbabnaeaaGreat
theorem still_tail_drew {P : Program} {id : Nat} {Q : Exit → Act → World → Prop} {a : Act} {w : World} {l : List Oper} (n : Nat) (hm : P.follows .mixedOrders = true) (hB : Region.lexTailB .any l.toArray n = true)
  (h : wpStill P l.toArray w.drew (fun a' => wpList P l.toArray Q (l.drop n) a' w.drew) (l.take n) a) : (Code.region id l.toArray true).wp P Q a w := wp_region_still_tail n hm hB h
theorem wpS_take {P : Program} {ops : Array Oper} {w : World} {Q : Act → Prop} {o : Oper} {rest : List Oper} {a : Act} {v : Value} (hw : Region.wanted o (yielded ops a.tmps) = true) (hv : (execOp a.eval o).run P w = .ok (.value v) w)
  (h : wpStill P ops w Q rest (a.put o.dst v)) : wpStill P ops w Q (o :: rest) a := by
 unfold wpStill; rw [if_pos hw]; unfold Oper.still; rw [hv]; exact ⟨rfl, h⟩
end Go.Proofs.YtponbabbabnaeaaGreat
