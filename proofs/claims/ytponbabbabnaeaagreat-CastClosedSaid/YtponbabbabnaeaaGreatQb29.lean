/- Part 29 of the proof: contracts of functions that the statement reaches. Conditions: as each theorem says. -/
import Derived.Test.YtponbabbabnaeaaGreatQb01
import Derived.Test.YtponbabbabnaeaaGreatQb21
namespace Go.Proofs.YtponbabbabnaeaaGreat
open Go.RowKit
set_option maxRecDepth 100000 in
theorem tick1_any (fm fb : Int) (A : Option Addr) (c n : Nat) (pv p : Nat) (self : Int) (w : World) (hv : w.cell? ⟨pv, 0, none⟩ = some (.pointer (some ⟨p, 0, none⟩))) (hs : w.cell? ⟨p, 0, none⟩ = some (.int .i64 self)) (hpv : pv < w.heap.size) (hp : p < w.heap.size) :
  Calls Tryz.prog 54 #[.agg #[.int .i64 fm, .int .i64 fb, .slice A n c], .pointer (some ⟨pv, 0, none⟩)] w fun e w' => e = .returned (.bool (fm == self)) ∧ Ext w w' := by
 have E0 : Hid (Ext w (w.alloc (.cells #[.int .i64 fm, .int .i64 fb, .slice A n c] 80))) := hJ (Ext.new _ _)
 have hv' : (w.alloc (.cells #[.int .i64 fm, .int .i64 fb, .slice A n c] 80)).drew.cell? ⟨pv, 0, none⟩ = some (.pointer (some ⟨p, 0, none⟩)) := by rw [E0.out.drew.cell (by exact hpv)]; exact hv
 have hs' : (w.alloc (.cells #[.int .i64 fm, .int .i64 fb, .slice A n c] 80)).drew.cell? ⟨p, 0, none⟩ = some (.int .i64 self) := by rw [E0.out.drew.cell (by exact hp)]; exact hs
 have B0 : Hid (BIs (w.alloc (.cells #[.int .i64 fm, .int .i64 fb, .slice A n c] 80)).drew w.heap.size #[.int .i64 fm, .int .i64 fb, .slice A n c] 80) := hJ ((BIs.new _ _ _).ext Ext.drew1)
 go_enter Tryz.func54, Tryz.ntmps54
 go_upto_region 1 with fail
 refine E_begin 9 (fun w' => w'.cell? ⟨w.heap.size, 0, none⟩ = some (.int .i64 fm) ∧ w'.cell? ⟨pv, 0, none⟩ = some (.pointer (some ⟨p, 0, none⟩)) ∧ w'.cell? ⟨p, 0, none⟩ = some (.int .i64 self)) (by kernel_rfl) ⟨B0.out.cell 0, hv', hs'⟩ (fun hHeld => ?_)
 refine E_t 0 4 ?_; refine E_t 1 5 ?_; refine E_t 2 6 ?_; refine E_t 3 7 ?_; refine E_t 4 8 ?_; refine E_t 5 9 ?_; refine E_t 6 10 ?_; refine E_t 7 11 ?_; refine E_t 8 3 ?_; refine E_end (by kernel_rfl) (by rfl) ?_
 go_wp2; go_ret
 exact ⟨rfl, E0.out.drew⟩
set_option maxRecDepth 100000 in
set_option maxHeartbeats 1000000 in
theorem indexFl_any (Af : Option Addr) (cf : Nat) (fls : List FlM) (pv p : Nat) (self : Int) (w : World) (h : flE.Box w Af fls) (hn : fls.length ≤ 1000000) (hv : w.cell? ⟨pv, 0, none⟩ = some (.pointer (some ⟨p, 0, none⟩))) (hs : w.cell? ⟨p, 0, none⟩ = some (.int .i64 self)) (hpv : pv < w.heap.size) (hp : p < w.heap.size) :
  Calls Tryz.prog 126 #[.slice Af fls.length cf, .func (.func 54) #[] #[.pointer (some ⟨pv, 0, none⟩)]] w fun e w' => ∃ r : Int, e = .returned (.int .i64 r) ∧ Hid (decide (0 ≤ r) = fls.any fun f => f.m == self) ∧ Ext w w' := by
 have eg := enters_of Tryz.func54 (by kernel_rfl) rfl
 have H := hJ h
 clear h; go_enter Tryz.func126, Tryz.ntmps126
 go_wp2; go_loopw [8] (fun i wr => ∃ k : Nat, k ≤ fls.length ∧ i = .int .i64 (k : Int) ∧ Hid (∀ i y, i < k → fls[i]? = some y → (y.m == self) = false) ∧ Hid (Ext w wr)) (fun i _ => fls.length - (intOf i).toNat)
 case atStart => exact ⟨0, Nat.zero_le _, rfl, hJ (fun i y hi => absurd hi (Nat.not_lt_zero _)), hJ (Ext.refl _)⟩
 case round =>
  obtain ⟨k, hk, rfl, HK, HX⟩ := hrel
  by_cases hlt : k < fls.length
  ·obtain ⟨bb, off, f, rfl, hb, c0, c1, c2, HFR, HF⟩ := fls_at (H.out.ext HX.out) hlt
   have hv' : wr.cell? ⟨pv, 0, none⟩ = some (.pointer (some ⟨p, 0, none⟩)) := by rw [HX.out.cell (by exact hpv)]; exact hv
   have hs' : wr.cell? ⟨p, 0, none⟩ = some (.int .i64 self) := by rw [HX.out.cell (by exact hp)]; exact hs
   have hl1 : pv < wr.heap.size := Nat.lt_of_lt_of_le hpv HX.out.size
   have hl2 : p < wr.heap.size := Nat.lt_of_lt_of_le hp HX.out.size
   have hcall := tick1_any f.m f.b f.A f.c f.log.length pv p self wr hv' hs' hl1 hl2
   clear hv hs; cases hq : (f.m == self) with
   | true =>
    rw [hq] at hcall
    have HA : Hid ((fls.any fun f => f.m == self) = true) := hJ (List.any_eq_true.2 ⟨f, List.mem_of_getElem? HF.out, hq⟩)
    go_wp2_with fail
    refine hcall.mono ?_
    rintro e w' ⟨rfl, hb'⟩
    go_wp2; go_ret
    exact ⟨_, rfl, hJ (by rw [HA.out]; simp), HX.out.trans hb'⟩
   | false =>
    rw [hq] at hcall
    have HK' : Hid (∀ i y, i < k + 1 → fls[i]? = some y → (y.m == self) = false) := hJ (fun i y hi hy => by
     rcases Nat.lt_or_ge i k with h1 | h1
     ·exact HK.out i y h1 hy
     ·have : i = k := by omega
      subst this
      rw [HF.out] at hy; cases hy; exact hq)
    go_wp2_with fail
    refine hcall.mono ?_
    rintro e w' ⟨rfl, hb'⟩
    go_wp2; go_roundw
    case rel => exact ⟨k + 1, by omega, by go_num, HK', hJ (HX.out.trans hb')⟩
    case measure => simp [intOf]; omega
  ·have HA : Hid ((fls.any fun f => f.m == self) = false) := hJ (by
    rw [List.any_eq_false]; intro f hf
    obtain ⟨i, hi, rfl⟩ := List.mem_iff_getElem.1 hf
    rw [HK.out i _ (by omega) (List.getElem?_eq_getElem hi)]; simp)
   go_wp2; go_ret
   exact ⟨_, rfl, hJ (by rw [HA.out]; rfl), HX.out⟩
set_option maxRecDepth 100000 in
theorem containsFl_any (Af : Option Addr) (cf : Nat) (fls : List FlM) (pv p : Nat) (self : Int) (w : World) (h : flE.Box w Af fls) (hn : fls.length ≤ 1000000) (hv : w.cell? ⟨pv, 0, none⟩ = some (.pointer (some ⟨p, 0, none⟩))) (hs : w.cell? ⟨p, 0, none⟩ = some (.int .i64 self)) (hpv : pv < w.heap.size) (hp : p < w.heap.size) :
  Calls Tryz.prog 53 #[.slice Af fls.length cf, .func (.func 54) #[] #[.pointer (some ⟨pv, 0, none⟩)]] w fun e w' => e = .returned (.bool (fls.any fun f => f.m == self)) ∧ Ext w w' := by
 have H := hJ h; have HV := hJ hv; have HS := hJ hs
 clear h hv hs; go_enter Tryz.func53, Tryz.ntmps53
 go_wp2_with fail
 refine (indexFl_any Af cf fls pv p self w H.out hn HV.out HS.out hpv hp).mono ?_
 rintro e w1 ⟨r, rfl, hr, hx⟩
 have hge : (decide (r ≥ 0)) = decide (0 ≤ r) := rfl
 go_wp2; go_ret
 exact ⟨ret_bool (by rw [← hr.out]), hx⟩
end Go.Proofs.YtponbabbabnaeaaGreat
