/- For every input the statement VoteOnce returns true and leaves its arguments as they were. Conditions: none. -/
import Derived.Test.YtagmocofmedmjaaCuts
import Derived.Test.YtagmocofmedmjaaPlain7
import Derived.Test.YtagmocofmedmjaaRowKit8
import Derived.Deep.RegionHeld3
namespace Go.Proofs.Ytagmocofmedmjaa.voteOnce
open Go.RowKit

theorem rem_nat (a n : Nat) : Int.tmod (a : Int) (n : Int) = ((a % n : Nat) : Int) := rfl

set_option maxRecDepth 100000 in
set_option maxHeartbeats 8000000 in
theorem walk0 (num : Int) (A P Q : Option Addr) (c cp cq : Nat) (xs : List Int) (ps qs : List UInt8) (w : World) (hx : Row w A (ints xs)) (hc : xs.length ≤ c) (hcm : c ≤ maxLen) (hp : Row w P (bytesV ps)) (hq : Row w Q (bytesV qs))
    (hn : c ≤ 9223372036854775807) (hnp : ps.length ≤ 9223372036854775807) (hnq : qs.length ≤ 9223372036854775807) :
    Calls Try.prog 8 #[.agg #[.int .i64 num, .slice A xs.length c], .slice P ps.length cp, .slice Q qs.length cq] w fun e w' => e = .returned (.bool true) ∧ Ext w w' := by
  have H0 := Lib.hid (Ext.new w (.cells #[.int .i64 num, .slice A xs.length c] 36))
  have HX := Lib.hid (hx.ext H0.out); have HP := Lib.hid (hp.ext H0.out); have HQ := Lib.hid (hq.ext H0.out)
  clear hx hp hq
  go_enter Try.func8, Try.ntmps8
  go_wp2_with fail
  refine (awake8_any _).mono ?_
  rintro e w1 ⟨rfl, hx1⟩
  have X1 := Lib.hid hx1; clear hx1
  have q0 : w1.cell? ⟨w.heap.size, 0, none⟩ = some (.int .i64 num) := by simpa using X1.out.cell_new 0
  have q1 : w1.cell? ⟨w.heap.size, 1, none⟩ = some (.slice A xs.length c) := by simpa using X1.out.cell_new 1
  go_wp2_with fail
  refine (cuts_any num A c xs _ (HX.out.ext X1.out) hc hcm hn).mono ?_
  rintro e w2 ⟨Ac, cc, cs, rfl, hcc, hccm, hcs3, HCU, hx2⟩
  have X2 := Lib.hid (X1.out.trans hx2)
  clear hx2 q0 q1 X1
  have q0 : w2.cell? ⟨w.heap.size, 0, none⟩ = some (.int .i64 num) := by simpa using X2.out.cell_new 0
  have q1 : w2.cell? ⟨w.heap.size, 1, none⟩ = some (.slice A xs.length c) := by simpa using X2.out.cell_new 1
  go_wp2_with fail
  refine (rvalid_any num A c xs _ (HX.out.ext X2.out) (by omega)).mono ?_
  clear q0 q1
  cases hv : validB num xs
  · clear hv
    rintro e w3 ⟨rfl, hx3⟩
    have X3 := Lib.hid (X2.out.trans hx3); clear hx3
    go_wp2
    go_ret
    exact ⟨ret_bool rfl, H0.out.trans X3.out⟩
  rintro e w3 ⟨rfl, hx3⟩
  have HV := Lib.hid hv; clear hv
  have hvl := validB_len HV.out
  have X3 := Lib.hid (X2.out.trans hx3)
  have HCU3 := Lib.hid (HCU.out.ext hx3)
  clear hx3 X2 HCU
  have q0 : w3.cell? ⟨w.heap.size, 0, none⟩ = some (.int .i64 num) := by simpa using X3.out.cell_new 0
  have q1 : w3.cell? ⟨w.heap.size, 1, none⟩ = some (.slice A xs.length c) := by simpa using X3.out.cell_new 1
  by_cases h1 : cs.length = 0
  · have h1' : ((cs.length : Int) == 0) = true := by simp [h1]
    clear h1
    go_wp2
    go_ret
    exact ⟨ret_bool rfl, H0.out.trans X3.out⟩
  have h1' : ((cs.length : Int) == 0) = false := beq_eq_false_iff_ne.2 (by omega)
  have hcs1 : 0 < cs.length := by omega
  clear h1
  by_cases h2 : 40 < ps.length
  · go_wp2
    go_ret
    exact ⟨ret_bool rfl, H0.out.trans X3.out⟩
  have h2' : ¬ 40 < ps.length := h2
  clear h2
  by_cases h3 : qs.length < ps.length
  · go_wp2
    go_ret
    exact ⟨ret_bool rfl, H0.out.trans X3.out⟩
  have h3' : ¬ qs.length < ps.length := h3
  clear h3
  have HX3 := Lib.hid (HX.out.ext X3.out); have HP3 := Lib.hid (HP.out.ext X3.out); have HQ3 := Lib.hid (HQ.out.ext X3.out)
  have z3 : w.heap.size < w3.heap.size := by have := X3.out.size; simp at this; omega
  clear HX HP HQ
  go_wp2
  go_loopw [8, 9, 10, 11] (fun v u d i wr => ∃ (k : Nat) (bs : List Bal) (B : Option Addr) (cb : Nat) (wn : List Int) (Aw : Option Addr) (cw : Nat) (dd : Bool), k ≤ ps.length ∧ i = .int .i64 k ∧ v = .slice B bs.length cb ∧ u = .slice Aw wn.length cw ∧ d = .bool dd ∧ Hid (OnceSt num xs (prs bs) wn dd) ∧ Hid (Box wr B bs) ∧ Hid (Row wr Aw (ints wn)) ∧ Ext w3 wr) (fun _ _ _ i _ => ps.length - (intOf i).toNat)
  case atStart => exact ⟨0, [], none, 0, [], none, 0, false, Nat.zero_le _, rfl, rfl, rfl, rfl, Lib.hid (once_zero HV.out), Lib.hid (Box.nil _ _), Lib.hid (Row.nil _ _), Ext.refl _⟩
  case round =>
    obtain ⟨k, bs, B, cb, wn, Aw, cw, dd, hk, rfl, rfl, rfl, rfl, HST, HBX, HWN, HS0⟩ := hrel
    have HS := Lib.hid HS0; clear HS0
    have hbl : bs.length ≤ 1000 := by have := box_16 HST.out.1; rw [prs_len] at this; omega
    have p0 : wr.cell? ⟨w.heap.size, 0, none⟩ = some (.int .i64 num) := by rw [HS.out.cell (by exact z3)]; exact q0
    have p1 : wr.cell? ⟨w.heap.size, 1, none⟩ = some (.slice A xs.length c) := by rw [HS.out.cell (by exact z3)]; exact q1
    have zr : w.heap.size < wr.heap.size := Nat.lt_of_lt_of_le z3 HS.out.size
    by_cases hlt : k < ps.length
    · obtain ⟨bp, op, a, hP, pa, _⟩ := (HP3.out.ext HS.out).byte hlt
      obtain ⟨bq, oq, a2, hQ, qa, _⟩ := (HQ3.out.ext HS.out).byte (show k < qs.length by omega)
      have hj1 : a.toNat % xs.length < xs.length := Nat.mod_lt _ (by omega)
      have hj2 : a2.toNat % cs.length < cs.length := Nat.mod_lt _ hcs1
      have e1 := rem_nat a.toNat xs.length
      have e2 := rem_nat a2.toNat cs.length
      generalize a.toNat % xs.length = j1 at *
      generalize a2.toNat % cs.length = j2 at *
      obtain ⟨bx, ox, m, hA, xa, HMX⟩ := (HX3.out.ext HS.out).at_ hj1
      obtain ⟨bc, oc, X, cx, ct, hAc, zc, ca, HR, hl1, hl2, HAP⟩ := (HCU3.out.ext HS.out).at_ hj2
      subst hP hQ hA hAc
      have k1 : (0 : Int) ≤ (j1 : Int) := by omega
      have k2 : (j1 : Int) < (xs.length : Int) := by omega
      have k3 : (0 : Int) ≤ (j2 : Int) := by omega
      have k4 : (j2 : Int) < (cs.length : Int) := by omega
      have k5 : k < qs.length := by omega
      have n1 : ¬ (xs.length : Int) = 0 := by omega
      have n2 : ¬ (cs.length : Int) = 0 := by omega
      have n3 : ¬ xs = [] := fun h => by rw [h] at hvl; simp at hvl
      have n4 : ¬ cs = [] := fun h => by rw [h] at hcs1; simp at hcs1
      have hwa : IntKind.i64.wrap (a.toNat : Int) = (a.toNat : Int) := IntWalk.i64_in _ (by have := a.toNat_lt; omega)
      have hwa2 : IntKind.i64.wrap (a2.toNat : Int) = (a2.toNat : Int) := IntWalk.i64_in _ (by have := a2.toNat_lt; omega)
      have zp := World.block_lt_of_cell? wr _ pa
      have zq := World.block_lt_of_cell? wr _ qa
      have zx := World.block_lt_of_cell? wr _ xa
      go_wp2
      go_region_held (fun w' => w'.cell? ⟨w.heap.size, 1, none⟩ = some (.slice (some ⟨bx, ox, none⟩) xs.length c) ∧ w'.cell? ⟨bp, op + k, none⟩ = some (.int .u8 (a.toNat : Int)) ∧ w'.cell? ⟨bq, oq + k, none⟩ = some (.int .u8 (a2.toNat : Int)) ∧ w'.cell? ⟨bx, ox + j1, none⟩ = some (.int .i64 m) ∧ w'.cell? ⟨bc, oc + j2, none⟩ = some (.slice X ct.length cx))
        (go_keep)
        (fail)
      have E5 := Lib.hid ((Ext.new wr (.cells #[.int .i64 m, .slice X ct.length cx] 44)).drew)
      have HMM := Lib.hid (List.mem_of_getElem? HMX.out)
      have HCA := Lib.hid (once_cast HST.out HMM.out HAP.out)
      have S5 := Lib.hid (HS.out.trans E5.out)
      go_wp2_with fail
      refine (cast_any num m (some ⟨bx, ox, none⟩) B X c cb cx xs ct bs _ (HX3.out.ext S5.out) (HBX.out.ext E5.out) (HR.out.ext E5.out) hl2 hl1 (by omega) hbl).mono ?_
      clear pa qa xa ca zp zq zx zc p0 p1 e1 e2 k1 k2 k3 k4 n1 n2 n3 n4 hwa hwa2 hj1 hj2 E5 HR HAP HMM HMX
      rcases HCA.out with hca | ⟨hca, hbi⟩
      · rw [hca]
        clear hca HCA
        rintro e w6 ⟨A6, c6, bs6, rfl, _, _, _, _, hx6⟩
        have S6 := Lib.hid (S5.out.trans hx6)
        have HB6 := Lib.hid ((HBX.out.ext (Ext.drew (Ext.new _ _))).ext hx6); have HW6 := Lib.hid ((HWN.out.ext (Ext.drew (Ext.new _ _))).ext hx6)
        clear hx6 S5
        go_wp2
        go_roundw
        case rel => exact ⟨k + 1, bs, B, cb, wn, Aw, cw, dd, by omega, by go_num, rfl, rfl, rfl, HST, HB6, HW6, S6.out⟩
        case measure => simp [intOf] <;> omega
      · rw [hca]
        have HBI := Lib.hid hbi
        clear hca HCA hbi
        rintro e w6 ⟨A6, c6, bs6, rfl, _, _, HP60, HB6, hx6⟩
        have HP6 : Hid (prs bs6 = insP (prs bs) m ct) := Lib.hid HP60.out
        clear HP60
        have S6 := Lib.hid (S5.out.trans hx6)
        have HW6 := Lib.hid ((HWN.out.ext (Ext.drew (Ext.new _ _))).ext hx6)
        clear hx6 S5 HBX HWN
        have hl6 : bs6.length ≤ 1000 := by have := box_16 HBI.out; rw [← HP6.out, prs_len] at this; omega
        have V0 : w6.cell? ⟨w.heap.size, 0, none⟩ = some (.int .i64 num) := by rw [S6.out.cell (by exact z3)]; exact q0
        have V1 : w6.cell? ⟨w.heap.size, 1, none⟩ = some (.slice (some ⟨bx, ox, none⟩) xs.length c) := by rw [S6.out.cell (by exact z3)]; exact q1
        go_wp2_with fail
        refine (winner_any num (some ⟨bx, ox, none⟩) A6 c c6 xs bs6 _ (HX3.out.ext S6.out) HB6.out (by omega) hl6).mono ?_
        clear V0 V1
        rw [HP6.out]
        cases hw : winF num xs (insP (prs bs) m ct) with
        | none =>
          obtain ⟨hwn, hst⟩ := once_none HST.out HBI.out hw
          subst hwn
          have HN := Lib.hid hst
          clear hst hw
          rintro e w7 ⟨A7, c7, rfl, _, _, _, hx7⟩
          simp only [Option.getD_none, Option.isSome_none, List.length_nil]
          have S7 := Lib.hid (S6.out.trans hx7); have HB7 := Lib.hid (HB6.out.ext hx7); have HW7 := Lib.hid (HW6.out.ext hx7)
          clear hx7 S6 HB6 HW6
          have V0 : w7.cell? ⟨w.heap.size, 0, none⟩ = some (.int .i64 num) := by rw [S7.out.cell (by exact z3)]; exact q0
          have V1 : w7.cell? ⟨w.heap.size, 1, none⟩ = some (.slice (some ⟨bx, ox, none⟩) xs.length c) := by rw [S7.out.cell (by exact z3)]; exact q1
          cases dd
          · go_wp2_with fail
            refine (undecidable_any num (some ⟨bx, ox, none⟩) A6 c c6 xs bs6 _ (HX3.out.ext S7.out) HB7.out (by omega) hl6).mono ?_
            rw [HP6.out]
            rintro e w8 ⟨rfl, hx8⟩
            have S8 := Lib.hid (S7.out.trans hx8); have HB8 := Lib.hid (HB7.out.ext hx8); have HW8 := Lib.hid (HW7.out.ext hx8)
            clear hx8 S7 HB7 HW7 V0 V1
            go_wp2
            go_roundw
            case rel => exact ⟨k + 1, bs6, A6, c6, [], Aw, cw, undF num xs (insP (prs bs) m ct), by omega, by go_num, rfl, rfl, rfl, Lib.hid (by rw [HP6.out]; exact HN.out), HB8, HW8, S8.out⟩
            case measure => simp [intOf] <;> omega
          · go_wp2
            go_roundw
            case rel => exact ⟨k + 1, bs6, A6, c6, [], Aw, cw, true, by omega, by go_num, rfl, rfl, rfl, Lib.hid (by rw [HP6.out]; exact HN.out), HB7, HW7, S7.out⟩
            case measure => simp [intOf] <;> omega
        | some ws =>
          obtain ⟨hdd, hor, hne, hund, hst⟩ := once_some HST.out HBI.out hw
          subst hdd
          have HN := Lib.hid hst
          have HU := Lib.hid hund
          have hcp : 0 < ws.length := List.length_pos_iff.2 hne
          have hcz : ((ws.length : Int) == 0) = false := beq_eq_false_iff_ne.2 (by omega)
          have hwl : ws.length ≤ 9223372036854775807 := by
            obtain ⟨hb, ⟨p, hp, rfl⟩, _⟩ := win_some hw
            have := box_cuts hb p hp; omega
          clear hst hw hund
          rintro e w7 ⟨A7, c7, rfl, _, _, HR7, hx7⟩
          simp only [Option.getD_some, Option.isSome_some] at HR7 ⊢
          have S7 := Lib.hid (S6.out.trans hx7); have HB7 := Lib.hid (HB6.out.ext hx7); have HW7 := Lib.hid (HW6.out.ext hx7)
          clear hx7 S6 HB6 HW6
          have V0 : w7.cell? ⟨w.heap.size, 0, none⟩ = some (.int .i64 num) := by rw [S7.out.cell (by exact z3)]; exact q0
          have V1 : w7.cell? ⟨w.heap.size, 1, none⟩ = some (.slice (some ⟨bx, ox, none⟩) xs.length c) := by rw [S7.out.cell (by exact z3)]; exact q1
          rcases hor with rfl | rfl
          · go_wp2_with fail
            refine (undecidable_b num (some ⟨bx, ox, none⟩) A6 c c6 xs bs6 _ (HX3.out.ext S7.out) HB7.out (by omega) hl6 false (by rw [HP6.out]; exact HU.out)).mono ?_
            rintro e w8 ⟨rfl, hx8⟩
            have S8 := Lib.hid (S7.out.trans hx8); have HB8 := Lib.hid (HB7.out.ext hx8); have HR8 := Lib.hid (HR7.out.ext hx8)
            clear hx8 S7 HB7 HR7 HW7 V0 V1
            go_wp2
            go_roundw
            case rel => exact ⟨k + 1, bs6, A6, c6, ws, A7, c7, false, by omega, by go_num, rfl, rfl, rfl, Lib.hid (by rw [HP6.out]; exact HN.out), HB8, HR8, S8.out⟩
            case measure => simp [intOf] <;> omega
          · go_wp2_with fail
            refine (same8_b A7 Aw c7 cw wn wn _ HR7.out HW7.out hwl true (decide_eq_true rfl)).mono ?_
            rintro e w8 ⟨rfl, hx8⟩
            have S8 := Lib.hid (S7.out.trans hx8.ext); have HB8 := Lib.hid (HB7.out.ext hx8.ext); have HR8 := Lib.hid (HR7.out.ext hx8.ext)
            clear hx8 S7 HB7 HR7 HW7 V0 V1
            have V0 : w8.cell? ⟨w.heap.size, 0, none⟩ = some (.int .i64 num) := by rw [S8.out.cell (by exact z3)]; exact q0
            have V1 : w8.cell? ⟨w.heap.size, 1, none⟩ = some (.slice (some ⟨bx, ox, none⟩) xs.length c) := by rw [S8.out.cell (by exact z3)]; exact q1
            go_wp2_with fail
            refine (undecidable_b num (some ⟨bx, ox, none⟩) A6 c c6 xs bs6 _ (HX3.out.ext S8.out) HB8.out (by omega) hl6 false (by rw [HP6.out]; exact HU.out)).mono ?_
            rintro e w9 ⟨rfl, hx9⟩
            have S9 := Lib.hid (S8.out.trans hx9); have HB9 := Lib.hid (HB8.out.ext hx9); have HR9 := Lib.hid (HR8.out.ext hx9)
            clear hx9 S8 HB8 HR8 V0 V1
            go_wp2
            go_roundw
            case rel => exact ⟨k + 1, bs6, A6, c6, wn, A7, c7, false, by omega, by go_num, rfl, rfl, rfl, Lib.hid (by rw [HP6.out]; exact HN.out), HB9, HR9, S9.out⟩
            case measure => simp [intOf] <;> omega
    · have hble : bs.length ≤ xs.length := by have := box_len HST.out.1; rwa [prs_len] at this
      go_wp2_with fail
      refine (valid8_b num A B c cb xs bs _ (HX3.out.ext HS.out) HBX.out (by omega) hbl true HST.out.1).mono ?_
      rintro e w6 ⟨rfl, hx6⟩
      have S6 := Lib.hid (HS.out.trans hx6)
      clear hx6 p0 p1
      have p1 : w6.cell? ⟨w.heap.size, 1, none⟩ = some (.slice A xs.length c) := by rw [S6.out.cell (by exact z3)]; exact q1
      go_wp2
      go_ret
      exact ⟨ret_bool rfl, H0.out.trans (X3.out.trans S6.out)⟩

theorem walk (num : Int) (A : Option Addr) (c : Nat) (xs : List Int) {w : World} (_hi : I64 num) (hr : Row w A (ints xs)) (hc : xs.length ≤ c) (hm : c ≤ maxLen) (_hx : ∀ x ∈ xs, I64 x)
    (P : Option Addr) (cp : Nat) (ps : List UInt8) (hr2 : Row w P (bytesV ps)) (hc2 : ps.length ≤ cp) (hm2 : cp ≤ maxLen)
    (Q : Option Addr) (cq : Nat) (qs : List UInt8) (hr3 : Row w Q (bytesV qs)) (hc3 : qs.length ≤ cq) (hm3 : cq ≤ maxLen) (W : World) (hW : w = W) :
    Calls Try.prog 8 #[.agg #[.int .i64 num, .slice A xs.length c], .slice P ps.length cp, .slice Q qs.length cq] W fun e w' => e = .returned (.bool true) ∧ Ext W w' := by
  subst hW
  have h5 := hm
  unfold maxLen at h5 hm2 hm3
  exact walk0 num A P Q c cp cq xs ps qs w hr hc hm hr2 hr3 (by omega) (by omega) (by omega)


open Go.ChangeShapes Go.WideShapes Go.ChangeAt
set_option maxRecDepth 100000 in
theorem lifted (os : Os) (started : os.Started) (H : Type) (enc : TypeId × Value → H) :
    ReturnsInHanded {} Try.checked os 8 .any (Rows.voteOnceSpec.pre6 enc Try.prog Try.f8 Rows.voteOnceRow.domain false) (Rows.voteOnceSpec.post enc Try.prog Try.f8 false true false false) := by
  refine returnsInHanded_of_change (C := Try.checked) own started (by kernel_rfl) Try.func8
    (ChangeSpec.witness6 (enc := enc) (C := Try.checked) false ⟨#[], #[.agg #[.int .i64 0, .slice none 0 0], .slice none 0 0, .slice none 0 0], []⟩ 8 (by kernel_rfl) (by kernel_rfl) (by kernel_rfl) (by kernel_rfl)) ?_
  intro W base args ds gs before hval0 hW hcnd _
  have hval : ∀ (j : Nat) t v, Try.f8.params[j]? = some t → args[j]? = some v → Value.okWide Try.prog W .any base t v := hval0
  have hW' := hW
  obtain ⟨p, q, hA0, hV, rfl, hfz, hnd⟩ := hW
  have hA : DataW.TrodAll enc Try.prog W 0 (fun _ => true) true Try.f8.params.toList args.toList ds p := hA0
  rw [Try.params8] at hA hval
  obtain ⟨v0, vs0, d0, ds0, p0, q0, hargs, rfl, rfl, h0, r0⟩ := trodAll_cons hA
  obtain ⟨v1, vs1, d1, ds1, p1, q1, rfl, rfl, rfl, h1, r1⟩ := trodAll_cons r0
  obtain ⟨v2, vs2, d2, ds2, p2, q2, rfl, rfl, rfl, h2, r2⟩ := trodAll_cons r1
  obtain ⟨rfl, rfl, rfl⟩ := trodAll_nil r2
  obtain rfl : args = #[v0, v1, v2] := by cases args; simp_all
  obtain ⟨rfl, rfl⟩ := trodVars_none hV
  have lt0 : ∀ x ∈ p0, x.block < W.heap.size := by obtain ⟨m, hm⟩ := h0; exact DataW.trod_lt m _ _ _ hm
  have lt1 : ∀ x ∈ p1, x.block < W.heap.size := by obtain ⟨m, hm⟩ := h1; exact DataW.trod_lt m _ _ _ hm
  have lt2 : ∀ x ∈ p2, x.block < W.heap.size := by obtain ⟨m, hm⟩ := h2; exact DataW.trod_lt m _ _ _ hm
  obtain ⟨n0, A0, c0, x0, e0, hi0, hc0, hm0, hr0, hx0⟩ := argView (hval 0 36 v0 rfl rfl) h0
  obtain ⟨A1, c1, x1, e1, hc1, hm1, hr1⟩ := argBytes (hval 1 54 v1 rfl rfl) h1
  obtain ⟨A2, c2, x2, e2, hc2, hm2, hr2⟩ := argBytes (hval 2 54 v2 rfl rfl) h2
  clear hA0 hval0
  have wk := walk n0 A0 c0 x0 hi0 hr0 hc0 hm0 hx0 A1 c1 x1 hr1 hc1 hm1 A2 c2 x2 hr2 hc2 hm2 W rfl
  rw [← e0, ← e1, ← e2] at wk
  refine wk.mono fun e W' ⟨he, bel⟩ => ?_
  subst he
  exact ⟨_, rfl, _, _, _, [], _, [], hW', trodAll_mk1 (shut_bool Try.underlying4 _), (trodAll_cons_mk (Below.trod laidOut (by kernel_rfl) (of_decide_eq_true (by kernel_rfl)) h0 bel lt0) (trodAll_cons_mk (Below.trod laidOut (by kernel_rfl) (of_decide_eq_true (by kernel_rfl)) h1 bel lt1) (trodAll_cons_mk (Below.trod laidOut (by kernel_rfl) (of_decide_eq_true (by kernel_rfl)) h2 bel lt2) trodAll_mk0))), rfl, bel.frame _, fun h => by cases h⟩

theorem over : Rows.voteOnceRow.holds Try.pinned (OpenSpec.ofChange Rows.voteOnceSpec) :=
  OpenClaim.holds_of_wide 8 Try.f8 rfl rfl rfl rfl rfl rfl rfl ⟨rfl, rfl, rfl, rfl, rfl⟩ rfl rfl rfl rfl rfl (by kernel_rfl) Try.func8 (by kernel_rfl)
    (of_decide_eq_true (by kernel_rfl)) (by unfold Func.isWrapper; first | (rw [if_pos (by decide +kernel)]; kernel_rfl) | (rw [if_neg (by decide +kernel)]; exact ⟨rfl, rfl⟩))
    (fun os started H enc _ => lifted os started H enc)

/-- the statement -/
theorem proved : Rows.VoteOnceSaid := over
#print axioms proved

end Go.Proofs.Ytagmocofmedmjaa.voteOnce
