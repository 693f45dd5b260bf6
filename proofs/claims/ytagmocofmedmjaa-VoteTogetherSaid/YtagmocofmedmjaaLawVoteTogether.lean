/- For every input the statement VoteTogether returns true and leaves its arguments as they were. Conditions: none. -/
import Derived.Test.YtagmocofmedmjaaCuts
import Derived.Test.YtagmocofmedmjaaPlain7
import Derived.Test.YtagmocofmedmjaaRowKit8
import Derived.Deep.RegionHeld3
namespace Go.Proofs.Ytagmocofmedmjaa.voteTogether
open Go.RowKit

theorem argU8 {H : Type} {enc : TypeId × Value → H} {w : World} {base : Nat} {spare : Nat → Bool} {held : Bool} {r : Reach} {b0 : Nat} {v : Value} {d : DataW H} {p : List MemPlace} (hv : Value.okWide Try.prog w r b0 5 v) (h : DataW.Trod enc Try.prog w base spare held 5 v d p) : ∃ n, v = .int .u8 n ∧ 0 ≤ n ∧ n < 256 := by
  obtain ⟨n, rfl, _, _, h3⟩ := Go.ChangeShapes.open_int Try.underlying5 hv h
  have := bounds_u8 h3
  exact ⟨n, rfl, by omega, by omega⟩
theorem rem_nat (a n : Nat) : Int.tmod (a : Int) (n : Int) = ((a % n : Nat) : Int) := rfl
theorem rem_sum (a b n : Nat) : Int.tmod ((a : Int) + (b : Int)) (n : Int) = (((a + b) % n : Nat) : Int) := rfl
theorem quo_four {n : Nat} (h : 1 ≤ n) : Int.tdiv ((n : Int) - 1) 4 = ((n : Int) - 1) / 4 := Int.tdiv_eq_ediv_of_nonneg (by omega)

/-- Cast where the ballot is new -/
theorem cast_t (num m : Int) (A B Y : Option Addr) (c d cy : Nat) (xs ct : List Int) (bs : List Bal) (w : World) (hx : Row w A (ints xs)) (hb : Box w B bs) (hy : Row w Y (ints ct)) (hy2 : cy ≤ maxLen) (hy1 : ct.length ≤ cy)
    (hn : xs.length ≤ 9223372036854775807) (hm : bs.length ≤ 1000) (hr : castF num xs (prs bs) m ct = (insP (prs bs) m ct, 0)) :
    Calls Try.prog 33 #[.agg #[.int .i64 num, .slice A xs.length c], .slice B bs.length d, .agg #[.int .i64 m, .slice Y ct.length cy]] w fun e w' =>
      ∃ A2 c2 bs2, e = .returned (.tuple #[.slice A2 (List.length bs2) c2, .int .i64 0]) ∧ Hid (prs bs2 = insP (prs bs) m ct) ∧ Hid (Box w' A2 bs2) ∧ Ext w w' := by
  refine (cast_any num m A B Y c d cy xs ct bs w hx hb hy hy2 hy1 hn hm).mono ?_
  rw [hr]
  rintro e w' ⟨A2, c2, bs2, he, _, _, h1, h2, h3⟩
  exact ⟨A2, c2, bs2, he, h1, h2, h3⟩

set_option maxRecDepth 100000 in
set_option maxHeartbeats 8000000 in
theorem walk0 (num : Int) (A : Option Addr) (c s : Nat) (xs : List Int) (w : World) (hx : Row w A (ints xs)) (hc : xs.length ≤ c) (hcm : c ≤ maxLen) (hn : c ≤ 9223372036854775807) (hs : s < 256) :
    Calls Try.prog 9 #[.agg #[.int .i64 num, .slice A xs.length c], .int .u8 s] w fun e w' => e = .returned (.bool true) ∧ Ext w w' := by
  have H0 := Lib.hid (Ext.new w (.cells #[.int .i64 num, .slice A xs.length c] 36))
  have HX := Lib.hid (hx.ext H0.out)
  clear hx
  go_enter Try.func9, Try.ntmps9
  go_wp2_with fail
  refine (awake8_any _).mono ?_
  rintro e w1 ⟨rfl, hx1⟩
  have X1 := Lib.hid hx1; clear hx1
  have q0 : w1.cell? ⟨w.heap.size, 0, none⟩ = some (.int .i64 num) := by simpa using X1.out.cell_new 0
  have q1 : w1.cell? ⟨w.heap.size, 1, none⟩ = some (.slice A xs.length c) := by simpa using X1.out.cell_new 1
  go_wp2_with fail
  refine (cuts_any num A c xs _ (HX.out.ext X1.out) hc hcm hn).mono ?_
  rintro e w2 ⟨Ac, cc, cs, rfl, hcc, hccm, hcs3, HCU, hx2⟩
  have X2 := Lib.hid (X1.out.trans hx2)
  clear hx2 q0 q1 X1
  have q0 : w2.cell? ⟨w.heap.size, 0, none⟩ = some (.int .i64 num) := by simpa using X2.out.cell_new 0
  have q1 : w2.cell? ⟨w.heap.size, 1, none⟩ = some (.slice A xs.length c) := by simpa using X2.out.cell_new 1
  go_wp2_with fail
  refine (rvalid_any num A c xs _ (HX.out.ext X2.out) (by omega)).mono ?_
  clear q0 q1
  cases hv : validB num xs
  · clear hv
    rintro e w3 ⟨rfl, hx3⟩
    have X3 := Lib.hid (X2.out.trans hx3); clear hx3
    go_wp2
    go_ret
    exact ⟨ret_bool rfl, H0.out.trans X3.out⟩
  rintro e w3 ⟨rfl, hx3⟩
  have HV := Lib.hid hv; clear hv
  have hvl := validB_len HV.out
  have X3 := Lib.hid (X2.out.trans hx3)
  have HCU3 := Lib.hid (HCU.out.ext hx3)
  clear hx3 X2 HCU
  have q0 : w3.cell? ⟨w.heap.size, 0, none⟩ = some (.int .i64 num) := by simpa using X3.out.cell_new 0
  have q1 : w3.cell? ⟨w.heap.size, 1, none⟩ = some (.slice A xs.length c) := by simpa using X3.out.cell_new 1
  by_cases h1 : cs.length = 0
  · have h1' : ((cs.length : Int) == 0) = true := by simp [h1]
    clear h1
    go_wp2
    go_ret
    exact ⟨ret_bool rfl, H0.out.trans X3.out⟩
  have h1' : ((cs.length : Int) == 0) = false := beq_eq_false_iff_ne.2 (by omega)
  have hcs1 : 0 < cs.length := by omega
  clear h1
  have HX3 := Lib.hid (HX.out.ext X3.out)
  have z3 : w.heap.size < w3.heap.size := by have := X3.out.size; simp at this; omega
  clear HX
  have n4 : ¬ cs = [] := fun h => by rw [h] at hcs1; simp at hcs1
  have n3 : ¬ xs = [] := fun h => by rw [h] at hvl; simp at hvl
  have hws : IntKind.i64.wrap (s : Int) = (s : Int) := IntWalk.i64_in _ (by omega)
  have hj2 : s % cs.length < cs.length := Nat.mod_lt _ hcs1
  have e2 := rem_nat s cs.length
  generalize s % cs.length = j2 at *
  obtain ⟨bc, oc, X, cx, ct, hAc, zc, ca, HR, hl1, hl2, HAP⟩ := HCU3.out.at_ hj2
  subst hAc
  have k3 : (0 : Int) ≤ (j2 : Int) := by omega
  have k4 : (j2 : Int) < (cs.length : Int) := by omega
  have hctl : ct.length ≤ 9223372036854775807 := by have := appl_len HAP.out; omega
  obtain ⟨g, hg⟩ : ∃ g : Int, ((xs.length : Int) - 1) / 4 = g := ⟨_, rfl⟩
  have hg0 : 0 ≤ g ∧ g ≤ 4 := by omega
  have f1 : IntKind.i64.wrap ((xs.length : Int) - 1) = (xs.length : Int) - 1 := IntWalk.i64_in _ (by omega)
  have f2 : Int.tdiv ((xs.length : Int) - 1) 4 = g := by rw [quo_four (by omega), hg]
  have f2' : IntKind.i64.wrap g = g := IntWalk.i64_in _ (by omega)
  have f3 : IntKind.i64.wrap ((xs.length : Int) - g) = (xs.length : Int) - g := IntWalk.i64_in _ (by omega)
  have HF := Lib.hid (show fqZ xs.length = (xs.length : Int) - g from by rw [fq_mid hvl.1 hvl.2, hg])
  clear hg hcs3 hcc hccm
  go_wp2
  clear e2 k3 k4 ca zc HCU3 hj2
  go_loopw [8, 9] (fun v i wr => ∃ (k : Nat) (bs : List Bal) (B : Option Addr) (cb : Nat), k ≤ xs.length ∧ i = .int .i64 k ∧ v = .slice B bs.length cb ∧ Hid (TogSt num xs ct s k (prs bs)) ∧ Hid (Box wr B bs) ∧ Ext w3 wr) (fun _ i _ => xs.length - (intOf i).toNat)
  case atStart => exact ⟨0, [], none, 0, Nat.zero_le _, rfl, rfl, Lib.hid (tog_zero HV.out), Lib.hid (Box.nil _ _), Ext.refl _⟩
  case round =>
    obtain ⟨k, bs, B, cb, hk, rfl, rfl, HST, HBX, HS0⟩ := hrel
    have HS := Lib.hid HS0; clear HS0
    have hbl : bs.length ≤ 1000 := by have := box_16 HST.out.1; rw [prs_len] at this; omega
    have p0 : wr.cell? ⟨w.heap.size, 0, none⟩ = some (.int .i64 num) := by rw [HS.out.cell (by exact z3)]; exact q0
    have p1 : wr.cell? ⟨w.heap.size, 1, none⟩ = some (.slice A xs.length c) := by rw [HS.out.cell (by exact z3)]; exact q1
    by_cases hlt : k < xs.length
    · have hj1 : (k + s) % xs.length < xs.length := Nat.mod_lt _ (by omega)
      have e1 := rem_sum k s xs.length
      obtain ⟨j1, hj⟩ : ∃ j, (k + s) % xs.length = j := ⟨_, rfl⟩
      have HJ := Lib.hid hj
      rw [hj] at e1 hj1
      clear hj
      obtain ⟨bx, ox, m, hA, xa, HMX⟩ := (HX3.out.ext HS.out).at_ hj1
      subst hA
      have k1 : (0 : Int) ≤ (j1 : Int) := by omega
      have k2 : (j1 : Int) < (xs.length : Int) := by omega
      have hwk : IntKind.i64.wrap ((k : Int) + (s : Int)) = (k : Int) + (s : Int) := IntWalk.i64_in _ (by omega)
      have hw1 : IntKind.i64.wrap ((k : Int) + 1) = (k : Int) + 1 := IntWalk.i64_in _ (by omega)
      have HTS := Lib.hid (tog_step HST.out HAP.out hlt (by rw [HJ.out]; exact HMX.out))
      have RX5 := Lib.hid ((HX3.out.ext HS.out).ext (Ext.drew (Ext.refl _)))
      have RB5 := Lib.hid (HBX.out.ext (Ext.drew (Ext.refl _)))
      have RC5 := Lib.hid ((HR.out.ext HS.out).ext (Ext.drew (Ext.refl _)))
      have hxl : xs.length ≤ 9223372036854775807 := by omega
      have zx := World.block_lt_of_cell? wr _ xa
      have zr : w.heap.size < wr.heap.size := Nat.lt_of_lt_of_le z3 HS.out.size
      go_wp2
      go_region_held (fun w' => w'.cell? ⟨w.heap.size, 0, none⟩ = some (.int .i64 num) ∧ w'.cell? ⟨w.heap.size, 1, none⟩ = some (.slice (some ⟨bx, ox, none⟩) xs.length c) ∧ w'.cell? ⟨bx, ox + j1, none⟩ = some (.int .i64 m))
        (first | exact ⟨p0, p1, xa⟩ | exact ⟨r0, r1, r2⟩)
        (first
          | (go_at_call 33; (with_reducible refine (cast_t num m (some ⟨bx, ox, none⟩) B X c cb cx xs ct bs _ (by exact RX5.out) (by exact RB5.out) (by exact RC5.out) hl2 hl1 hxl hbl (by exact HTS.out.1)).mono ?_); rintro e w6 ⟨A6, c6, bs6, rfl, HP6, HB6, hx6⟩; have S6 := Lib.hid (HS.out.drew.trans hx6); have r0 : w6.cell? ⟨w.heap.size, 0, none⟩ = some (.int .i64 num) := (by rw [S6.out.cell (by exact z3)]; exact q0); have r1 : w6.cell? ⟨w.heap.size, 1, none⟩ = some (.slice (some ⟨bx, ox, none⟩) xs.length c) := (by rw [S6.out.cell (by exact z3)]; exact q1); have r2 : w6.cell? ⟨bx, ox + j1, none⟩ = some (.int .i64 m) := (by rw [hx6.cell (by exact zx)]; exact xa); clear hx6))
      clear p0 p1 xa k1 k2 hwk e1 hj1 zx r2 RX5 RB5 RC5 HBX
      have HTT : Hid (TogSt num xs ct s (k + 1) (prs bs6)) := Lib.hid (by rw [HP6.out]; exact HTS.out.2)
      have hl6 : bs6.length ≤ 1000 := by have := box_16 HTT.out.1; rw [prs_len] at this; omega
      clear HTS HP6
      go_wp2_with fail
      refine (winner_any num (some ⟨bx, ox, none⟩) A6 c c6 xs bs6 _ (HX3.out.ext S6.out) HB6.out hxl hl6).mono ?_
      rw [tog_win HTT.out (by omega), HF.out]
      clear r0 r1
      by_cases hq : (xs.length : Int) - g ≤ ((k + 1 : Nat) : Int)
      · rw [if_pos hq]
        have hq' : decide ((xs.length : Int) - g ≤ (k : Int) + 1) = true := decide_eq_true (by omega)
        clear hq
        rintro e w7 ⟨A7, c7, rfl, _, _, HR7, hx7⟩
        simp only [Option.getD_some, Option.isSome_some] at HR7 ⊢
        have S7 := Lib.hid (S6.out.trans hx7); have HB7 := Lib.hid (HB6.out.ext hx7)
        clear hx7 S6 HB6
        go_wp2_with fail
        refine (same8_b A7 X c7 cx ct ct _ HR7.out (HR.out.ext S7.out) hctl true (decide_eq_true rfl)).mono ?_
        rintro e w8 ⟨rfl, hx8⟩
        have S8 := Lib.hid (S7.out.trans hx8.ext); have HB8 := Lib.hid (HB7.out.ext hx8.ext)
        clear hx8 S7 HB7 HR7
        have V0 : w8.cell? ⟨w.heap.size, 0, none⟩ = some (.int .i64 num) := by rw [S8.out.cell (by exact z3)]; exact q0
        have V1 : w8.cell? ⟨w.heap.size, 1, none⟩ = some (.slice (some ⟨bx, ox, none⟩) xs.length c) := by rw [S8.out.cell (by exact z3)]; exact q1
        go_wp2_with fail
        refine (undecidable_b num (some ⟨bx, ox, none⟩) A6 c c6 xs bs6 _ (HX3.out.ext S8.out) HB8.out hxl hl6 false (tog_und HTT.out (by omega))).mono ?_
        rintro e w9 ⟨rfl, hx9⟩
        have S9 := Lib.hid (S8.out.trans hx9); have HB9 := Lib.hid (HB8.out.ext hx9)
        clear hx9 S8 HB8 V0 V1
        go_wp2
        go_roundw
        case rel => exact ⟨k + 1, bs6, A6, c6, by omega, by go_num, rfl, HTT, HB9, S9.out⟩
        case measure => simp [intOf] <;> omega
      · rw [if_neg hq]
        have hq' : decide ((xs.length : Int) - g ≤ (k : Int) + 1) = false := decide_eq_false (by omega)
        clear hq
        rintro e w8 ⟨A7, c7, rfl, _, _, HR7, hx7⟩
        simp only [Option.getD_none, Option.isSome_none, List.length_nil]
        have S8 := Lib.hid (S6.out.trans hx7); have HB8 := Lib.hid (HB6.out.ext hx7)
        clear hx7 S6 HB6 HR7
        have V0 : w8.cell? ⟨w.heap.size, 0, none⟩ = some (.int .i64 num) := by rw [S8.out.cell (by exact z3)]; exact q0
        have V1 : w8.cell? ⟨w.heap.size, 1, none⟩ = some (.slice (some ⟨bx, ox, none⟩) xs.length c) := by rw [S8.out.cell (by exact z3)]; exact q1
        go_wp2_with fail
        refine (undecidable_b num (some ⟨bx, ox, none⟩) A6 c c6 xs bs6 _ (HX3.out.ext S8.out) HB8.out hxl hl6 false (tog_und HTT.out (by omega))).mono ?_
        rintro e w9 ⟨rfl, hx9⟩
        have S9 := Lib.hid (S8.out.trans hx9); have HB9 := Lib.hid (HB8.out.ext hx9)
        clear hx9 S8 HB8 V0 V1
        go_wp2
        go_roundw
        case rel => exact ⟨k + 1, bs6, A6, c6, by omega, by go_num, rfl, HTT, HB9, S9.out⟩
        case measure => simp [intOf] <;> omega
    · have hkx : k = xs.length := by omega
      have HVV : Hid (votesF (prs bs) ct = xs.length) := Lib.hid (by rw [votes_all_same HST.out.2.2.1, HST.out.2.1, hkx])
      go_wp2_with fail
      refine (votes_b B X cb cx bs ct _ HBX.out (HR.out.ext HS.out) hbl _ HVV.out).mono ?_
      rintro e w6 ⟨rfl, hx6⟩
      have S6 := Lib.hid (HS.out.trans hx6)
      clear hx6 hkx
      go_wp2
      go_ret
      exact ⟨ret_bool (by simp), H0.out.trans (X3.out.trans S6.out)⟩

theorem walk (num : Int) (A : Option Addr) (c : Nat) (xs : List Int) {w : World} (_hi : I64 num) (hr : Row w A (ints xs)) (hc : xs.length ≤ c) (hm : c ≤ maxLen) (_hx : ∀ x ∈ xs, I64 x)
    (u : Int) (hu : 0 ≤ u ∧ u < 256) (W : World) (hW : w = W) :
    Calls Try.prog 9 #[.agg #[.int .i64 num, .slice A xs.length c], .int .u8 u] W fun e w' => e = .returned (.bool true) ∧ Ext W w' := by
  subst hW
  have h5 := hm
  unfold maxLen at h5
  have := walk0 num A c u.toNat xs w hr hc hm (by omega) (by omega)
  rwa [Int.toNat_of_nonneg hu.1] at this


open Go.ChangeShapes Go.WideShapes Go.ChangeAt
set_option maxRecDepth 100000 in
theorem lifted (os : Os) (started : os.Started) (H : Type) (enc : TypeId × Value → H) :
    ReturnsInHanded {} Try.checked os 9 .any (Rows.voteTogetherSpec.pre6 enc Try.prog Try.f9 Rows.voteTogetherRow.domain false) (Rows.voteTogetherSpec.post enc Try.prog Try.f9 false true false false) := by
  refine returnsInHanded_of_change (C := Try.checked) own started (by kernel_rfl) Try.func9
    (ChangeSpec.witness6 (enc := enc) (C := Try.checked) false ⟨#[], #[.agg #[.int .i64 0, .slice none 0 0], .int .u8 0], []⟩ 8 (by kernel_rfl) (by kernel_rfl) (by kernel_rfl) (by kernel_rfl)) ?_
  intro W base args ds gs before hval0 hW hcnd _
  have hval : ∀ (j : Nat) t v, Try.f9.params[j]? = some t → args[j]? = some v → Value.okWide Try.prog W .any base t v := hval0
  have hW' := hW
  obtain ⟨p, q, hA0, hV, rfl, hfz, hnd⟩ := hW
  have hA : DataW.TrodAll enc Try.prog W 0 (fun _ => true) true Try.f9.params.toList args.toList ds p := hA0
  rw [Try.params9] at hA hval
  obtain ⟨v0, vs0, d0, ds0, p0, q0, hargs, rfl, rfl, h0, r0⟩ := trodAll_cons hA
  obtain ⟨v1, vs1, d1, ds1, p1, q1, rfl, rfl, rfl, h1, r1⟩ := trodAll_cons r0
  obtain ⟨rfl, rfl, rfl⟩ := trodAll_nil r1
  obtain rfl : args = #[v0, v1] := by cases args; simp_all
  obtain ⟨rfl, rfl⟩ := trodVars_none hV
  have lt0 : ∀ x ∈ p0, x.block < W.heap.size := by obtain ⟨m, hm⟩ := h0; exact DataW.trod_lt m _ _ _ hm
  have lt1 : ∀ x ∈ p1, x.block < W.heap.size := by obtain ⟨m, hm⟩ := h1; exact DataW.trod_lt m _ _ _ hm
  obtain ⟨n0, A0, c0, x0, e0, hi0, hc0, hm0, hr0, hx0⟩ := argView (hval 0 36 v0 rfl rfl) h0
  obtain ⟨n1, e1, hi1⟩ := argU8 (hval 1 5 v1 rfl rfl) h1
  clear hA0 hval0
  have wk := walk n0 A0 c0 x0 hi0 hr0 hc0 hm0 hx0 n1 hi1 W rfl
  rw [← e0, ← e1] at wk
  refine wk.mono fun e W' ⟨he, bel⟩ => ?_
  subst he
  exact ⟨_, rfl, _, _, _, [], _, [], hW', trodAll_mk1 (shut_bool Try.underlying4 _), (trodAll_cons_mk (Below.trod laidOut (by kernel_rfl) (of_decide_eq_true (by kernel_rfl)) h0 bel lt0) (trodAll_cons_mk (Below.trod laidOut (by kernel_rfl) (of_decide_eq_true (by kernel_rfl)) h1 bel lt1) trodAll_mk0)), rfl, bel.frame _, fun h => by cases h⟩

theorem over : Rows.voteTogetherRow.holds Try.pinned (OpenSpec.ofChange Rows.voteTogetherSpec) :=
  OpenClaim.holds_of_wide 9 Try.f9 rfl rfl rfl rfl rfl rfl rfl ⟨rfl, rfl, rfl, rfl, rfl⟩ rfl rfl rfl rfl rfl (by kernel_rfl) Try.func9 (by kernel_rfl)
    (of_decide_eq_true (by kernel_rfl)) (by unfold Func.isWrapper; first | (rw [if_pos (by decide +kernel)]; kernel_rfl) | (rw [if_neg (by decide +kernel)]; exact ⟨rfl, rfl⟩))
    (fun os started H enc _ => lifted os started H enc)

/-- the statement -/
theorem proved : Rows.VoteTogetherSaid := over
#print axioms proved

end Go.Proofs.Ytagmocofmedmjaa.voteTogether
