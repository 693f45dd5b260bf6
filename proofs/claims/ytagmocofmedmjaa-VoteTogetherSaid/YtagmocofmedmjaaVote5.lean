/- Contracts of fastvote.leader, fastvote.Winner and fastvote.Undecidable. -/
import Derived.Test.YtagmocofmedmjaaVote4
import Derived.Test.YtagmocofmedmjaaPlain6
namespace Go.Proofs.Ytagmocofmedmjaa
open Go.RowKit

/-- a cut that leads, in new memory, and its votes are returned -/
def GivesLead (w : World) (ps : Ps) (en : Ending) (w' : World) : Prop :=
  ∃ A c cut, en = .returned (.tuple #[.slice A (List.length cut) c, .int .i64 (maxV ps ps)]) ∧ cut.length ≤ c ∧ c ≤ maxLen ∧ Hid (Lead ps cut (maxV ps ps)) ∧ Hid (Row w' A (ints cut)) ∧ Ext w w'

set_option maxRecDepth 100000 in
set_option maxHeartbeats 1000000 in
theorem leader_any (B : Option Addr) (d : Nat) (bs : List Bal) (w : World) (hb : Box w B bs) (hm : bs.length ≤ 1000) (hc : ∀ p ∈ prs bs, p.2.length ≤ 1000000) :
    Calls Try.prog 74 #[.slice B bs.length d] w (GivesLead w (prs bs)) := by
  have HB := Lib.hid hb; have HC := Lib.hid hc; clear hb hc
  go_enter Try.func74, Try.ntmps74
  go_wp2
  go_loopw [2, 3, 8] (fun v n i wr => ∃ k : Nat, k ≤ bs.length ∧ i = .int .i64 k ∧ n = .int .i64 (maxV (prs bs) ((prs bs).take k)) ∧ (∃ A c cut, v = .slice A (List.length cut) c ∧ cut.length ≤ c ∧ c ≤ maxLen ∧ Hid (Lead (prs bs) cut (maxV (prs bs) ((prs bs).take k))) ∧ Hid (Row wr A (ints cut))) ∧ Ext w wr) (fun _ _ i _ => bs.length - (intOf i).toNat)
  case atStart => exact ⟨0, Nat.zero_le _, rfl, rfl, ⟨none, 0, [], rfl, Nat.le_refl _, Nat.zero_le _, Lib.hid (lead_zero _), Lib.hid (Row.nil _ _)⟩, Ext.refl _⟩
  case round =>
    obtain ⟨k, hk, rfl, rfl, ⟨A, c, cut, rfl, hcl, hcm, HL, HA⟩, HS0⟩ := hrel
    have HS := Lib.hid HS0; clear HS0
    by_cases hlt : k < bs.length
    · obtain ⟨b, off, m, X, cx, ct, rfl, hb, c0, c1, HR, hl1, hl2, HX⟩ := (HB.out.ext HS.out).at_ hlt
      have HP := Lib.hid (prs_at HX.out)
      have HT := Lib.hid (maxV_step HP.out)
      have hv := maxV_le (prs bs) ((prs bs).take k)
      have hv2 := votes_le (prs bs) ct
      rw [prs_len] at hv hv2
      have HL2 := Lib.hid (lead_at HP.out)
      generalize maxV (prs bs) ((prs bs).take k) = n at *
      go_wp2_with fail
      refine (votes_any _ _ _ _ bs ct _ (HB.out.ext HS.out) HR.out hm).mono ?_
      rintro e w1 ⟨rfl, hx1⟩
      have HS1 := Lib.hid (HS.out.trans hx1)
      have HR1 := Lib.hid (HR.out.ext hx1); have HA1 := Lib.hid (HA.out.ext hx1)
      have hcc : w1.cell? ⟨b, off + k * 2 + 1, none⟩ = some (.slice X ct.length cx) := by rw [hx1.cell (by exact hb)]; exact c1
      clear hx1
      generalize votesF (prs bs) ct = q at *
      by_cases hq : n < q
      · have HN : Hid (maxV (prs bs) ((prs bs).take (k + 1)) = q) := Lib.hid (by rw [HT.out]; exact Nat.max_eq_right (by omega))
        go_wp2
        go_roundw
        case rel => exact ⟨k + 1, by omega, by go_num, by rw [HN.out], ⟨X, cx, ct, rfl, hl1, hl2, by rw [HN.out]; exact HL2, HR1⟩, HS1.out⟩
        case measure => simp [intOf]; omega
      · have HN : Hid (maxV (prs bs) ((prs bs).take (k + 1)) = n) := Lib.hid (by rw [HT.out]; exact Nat.max_eq_left (by omega))
        have hq' : q ≤ n := by omega
        clear hq
        go_wp2
        go_roundw
        case rel => exact ⟨k + 1, by omega, by go_num, by rw [HN.out], ⟨A, c, cut, rfl, hcl, hcm, by rw [HN.out]; exact HL, HA1⟩, HS1.out⟩
        case measure => simp [intOf]; omega
    · have HE := Lib.hid (maxV_all (ps := prs bs) (k := k) (by rw [prs_len]; exact hlt))
      have hlen : cut.length ≤ 1000000 := lead_len HL.out HC.out
      go_wp2_with fail
      refine (clone_any _ _ cut _ HA.out hlen).mono ?_
      rintro e w1 ⟨A1, c1, rfl, h1, h2, ho1, hx1⟩
      have HO := Lib.hid ho1.row; have HS1 := Lib.hid (HS.out.trans hx1)
      clear ho1 hx1
      go_wp2
      go_ret2
      exact ⟨A1, c1, cut, by rw [HE.out]; rfl, h1, h2, by rw [← HE.out]; exact HL, HO, HS1.out⟩

/-- the winner, and whether there is one -/
def GivesW (w : World) (r : Option (List Int)) (en : Ending) (w' : World) : Prop :=
  ∃ A c, en = .returned (.tuple #[.slice A (r.getD []).length c, .bool r.isSome]) ∧ (r.getD []).length ≤ c ∧ c ≤ maxLen ∧ Hid (Row w' A (ints (r.getD []))) ∧ Ext w w'
theorem gives_w_none {w w' : World} {r : Option (List Int)} (hr : r = none) (e : Ext w w') : GivesW w r (.returned (.tuple #[.slice none 0 0, .bool false])) w' := by
  subst hr; exact ⟨none, 0, rfl, Nat.le_refl _, Nat.zero_le _, Lib.hid (Row.nil _ _), e⟩
theorem gives_w_some {w w' : World} {r : Option (List Int)} {cut : List Int} {A : Option Addr} {c : Nat} (hr : r = some cut) (h1 : cut.length ≤ c) (h2 : c ≤ maxLen) (ha : Row w' A (ints cut)) (e : Ext w w') : GivesW w r (.returned (.tuple #[.slice A cut.length c, .bool true])) w' := by
  subst hr; exact ⟨A, c, rfl, h1, h2, Lib.hid ha, e⟩

set_option maxRecDepth 100000 in
set_option maxHeartbeats 1000000 in
theorem winner_any (num : Int) (A B : Option Addr) (c d : Nat) (xs : List Int) (bs : List Bal) (w : World) (hx : Row w A (ints xs)) (hb : Box w B bs) (hn : xs.length ≤ 9223372036854775807) (hm : bs.length ≤ 1000) :
    Calls Try.prog 40 #[.agg #[.int .i64 num, .slice A xs.length c], .slice B bs.length d] w (GivesW w (winF num xs (prs bs))) := by
  have H0 := Lib.hid (Ext.new w (.cells #[.int .i64 num, .slice A xs.length c] 36))
  have HX := Lib.hid (hx.ext H0.out); have HB := Lib.hid (hb.ext H0.out)
  clear hx hb
  go_enter Try.func40, Try.ntmps40
  go_wp2_with fail
  refine (valid8_any num A B c d xs bs _ HX.out HB.out hn hm).mono ?_
  cases hv : boxB num xs (prs bs)
  · have HV := Lib.hid hv; clear hv
    rintro e w1 ⟨rfl, hx1⟩
    have X1 := Lib.hid (H0.out.trans hx1); clear hx1
    go_wp2
    go_ret2
    exact gives_w_none (win_inv HV.out) X1.out
  · have HV := Lib.hid hv; clear hv
    rintro e w1 ⟨rfl, hx1⟩
    have X0 := Lib.hid hx1
    have X1 := Lib.hid (H0.out.trans hx1); clear hx1
    have hl := validB_len (box_iff.1 HV.out).1
    go_wp2_with fail
    refine (leader_any B d bs _ (HB.out.ext X0.out) hm (box_cuts HV.out)).mono ?_
    rintro e w2 ⟨A2, c2, cut, rfl, h1, h2, HL, HR, hx2⟩
    have X2 := Lib.hid (X1.out.trans hx2)
    have q1 : w2.cell? ⟨w.heap.size, 1, none⟩ = some (.slice A xs.length c) := by simpa using (X0.out.trans hx2).cell_new 1
    clear hx2
    have hv := maxV_le (prs bs) (prs bs)
    rw [prs_len] at hv
    have HF := Lib.hid (fun h => lead_no (num := num) (xs := xs) (ps := prs bs) h)
    have HG := Lib.hid (lead_yes HV.out HL.out)
    generalize maxV (prs bs) (prs bs) = n at *
    go_wp2_with fail
    refine (fastQuorum_any _ _).mono ?_
    rintro e w3 ⟨rfl, rfl⟩
    by_cases hq : (n : Int) < fqZ xs.length
    · have HQ := Lib.hid hq
      generalize fqZ xs.length = q at *
      go_wp2
      go_ret2
      exact gives_w_none (HF.out HQ.out) X2.out
    · have HQ := Lib.hid hq
      have hq' : fqZ xs.length ≤ (n : Int) := by omega
      clear hq
      generalize fqZ xs.length = q at *
      go_wp2
      go_ret2
      exact gives_w_some (HG.out HQ.out) h1 h2 HR.out X2.out

set_option maxRecDepth 100000 in
set_option maxHeartbeats 1000000 in
theorem undecidable_any (num : Int) (A B : Option Addr) (c d : Nat) (xs : List Int) (bs : List Bal) (w : World) (hx : Row w A (ints xs)) (hb : Box w B bs) (hn : xs.length ≤ 9223372036854775807) (hm : bs.length ≤ 1000) :
    Calls Try.prog 44 #[.agg #[.int .i64 num, .slice A xs.length c], .slice B bs.length d] w fun e w' => e = .returned (.bool (undF num xs (prs bs))) ∧ Ext w w' := by
  have H0 := Lib.hid (Ext.new w (.cells #[.int .i64 num, .slice A xs.length c] 36))
  have HX := Lib.hid (hx.ext H0.out); have HB := Lib.hid (hb.ext H0.out)
  clear hx hb
  go_enter Try.func44, Try.ntmps44
  go_wp2_with fail
  refine (valid8_any num A B c d xs bs _ HX.out HB.out hn hm).mono ?_
  cases hv : boxB num xs (prs bs)
  · have HV := Lib.hid hv; clear hv
    rintro e w1 ⟨rfl, hx1⟩
    have X1 := Lib.hid (H0.out.trans hx1); clear hx1
    go_wp2
    go_ret
    exact ⟨ret_bool (und_inv HV.out).symm, X1.out⟩
  · have HV := Lib.hid hv; clear hv
    rintro e w1 ⟨rfl, hx1⟩
    have X0 := Lib.hid hx1
    have X1 := Lib.hid (H0.out.trans hx1); clear hx1
    have hl := validB_len (box_iff.1 HV.out).1
    go_wp2_with fail
    refine (leader_any B d bs _ (HB.out.ext X0.out) hm (box_cuts HV.out)).mono ?_
    rintro e w2 ⟨A2, c2, cut, rfl, h1, h2, HL, HR, hx2⟩
    have X2 := Lib.hid (X1.out.trans hx2)
    have q1 : w2.cell? ⟨w.heap.size, 1, none⟩ = some (.slice A xs.length c) := by simpa using (X0.out.trans hx2).cell_new 1
    clear hx2 HL
    have hv := maxV_le (prs bs) (prs bs)
    have HU := Lib.hid (und_yes HV.out)
    rw [prs_len] at hv HU
    generalize maxV (prs bs) (prs bs) = n at *
    have hw1 : IntKind.i64.wrap ((n : Int) + (xs.length : Int)) = (n : Int) + (xs.length : Int) := IntWalk.i64_in _ (by omega)
    have hw2 : IntKind.i64.wrap ((n : Int) + (xs.length : Int) - (bs.length : Int)) = (n : Int) + (xs.length : Int) - (bs.length : Int) := IntWalk.i64_in _ (by omega)
    go_wp2_with fail
    refine (fastQuorum_any _ _).mono ?_
    rintro e w3 ⟨rfl, rfl⟩
    go_wp2
    go_ret
    exact ⟨ret_bool HU.out.symm, X2.out⟩
end Go.Proofs.Ytagmocofmedmjaa
