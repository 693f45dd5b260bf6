/- The contract of fastvote.Cast. -/
import Derived.Test.YtagmocofmedmjaaVote7
namespace Go.Proofs.Ytagmocofmedmjaa
open Go.RowKit

theorem ob_of {wc w1 : World} {A : Option Addr} {v : Value} {bs : List Bal} (h : OwnB w1 wc.heap.size v bs) (hb : Box wc A bs) (e : Ext wc w1) : OB w1 wc.heap.size v bs := by
  refine ⟨h, fun b hm => ⟨(hb.2 b hm).1.ext e, (hb.2 b hm).2.1, (hb.2 b hm).2.2, fun p q hne hp hq => ?_⟩⟩
  have := row_block (hb.2 b hm).1 hne hp
  have := (h.lt q hq).1
  omega
theorem valid_id {num : Int} {xs : List Int} {m : Int} (h : validB num xs = true) (hm : hasB xs m = true) : m ≤ 1000 := ((idsB_iff (m := 16)).1 (validB_ids h)).2.2.2 m (hasB_iff.1 hm) |>.2
theorem box_id {num : Int} {xs : List Int} {ps : Ps} {p : Int × List Int} (h : boxB num xs ps = true) (hp : p ∈ ps) : p.1 ≤ 1000 := by
  have := box_iff.1 h
  exact valid_id this.1 (hasB_iff.2 (this.2.2 p hp).1)
/-- the state of Cast's loop -/
def CastSt (ps : Ps) (m : Int) (ct : List Int) (k : Nat) (pb : Bool) (qs : Ps) : Prop :=
  (k ≤ ps.length ∧ pb = putB (ps.take k) m ∧ qs = insK (ps.take k) m ct ∧ votedB (ps.take k) m = false) ∨ (k = ps.length + 1 ∧ qs = insP ps m ct ∧ votedB ps m = false)
theorem st_zero (ps : Ps) (m : Int) (ct : List Int) : CastSt ps m ct 0 false [] := .inl ⟨Nat.zero_le _, rfl, rfl, rfl⟩
theorem st_in {ps : Ps} {m : Int} {ct : List Int} {k : Nat} {pb : Bool} {qs : Ps} (h : CastSt ps m ct k pb qs) (hk : k ≤ ps.length) : pb = putB (ps.take k) m ∧ qs = insK (ps.take k) m ct ∧ votedB (ps.take k) m = false := by
  rcases h with h | h
  · exact h.2
  · omega
theorem st_len {ps : Ps} {m : Int} {ct : List Int} {k : Nat} {qs : Ps} (h : CastSt ps m ct k false qs) (hk : k ≤ ps.length) : qs.length = k := by
  obtain ⟨h1, h2, _⟩ := st_in h hk
  rw [h2, insK, ← h1]; simp; omega
theorem st_hi {ps : Ps} {m : Int} {ct : List Int} {k : Nat} {qs : Ps} {p : Int × List Int} (h : CastSt ps m ct k false qs) (hp : ps[k]? = some p) (hne : (p.1 == m) = false) (hlt : m < p.1) : CastSt ps m ct (k + 1) true (qs ++ [(m, ct)] ++ [p]) := by
  have hk := (List.getElem?_eq_some_iff.1 hp).1
  obtain ⟨h1, h2, h3⟩ := st_in h (by omega)
  have := insK_hi (ct := ct) hp h1.symm hlt
  exact .inl ⟨hk, this.2.symm, by rw [this.1, h2], voted_step hp h3 hne⟩
theorem st_lo {ps : Ps} {m : Int} {ct : List Int} {k : Nat} {qs : Ps} {p : Int × List Int} (h : CastSt ps m ct k false qs) (hp : ps[k]? = some p) (hne : (p.1 == m) = false) (hlt : ¬ m < p.1) : CastSt ps m ct (k + 1) false (qs ++ [p]) := by
  have hk := (List.getElem?_eq_some_iff.1 hp).1
  obtain ⟨h1, h2, h3⟩ := st_in h (by omega)
  have := insK_lo (ct := ct) hp h1.symm hlt
  exact .inl ⟨hk, this.2.symm, by rw [this.1, h2], voted_step hp h3 hne⟩
theorem st_on {ps : Ps} {m : Int} {ct : List Int} {k : Nat} {qs : Ps} {p : Int × List Int} (h : CastSt ps m ct k true qs) (hp : ps[k]? = some p) (hne : (p.1 == m) = false) : CastSt ps m ct (k + 1) true (qs ++ [p]) := by
  have hk := (List.getElem?_eq_some_iff.1 hp).1
  obtain ⟨h1, h2, h3⟩ := st_in h (by omega)
  have := insK_on (ct := ct) hp h1.symm
  exact .inl ⟨hk, this.2.symm, by rw [this.1, h2], voted_step hp h3 hne⟩
theorem st_put {ps : Ps} {m : Int} {ct : List Int} {k : Nat} {qs : Ps} (h : CastSt ps m ct k false qs) (hk : k = ps.length) (pb : Bool) : CastSt ps m ct (k + 1) pb (qs ++ [(m, ct)]) := by
  obtain ⟨h1, h2, h3⟩ := st_in h (by omega)
  refine .inr ⟨by omega, ?_, voted_all (by omega) h3⟩
  rw [h2, insK_end (by omega) h1.symm]
theorem st_had {ps : Ps} {m : Int} {ct : List Int} {k : Nat} {qs : Ps} (h : CastSt ps m ct k true qs) (hk : k = ps.length) (pb : Bool) : CastSt ps m ct (k + 1) pb qs := by
  obtain ⟨h1, h2, h3⟩ := st_in h (by omega)
  refine .inr ⟨by omega, ?_, voted_all (by omega) h3⟩
  rw [h2, insK_yes (by omega) h1.symm]
theorem st_end {ps : Ps} {m : Int} {ct : List Int} {k : Nat} {pb : Bool} {qs : Ps} (h : CastSt ps m ct k pb qs) (hk : ¬ k < ps.length + 1) : qs = insP ps m ct ∧ votedB ps m = false := by
  rcases h with h | h
  · omega
  · exact h.2
theorem sent_at {bs bs2 : List Bal} {k : Nat} {m' : Int} {X : Option Addr} {cx : Nat} {ct' : List Int} (h2 : bs ++ [⟨1001, none, 0, []⟩] = bs2) (h : bs2[k]? = some ⟨m', X, cx, ct'⟩) (hk : k < bs.length) : bs[k]? = some ⟨m', X, cx, ct'⟩ := by
  subst h2; rwa [List.getElem?_append_left hk] at h
theorem sent_last {bs bs2 : List Bal} {k : Nat} {m' : Int} {X : Option Addr} {cx : Nat} {ct' : List Int} (h2 : bs ++ [⟨1001, none, 0, []⟩] = bs2) (h : bs2[k]? = some ⟨m', X, cx, ct'⟩) (hk : ¬ k < bs.length) : m' = 1001 := by
  subst h2
  rw [List.getElem?_append_right (by omega)] at h
  have hz : k - bs.length = 0 := by
    have := (List.getElem?_eq_some_iff.1 h).1; simp at this; omega
  rw [hz] at h; simp at h; exact h.1.symm

set_option maxRecDepth 100000 in
set_option maxHeartbeats 8000000 in
theorem cast_any (num m : Int) (A B Y : Option Addr) (c d cy : Nat) (xs ct : List Int) (bs : List Bal) (w : World) (hx : Row w A (ints xs)) (hb : Box w B bs) (hy : Row w Y (ints ct)) (hy2 : cy ≤ maxLen) (hy1 : ct.length ≤ cy)
    (hn : xs.length ≤ 9223372036854775807) (hm : bs.length ≤ 1000) :
    Calls Try.prog 33 #[.agg #[.int .i64 num, .slice A xs.length c], .slice B bs.length d, .agg #[.int .i64 m, .slice Y ct.length cy]] w (GivesCast w (castF num xs (prs bs) m ct)) := by
  have H0 := Lib.hid ((Ext.new w (.cells #[.int .i64 num, .slice A xs.length c] 36)).alloc (.cells #[.int .i64 m, .slice Y ct.length cy] 44))
  have HX := Lib.hid (hx.ext H0.out); have HB := Lib.hid (hb.ext H0.out); have HY := Lib.hid (hy.ext H0.out)
  clear hx hb hy
  have hbd : ct.length ≤ 9223372036854775807 := by unfold maxLen at hy2; omega
  go_enter Try.func33, Try.ntmps33
  go_wp2_with fail
  refine (valid8_any num A B c d xs bs _ HX.out HB.out hn hm).mono ?_
  cases hv : boxB num xs (prs bs)
  · have HV := Lib.hid hv; clear hv
    rintro e w3 ⟨rfl, hx3⟩
    have X3 := Lib.hid (H0.out.trans hx3); clear hx3
    go_wp2
    go_ret2
    exact gives_err (cast_box HV.out) X3.out
  have HV := Lib.hid hv; clear hv
  rintro e w3 ⟨rfl, hx3⟩
  have X3 := Lib.hid hx3
  obtain ⟨q0, q1, q2, q3, z1⟩ := cells2 hx3; clear hx3
  go_wp2_with fail
  refine (applicable_any num A Y c cy xs ct _ (HX.out.ext X3.out) (HY.out.ext X3.out) hn hbd).mono ?_
  clear q0 q1 q2 q3 z1
  cases ha : applF num xs ct
  · have HA := Lib.hid ha; clear ha
    rintro e w4 ⟨rfl, hx4⟩
    have X4 := Lib.hid (H0.out.trans (X3.out.trans hx4)); clear hx4
    go_wp2
    go_ret2
    exact gives_err (cast_cut HA.out) X4.out
  have HA := Lib.hid ha; clear ha
  rintro e w4 ⟨rfl, hx4⟩
  have X4 := Lib.hid (X3.out.trans hx4); clear hx4 X3
  obtain ⟨q0, q1, q2, q3, z1⟩ := cells2 X4.out
  go_wp2_with fail
  refine (contains_any _ _ xs m _ (HX.out.ext X4.out) hn).mono ?_
  cases hh : hasB xs m
  · have HH := Lib.hid hh; clear hh
    rintro e w5 ⟨rfl, rfl⟩
    go_wp2
    go_ret2
    exact gives_err (cast_who HV.out HA.out HH.out) (H0.out.trans X4.out)
  have HH := Lib.hid hh; clear hh
  rintro e w5 ⟨rfl, rfl⟩
  have hmm : m ≤ 1000 := valid_id (box_iff.1 HV.out).1 HH.out
  have hct : ct.length ≤ 1000000 := by have := appl_len HA.out; omega
  have HBl := Lib.hid (HB.out.ext X4.out); have HYl := Lib.hid (HY.out.ext X4.out)
  clear HB HY HX
  go_wp2_with fail
  refine (cloneB_any B d bs _ HBl.out.1 (by omega)).mono ?_
  rintro e w5 ⟨A5, c5, rfl, h51, h52, ho5, hx5⟩
  have X5 := Lib.hid hx5
  have O5 := Lib.hid (ob_of ho5 HBl.out hx5)
  clear ho5 hx5
  obtain ⟨bs2, hbs2⟩ : ∃ l, bs ++ [⟨1001, none, 0, []⟩] = l := ⟨_, rfl⟩
  have hl2 : bs2.length = bs.length + 1 := by rw [← hbs2]; simp
  have HL2 := Lib.hid hl2
  have hl3 : bs2.length ≤ 1001 := by omega
  have HB2 := Lib.hid hbs2
  clear hbs2 hl2
  go_wp2_with (first
    | (at_builtin; refine push_b1 rfl (.tmp 32) (.tmp 34) rfl _ w4.heap.size _ bs (by rfl) ⟨1001, none, 0, []⟩ _ (by rfl) O5.out ⟨Row.nil _ _, Nat.le_refl _, Nat.zero_le _, fun p q hne => absurd rfl hne⟩ (by omega) X5.out.size ?_; intro v6 w6 ho6 hg6 _ _; rw [HB2.out] at ho6; have O6 := Lib.hid ho6; have X6 := Lib.hid (hg6 w4 rfl X5.out); clear hg6; obtain ⟨A6, c6, rfl, h61, h62, hbx⟩ := ho6.slice; have HBx := Lib.hid hbx; clear hbx ho6))
  have HYx := Lib.hid (HYl.out.ext X6.out)
  have zb6 : w.heap.size + 1 < w6.heap.size := Nat.lt_of_lt_of_le z1 X6.out.size
  have q26 : w6.cell? ⟨w.heap.size + 1, 0, none⟩ = some (.int .i64 m) := by rw [X6.out.cell (by exact z1)]; exact q2
  have q36 : w6.cell? ⟨w.heap.size + 1, 1, none⟩ = some (.slice Y ct.length cy) := by rw [X6.out.cell (by exact z1)]; exact q3
  have X46 := Lib.hid (H0.out.trans (X4.out.trans X6.out))
  have HCuts := Lib.hid (box_cuts HV.out)
  clear q0 q1 q2 q3 z1 O5 X5 O6 X4 HBl HYl H0 X6
  go_loopw [8, 9, 37] (fun v p i wr => ∃ (k : Nat) (out : List Bal) (pb : Bool), k ≤ bs2.length ∧ i = .int .i64 k ∧ p = .bool pb ∧ out.length ≤ k + 1 ∧ Hid (CastSt (prs bs) m ct k pb (prs out)) ∧ Hid (OB wr w6.heap.size v out) ∧ Ext w6 wr) (fun _ _ i _ => bs2.length - (intOf i).toNat)
  case atStart => exact ⟨0, [], false, Nat.zero_le _, rfl, rfl, by simp, Lib.hid (st_zero _ _ _), Lib.hid (OB.nil _ _), Ext.refl _⟩
  case round =>
    obtain ⟨k, out, pb, hk, rfl, rfl, hol, HST, HO, HS0⟩ := hrel
    have HS := Lib.hid HS0; clear HS0
    by_cases hlt : k < bs2.length
    · obtain ⟨b, off, m', X, cx, ct', hB, hb, c0, c1, HR, hl1, hl2, HI⟩ := HBx.out.at_ hlt
      subst hB
      have d0 : wr.cell? ⟨b, off + k * 2, none⟩ = some (.int .i64 m') := by rw [HS.out.cell (by exact hb)]; exact c0
      have d1 : wr.cell? ⟨b, off + k * 2 + 1, none⟩ = some (.slice X ct'.length cx) := by rw [HS.out.cell (by exact hb)]; exact c1
      have zb0 : w.heap.size + 1 < wr.heap.size := Nat.lt_of_lt_of_le zb6 HS.out.size
      have b0 : wr.cell? ⟨w.heap.size + 1, 0, none⟩ = some (.int .i64 m) := by rw [HS.out.cell (by exact zb6)]; exact q26
      have b1 : wr.cell? ⟨w.heap.size + 1, 1, none⟩ = some (.slice Y ct.length cy) := by rw [HS.out.cell (by exact zb6)]; exact q36
      have hbr : b < wr.heap.size := Nat.lt_of_lt_of_le hb HS.out.size
      obtain ⟨wx, hwx⟩ : ∃ x, wr.alloc (.cells #[.int .i64 m', .slice X ct'.length cx] 44) = x := ⟨_, rfl⟩
      have EX0 := Lib.hid (show Ext wr wx from hwx ▸ Ext.new _ _)
      have EXa : Ext w6 wx := HS.out.trans EX0.out
      have zx : wr.heap.size < wx.heap.size := by rw [← hwx]; simp
      have zb : w.heap.size + 1 < wx.heap.size := by omega
      have x0 : wx.cell? ⟨wr.heap.size, 0, none⟩ = some (.int .i64 m') := by rw [← hwx]; simp
      have x1 : wx.cell? ⟨wr.heap.size, 1, none⟩ = some (.slice X ct'.length cx) := by rw [← hwx]; simp
      have p2 : wx.cell? ⟨w.heap.size + 1, 0, none⟩ = some (.int .i64 m) := by rw [EX0.out.cell (by exact zb0)]; exact b0
      have p3 : wx.cell? ⟨w.heap.size + 1, 1, none⟩ = some (.slice Y ct.length cy) := by rw [EX0.out.cell (by exact zb0)]; exact b1
      have HWX := Lib.hid hwx
      clear hwx
      have NEb := Lib.hid (fun q (hq : Value.ownBlock u8 = some q) => (show q ≠ w.heap.size + 1 from by have := (HO.out.1.lt q hq).1; omega))
      have NEx := Lib.hid (fun q (hq : Value.ownBlock u8 = some q) => (show q ≠ wr.heap.size from by have := (HO.out.1.lt q hq).2; omega))
      have OBa := Lib.hid ((HO.out.ext EX0.out).ext (Ext.drew (Ext.refl _)))
      have RYa := Lib.hid ((HYx.out.ext EXa).ext (Ext.drew (Ext.refl _)))
      have RXa := Lib.hid ((HR.out.ext EXa).ext (Ext.drew (Ext.refl _)))
      by_cases hko : k < bs.length
      · have HP := Lib.hid (prs_at (sent_at HB2.out HI.out hko))
        have HM := Lib.hid (List.mem_of_getElem? HP.out)
        have hm1 : m' ≤ 1000 := box_id HV.out HM.out
        have hct' : ct'.length ≤ 1000000 := HCuts.out _ HM.out
        by_cases he : m' = m
        · have HE := Lib.hid he
          have he' : (m' == m) = true := by simp [he]
          clear he
          go_wp2
          go_ret2
          exact gives_err (cast_dup HV.out HA.out HH.out (voted_yes HP.out (by simp [HE.out]))) (X46.out.trans (HS.out.alloc _))
        · have he' : (m' == m) = false := by simpa using he
          have HE := Lib.hid he'
          clear he
          cases pb
          · by_cases hlo : m < m'
            · have hol2 : out.length ≤ k := by have := st_len HST.out (by rw [prs_len]; omega); rw [prs_len] at this; omega
              have HLO := Lib.hid hlo
              go_wp2
              rw [HWX.out]
              go_region_held3 (fun w' => w'.cell? ⟨w.heap.size + 1, 0, none⟩ = some (.int .i64 m) ∧ w'.cell? ⟨w.heap.size + 1, 1, none⟩ = some (.slice Y (List.length ct) cy))
                (first | exact ⟨p2, p3⟩ | exact ⟨s0a, s1a⟩ | exact ⟨r0a, r1a⟩ | exact ⟨t0a, t1a⟩)
                (first
                  | (go_at_call 69; (with_reducible refine (clone_any Y cy ct _ (by exact RYa.out) hct).mono ?_); rintro e va ⟨Aa, ca, rfl, h1a, h2a, hoa, hxa⟩; have r0a : va.cell? ⟨w.heap.size + 1, 0, none⟩ = some (.int .i64 m) := (by rw [hxa.cell (by exact zb)]; exact p2); have r1a : va.cell? ⟨w.heap.size + 1, 1, none⟩ = some (.slice Y (List.length ct) cy) := (by rw [hxa.cell (by exact zb)]; exact p3); have ya : w.heap.size + 1 < va.heap.size := Nat.lt_of_lt_of_le zb hxa.size; have t0a : (va.alloc (.cells #[.int .i64 m, .slice Aa (List.length ct) ca] 44)).cell? ⟨w.heap.size + 1, 0, none⟩ = some (.int .i64 m) := (by rw [(Ext.new _ _).cell (by exact ya)]; exact r0a); have t1a : (va.alloc (.cells #[.int .i64 m, .slice Aa (List.length ct) ca] 44)).cell? ⟨w.heap.size + 1, 1, none⟩ = some (.slice Y (List.length ct) cy) := (by rw [(Ext.new _ _).cell (by exact ya)]; exact r1a); have OVa := Lib.hid (OBa.out.ext hxa); have GVa := Lib.hid (good_new m hoa h1a h2a OBa.out); have XVa := Lib.hid (Ext.trans (Ext.drew (EXa)) hxa); have XWa := Lib.hid hxa; clear hoa hxa)
                  | (refine step_push_b1 rfl (.tmp 55) (.tmp 62) rfl _ w6.heap.size _ (out) (by rfl) ⟨m, Aa, ca, ct⟩ _ (by rfl) OVa.out GVa.out (by first | omega | (simp; omega)) XVa.out.size ?_; intro ua za hoba hexta hgra hsta; have s0a : za.cell? ⟨w.heap.size + 1, 0, none⟩ = some (.int .i64 m) := (by rw [World.grownBy.cell_far hgra _ (Nat.lt_of_lt_of_le ya (Ext.new _ _).size) (fun e => NEb.out _ e.symm rfl)]; exact t0a); have s1a : za.cell? ⟨w.heap.size + 1, 1, none⟩ = some (.slice Y (List.length ct) cy) := (by rw [World.grownBy.cell_far hgra _ (Nat.lt_of_lt_of_le ya (Ext.new _ _).size) (fun e => NEb.out _ e.symm rfl)]; exact t1a)))
              have Xa := Lib.hid (hexta w6 rfl XVa.out); have HOa := Lib.hid hoba
              have yy : wr.heap.size < (va.alloc (.cells #[.int .i64 m, .slice Aa (List.length ct) ca] 44)).heap.size := Nat.lt_of_lt_of_le (Nat.lt_of_lt_of_le zx (Ext.trans (Ext.drew (Ext.refl wx)) XWa.out).size) (Ext.new _ _).size
              have f0 : za.cell? ⟨wr.heap.size, 0, none⟩ = some (.int .i64 m') := by
                rw [World.grownBy.cell_far hgra _ yy (fun e => NEx.out _ e.symm rfl), (Ext.new _ _).cell (by exact Nat.lt_of_lt_of_le zx (Ext.trans (Ext.drew (Ext.refl wx)) XWa.out).size), XWa.out.cell (by exact zx)]; exact x0
              have f1 : za.cell? ⟨wr.heap.size, 1, none⟩ = some (.slice X ct'.length cx) := by
                rw [World.grownBy.cell_far hgra _ yy (fun e => NEx.out _ e.symm rfl), (Ext.new _ _).cell (by exact Nat.lt_of_lt_of_le zx (Ext.trans (Ext.drew (Ext.refl wx)) XWa.out).size), XWa.out.cell (by exact zx)]; exact x1
              have zf : wr.heap.size < za.heap.size := Nat.lt_of_lt_of_le yy hgra.size
              have NExb := Lib.hid (fun q (hq : Value.ownBlock ua = some q) => (show q ≠ wr.heap.size from by
                rcases hsta with h | ⟨g, h, hle⟩
                · exact NEx.out q (h ▸ hq)
                · rw [h] at hq; cases hq; exact Nat.ne_of_gt (Nat.lt_of_lt_of_le yy hle)))
              have RXb := Lib.hid ((HR.out.ext Xa.out).ext (Ext.drew (Ext.refl _)))
              have OBb := Lib.hid (HOa.out.ext (Ext.drew (Ext.refl _)))
              clear hoba hexta hgra hsta
              go_wp2
              go_region_held3 (fun w' => w'.cell? ⟨wr.heap.size, 0, none⟩ = some (.int .i64 m') ∧ w'.cell? ⟨wr.heap.size, 1, none⟩ = some (.slice X (List.length ct') cx))
                (first | exact ⟨f0, f1⟩ | exact ⟨s0b, s1b⟩ | exact ⟨r0b, r1b⟩ | exact ⟨t0b, t1b⟩)
                (first
                  | (go_at_call 69; (with_reducible refine (clone_any X cx ct' _ (by exact RXb.out) hct').mono ?_); rintro e vb ⟨Ab, cb, rfl, h1b, h2b, hob, hxb⟩; have r0b : vb.cell? ⟨wr.heap.size, 0, none⟩ = some (.int .i64 m') := (by rw [hxb.cell (by exact zf)]; exact f0); have r1b : vb.cell? ⟨wr.heap.size, 1, none⟩ = some (.slice X (List.length ct') cx) := (by rw [hxb.cell (by exact zf)]; exact f1); have yb : wr.heap.size < vb.heap.size := Nat.lt_of_lt_of_le zf hxb.size; have t0b : (vb.alloc (.cells #[.int .i64 m', .slice Ab (List.length ct') cb] 44)).cell? ⟨wr.heap.size, 0, none⟩ = some (.int .i64 m') := (by rw [(Ext.new _ _).cell (by exact yb)]; exact r0b); have t1b : (vb.alloc (.cells #[.int .i64 m', .slice Ab (List.length ct') cb] 44)).cell? ⟨wr.heap.size, 1, none⟩ = some (.slice X (List.length ct') cx) := (by rw [(Ext.new _ _).cell (by exact yb)]; exact r1b); have OVb := Lib.hid (OBb.out.ext hxb); have GVb := Lib.hid (good_new m' hob h1b h2b OBb.out); have XVb := Lib.hid (Ext.trans (Ext.drew (Xa.out)) hxb); have XWb := Lib.hid hxb; clear hob hxb)
                  | (refine step_push_b1 rfl (.tmp 67) (.tmp 74) rfl _ w6.heap.size _ (out ++ [⟨m, Aa, ca, ct⟩]) (by rfl) ⟨m', Ab, cb, ct'⟩ _ (by rfl) OVb.out GVb.out (by first | omega | (simp; omega)) XVb.out.size ?_; intro ub zb hobb hextb hgrb hstb; have s0b : zb.cell? ⟨wr.heap.size, 0, none⟩ = some (.int .i64 m') := (by rw [World.grownBy.cell_far hgrb _ (Nat.lt_of_lt_of_le yb (Ext.new _ _).size) (fun e => NExb.out _ e.symm rfl)]; exact t0b); have s1b : zb.cell? ⟨wr.heap.size, 1, none⟩ = some (.slice X (List.length ct') cx) := (by rw [World.grownBy.cell_far hgrb _ (Nat.lt_of_lt_of_le yb (Ext.new _ _).size) (fun e => NExb.out _ e.symm rfl)]; exact t1b)))
              have Xb := Lib.hid (hextb w6 rfl XVb.out); have HOb := Lib.hid hobb
              clear hobb hextb hgrb hstb
              go_wp2
              go_roundw
              case rel => exact ⟨k + 1, out ++ [⟨m, Aa, ca, ct⟩] ++ [⟨m', Ab, cb, ct'⟩], true, by omega, by go_num, rfl, by simp; omega, Lib.hid (by rw [prs_snoc, prs_snoc]; exact st_hi HST.out HP.out HE.out HLO.out), HOb, Xb.out⟩
              case measure => simp [intOf] <;> omega
            · have hlo' : decide (m < m') = false := decide_eq_false hlo
              have HLO := Lib.hid hlo
              clear hlo
              go_wp2
              rw [HWX.out]
              go_region_held3 (fun w' => w'.cell? ⟨wr.heap.size, 0, none⟩ = some (.int .i64 m') ∧ w'.cell? ⟨wr.heap.size, 1, none⟩ = some (.slice X (List.length ct') cx))
                (first | exact ⟨x0, x1⟩ | exact ⟨s0b, s1b⟩ | exact ⟨r0b, r1b⟩ | exact ⟨t0b, t1b⟩)
                (first
                  | (go_at_call 69; (with_reducible refine (clone_any X cx ct' _ (by exact RXa.out) hct').mono ?_); rintro e vb ⟨Ab, cb, rfl, h1b, h2b, hob, hxb⟩; have r0b : vb.cell? ⟨wr.heap.size, 0, none⟩ = some (.int .i64 m') := (by rw [hxb.cell (by exact zx)]; exact x0); have r1b : vb.cell? ⟨wr.heap.size, 1, none⟩ = some (.slice X (List.length ct') cx) := (by rw [hxb.cell (by exact zx)]; exact x1); have yb : wr.heap.size < vb.heap.size := Nat.lt_of_lt_of_le zx hxb.size; have t0b : (vb.alloc (.cells #[.int .i64 m', .slice Ab (List.length ct') cb] 44)).cell? ⟨wr.heap.size, 0, none⟩ = some (.int .i64 m') := (by rw [(Ext.new _ _).cell (by exact yb)]; exact r0b); have t1b : (vb.alloc (.cells #[.int .i64 m', .slice Ab (List.length ct') cb] 44)).cell? ⟨wr.heap.size, 1, none⟩ = some (.slice X (List.length ct') cx) := (by rw [(Ext.new _ _).cell (by exact yb)]; exact r1b); have OVb := Lib.hid (OBa.out.ext hxb); have GVb := Lib.hid (good_new m' hob h1b h2b OBa.out); have XVb := Lib.hid (Ext.trans (Ext.drew (EXa)) hxb); have XWb := Lib.hid hxb; clear hob hxb)
                  | (refine step_push_b1 rfl (.tmp 67) (.tmp 74) rfl _ w6.heap.size _ (out) (by rfl) ⟨m', Ab, cb, ct'⟩ _ (by rfl) OVb.out GVb.out (by first | omega | (simp; omega)) XVb.out.size ?_; intro ub zb hobb hextb hgrb hstb; have s0b : zb.cell? ⟨wr.heap.size, 0, none⟩ = some (.int .i64 m') := (by rw [World.grownBy.cell_far hgrb _ (Nat.lt_of_lt_of_le yb (Ext.new _ _).size) (fun e => NEx.out _ e.symm rfl)]; exact t0b); have s1b : zb.cell? ⟨wr.heap.size, 1, none⟩ = some (.slice X (List.length ct') cx) := (by rw [World.grownBy.cell_far hgrb _ (Nat.lt_of_lt_of_le yb (Ext.new _ _).size) (fun e => NEx.out _ e.symm rfl)]; exact t1b)))
              have Xb := Lib.hid (hextb w6 rfl XVb.out); have HOb := Lib.hid hobb
              clear hobb hextb hgrb hstb
              go_wp2
              go_roundw
              case rel => exact ⟨k + 1, out ++ [⟨m', Ab, cb, ct'⟩], false, by omega, by go_num, rfl, by simp; omega, Lib.hid (by rw [prs_snoc]; exact st_lo HST.out HP.out HE.out (Int.not_lt.2 HLO.out)), HOb, Xb.out⟩
              case measure => simp [intOf] <;> omega
          · go_wp2
            rw [HWX.out]
            go_region_held3 (fun w' => w'.cell? ⟨wr.heap.size, 0, none⟩ = some (.int .i64 m') ∧ w'.cell? ⟨wr.heap.size, 1, none⟩ = some (.slice X (List.length ct') cx))
              (first | exact ⟨x0, x1⟩ | exact ⟨s0b, s1b⟩ | exact ⟨r0b, r1b⟩ | exact ⟨t0b, t1b⟩)
              (first
                | (go_at_call 69; (with_reducible refine (clone_any X cx ct' _ (by exact RXa.out) hct').mono ?_); rintro e vb ⟨Ab, cb, rfl, h1b, h2b, hob, hxb⟩; have r0b : vb.cell? ⟨wr.heap.size, 0, none⟩ = some (.int .i64 m') := (by rw [hxb.cell (by exact zx)]; exact x0); have r1b : vb.cell? ⟨wr.heap.size, 1, none⟩ = some (.slice X (List.length ct') cx) := (by rw [hxb.cell (by exact zx)]; exact x1); have yb : wr.heap.size < vb.heap.size := Nat.lt_of_lt_of_le zx hxb.size; have t0b : (vb.alloc (.cells #[.int .i64 m', .slice Ab (List.length ct') cb] 44)).cell? ⟨wr.heap.size, 0, none⟩ = some (.int .i64 m') := (by rw [(Ext.new _ _).cell (by exact yb)]; exact r0b); have t1b : (vb.alloc (.cells #[.int .i64 m', .slice Ab (List.length ct') cb] 44)).cell? ⟨wr.heap.size, 1, none⟩ = some (.slice X (List.length ct') cx) := (by rw [(Ext.new _ _).cell (by exact yb)]; exact r1b); have OVb := Lib.hid (OBa.out.ext hxb); have GVb := Lib.hid (good_new m' hob h1b h2b OBa.out); have XVb := Lib.hid (Ext.trans (Ext.drew (EXa)) hxb); have XWb := Lib.hid hxb; clear hob hxb)
                | (refine step_push_b1 rfl (.tmp 67) (.tmp 74) rfl _ w6.heap.size _ (out) (by rfl) ⟨m', Ab, cb, ct'⟩ _ (by rfl) OVb.out GVb.out (by first | omega | (simp; omega)) XVb.out.size ?_; intro ub zb hobb hextb hgrb hstb; have s0b : zb.cell? ⟨wr.heap.size, 0, none⟩ = some (.int .i64 m') := (by rw [World.grownBy.cell_far hgrb _ (Nat.lt_of_lt_of_le yb (Ext.new _ _).size) (fun e => NEx.out _ e.symm rfl)]; exact t0b); have s1b : zb.cell? ⟨wr.heap.size, 1, none⟩ = some (.slice X (List.length ct') cx) := (by rw [World.grownBy.cell_far hgrb _ (Nat.lt_of_lt_of_le yb (Ext.new _ _).size) (fun e => NEx.out _ e.symm rfl)]; exact t1b)))
            have Xb := Lib.hid (hextb w6 rfl XVb.out); have HOb := Lib.hid hobb
            clear hobb hextb hgrb hstb
            go_wp2
            go_roundw
            case rel => exact ⟨k + 1, out ++ [⟨m', Ab, cb, ct'⟩], true, by omega, by go_num, rfl, by simp; omega, Lib.hid (by rw [prs_snoc]; exact st_on HST.out HP.out HE.out), HOb, Xb.out⟩
            case measure => simp [intOf] <;> omega
      · have hm1 : m' = 1001 := sent_last HB2.out HI.out hko
        have HKO := Lib.hid (show k = (prs bs).length from by rw [prs_len]; have := HL2.out; omega)
        subst hm1
        have he' : ((1001 : Int) == m) = false := by simp; omega
        cases pb
        · have hlo : m < 1001 := by omega
          go_wp2
          rw [HWX.out]
          go_region_held3 (fun w' => w'.cell? ⟨w.heap.size + 1, 0, none⟩ = some (.int .i64 m) ∧ w'.cell? ⟨w.heap.size + 1, 1, none⟩ = some (.slice Y (List.length ct) cy))
            (first | exact ⟨p2, p3⟩ | exact ⟨s0a, s1a⟩ | exact ⟨r0a, r1a⟩ | exact ⟨t0a, t1a⟩)
            (first
              | (go_at_call 69; (with_reducible refine (clone_any Y cy ct _ (by exact RYa.out) hct).mono ?_); rintro e va ⟨Aa, ca, rfl, h1a, h2a, hoa, hxa⟩; have r0a : va.cell? ⟨w.heap.size + 1, 0, none⟩ = some (.int .i64 m) := (by rw [hxa.cell (by exact zb)]; exact p2); have r1a : va.cell? ⟨w.heap.size + 1, 1, none⟩ = some (.slice Y (List.length ct) cy) := (by rw [hxa.cell (by exact zb)]; exact p3); have ya : w.heap.size + 1 < va.heap.size := Nat.lt_of_lt_of_le zb hxa.size; have t0a : (va.alloc (.cells #[.int .i64 m, .slice Aa (List.length ct) ca] 44)).cell? ⟨w.heap.size + 1, 0, none⟩ = some (.int .i64 m) := (by rw [(Ext.new _ _).cell (by exact ya)]; exact r0a); have t1a : (va.alloc (.cells #[.int .i64 m, .slice Aa (List.length ct) ca] 44)).cell? ⟨w.heap.size + 1, 1, none⟩ = some (.slice Y (List.length ct) cy) := (by rw [(Ext.new _ _).cell (by exact ya)]; exact r1a); have OVa := Lib.hid (OBa.out.ext hxa); have GVa := Lib.hid (good_new m hoa h1a h2a OBa.out); have XVa := Lib.hid (Ext.trans (Ext.drew (EXa)) hxa); have XWa := Lib.hid hxa; clear hoa hxa)
              | (refine step_push_b1 rfl (.tmp 55) (.tmp 62) rfl _ w6.heap.size _ (out) (by rfl) ⟨m, Aa, ca, ct⟩ _ (by rfl) OVa.out GVa.out (by first | omega | (simp; omega)) XVa.out.size ?_; intro ua za hoba hexta hgra hsta; have s0a : za.cell? ⟨w.heap.size + 1, 0, none⟩ = some (.int .i64 m) := (by rw [World.grownBy.cell_far hgra _ (Nat.lt_of_lt_of_le ya (Ext.new _ _).size) (fun e => NEb.out _ e.symm rfl)]; exact t0a); have s1a : za.cell? ⟨w.heap.size + 1, 1, none⟩ = some (.slice Y (List.length ct) cy) := (by rw [World.grownBy.cell_far hgra _ (Nat.lt_of_lt_of_le ya (Ext.new _ _).size) (fun e => NEb.out _ e.symm rfl)]; exact t1a)))
          have Xa := Lib.hid (hexta w6 rfl XVa.out); have HOa := Lib.hid hoba
          have yy : wr.heap.size < (va.alloc (.cells #[.int .i64 m, .slice Aa (List.length ct) ca] 44)).heap.size := Nat.lt_of_lt_of_le (Nat.lt_of_lt_of_le zx (Ext.trans (Ext.drew (Ext.refl wx)) XWa.out).size) (Ext.new _ _).size
          have f0 : za.cell? ⟨wr.heap.size, 0, none⟩ = some (.int .i64 1001) := by
            rw [World.grownBy.cell_far hgra _ yy (fun e => NEx.out _ e.symm rfl), (Ext.new _ _).cell (by exact Nat.lt_of_lt_of_le zx (Ext.trans (Ext.drew (Ext.refl wx)) XWa.out).size), XWa.out.cell (by exact zx)]; exact x0
          clear hoba hexta hgra hsta
          go_wp2
          go_roundw
          case rel => exact ⟨k + 1, out ++ [⟨m, Aa, ca, ct⟩], true, by omega, by go_num, rfl, by simp; omega, Lib.hid (by rw [prs_snoc]; exact st_put HST.out HKO.out _), HOa, Xa.out⟩
          case measure => simp [intOf] <;> omega
        · go_wp2
          go_roundw
          case rel => exact ⟨k + 1, out, true, by omega, by go_num, rfl, by omega, Lib.hid (st_had HST.out HKO.out _), Lib.hid (HO.out.ext (Ext.new _ _)), HS.out.alloc _⟩
          case measure => simp [intOf] <;> omega
    · go_wp2
      go_ret2
      have h := st_end HST.out (by rw [prs_len]; have := HL2.out; omega)
      exact gives_cast (by rw [cast_ok HV.out HA.out HH.out h.2, h.1]) HO.out (X46.out.trans HS.out)
end Go.Proofs.Ytagmocofmedmjaa
