/- Contracts: a view is read from bytes, in package view and in the reference. -/
import Derived.Test.YtagmocofmedmjaaList2
import Derived.Test.YtagmocofmedmjaaDiff
namespace Go.Proofs.Ytagmocofmedmjaa
open Go.RowKit

theorem intList_len (A : Option Addr) (c n : Nat) (bs : List UInt8) (m : Nat) (w : World) (h : Row w A (bytesV bs)) (hc : bs.length ≤ c) (hl : bs.length ≤ 1000000000) (hm : m ≤ 100000) (hn : n = bs.length) :
    Calls Try.prog 79 #[.slice A n c, .int .i64 (m : Int)] w (GivesL w (decL bs m)) := by subst hn; exact intList_any A c bs m w h hc hl hm
theorem readIntList_len (A : Option Addr) (c n : Nat) (bs : List UInt8) (m : Nat) (w : World) (h : Row w A (bytesV bs)) (hc : bs.length ≤ c) (hl : bs.length ≤ 1000000000) (hm : m ≤ 100000) (hn : n = bs.length) :
    Calls Try.prog 81 #[.slice A n c, .int .i64 (m : Int)] w (GivesL w (decL bs m)) := by subst hn; exact readIntList_any A c bs m w h hc hl hm
theorem validMembers_still (A : Option Addr) (c : Nat) (xs : List Int) (w : World) (h : Row w A (ints xs)) (hn : xs.length ≤ 9223372036854775807) (b : Bool) (hb : idsB xs 16 = b) :
    Calls Try.prog 16 #[.slice A xs.length c] w fun e w' => e = .returned (.bool b) ∧ Still w w' := by
  subst hb; exact (validMembers_any A c xs w h hn).mono fun e w' ⟨h1, h2⟩ => ⟨h1, h2 ▸ Still.refl _⟩
theorem rvalidMembers_still (A : Option Addr) (c : Nat) (xs : List Int) (w : World) (h : Row w A (ints xs)) (hn : xs.length ≤ 9223372036854775807) (b : Bool) (hb : idsB xs 16 = b) :
    Calls Try.prog 17 #[.slice A xs.length c] w fun e w' => e = .returned (.bool b) ∧ Still w w' := by
  subst hb; exact rvalidMembers_any A c xs w h hn

/-- a view in new memory, a length and an error are returned -/
def GivesD (w : World) (r : Int × List Int × Nat × Int) (en : Ending) (w' : World) : Prop :=
  ∃ A c, en = .returned (.tuple #[.agg #[.int .i64 r.1, .slice A r.2.1.length c], .int .i64 (r.2.2.1 : Int), .int .i64 r.2.2.2]) ∧ r.2.1.length ≤ c ∧ c ≤ maxLen ∧ Own w' w.heap.size 3 (.slice A r.2.1.length c) (ints r.2.1) ∧ Ext w w'
theorem gives_d {w w' : World} {r : Int × List Int × Nat × Int} {num : Int} {l : List Int} {n : Nat} {k e : Int} {v : Value} (hr : r = (num, l, n, e)) (hk : k = (n : Int)) (h : Own w' w.heap.size 3 v (ints l)) (x : Ext w w') : GivesD w r (.returned (.tuple #[.agg #[.int .i64 num, v], .int .i64 k, .int .i64 e])) w' := by
  subst hr hk
  have hl : (ints l).length = l.length := by simp [ints]
  obtain ⟨A, c, hv, h1, h2, _⟩ := h.slice
  rw [hl] at hv h1
  subst hv
  exact ⟨A, c, rfl, h1, h2, h, x⟩
theorem Ext.view_new {w w1 : World} (h : Ext (w.alloc (.cells #[.int .i64 0, .slice none 0 0] 36)) w1) :
    w1.cell? ⟨w.heap.size, 0, none⟩ = some (.int .i64 0) ∧ w1.cell? ⟨w.heap.size, 1, none⟩ = some (.slice none 0 0) ∧ w1.frozen? ⟨w.heap.size, 0, none⟩ = false ∧ w1.frozen? ⟨w.heap.size, 1, none⟩ = false ∧ w.heap.size + 1 ≤ w1.heap.size :=
  ⟨by simpa using h.cell_new 0, by simpa using h.cell_new 1, h.frozen_new 0, h.frozen_new 1, by have := h.size; simp at this; omega⟩

/-- a tail of bytes, wherever it was cut -/
theorem Row.tail {w : World} {A : Option Addr} {bs : List UInt8} {c n : Nat} (h : Row w A (bytesV bs)) (hc : bs.length ≤ c) (hcn : ¬ c = n) : Row w (A.map (·.add n)) (bytesV (bs.drop n)) :=
  bytesV_drop bs n ▸ Row.map_ (k := n) h (by rw [bytesV_len]; exact hc) hcn
theorem Row.empty {w : World} {A : Option Addr} {bs : List UInt8} {n : Nat} (h : bs.length ≤ n) : Row w A (bytesV (bs.drop n)) :=
  bytesV_drop bs n ▸ Row.past (w := w) (A := A) (xs := bytesV bs) (k := n) (by rw [bytesV_len]; exact h)
section
variable {bs : List UInt8}
theorem decV_1 (h : (decU bs).2.2 ≠ 0) : decV bs = (0, [], 0, (decU bs).2.2) := by unfold decV; rw [if_pos h]
theorem decV_2 (h : (decU bs).2.2 = 0) (h2 : 1099511627776 < (decU bs).1) : decV bs = (0, [], 0, 3) := by unfold decV; rw [if_neg (by simpa using h), if_pos h2]
theorem decV_3 (h : (decU bs).2.2 = 0) (h2 : ¬ 1099511627776 < (decU bs).1) (h3 : (decL (bs.drop (decU bs).2.1) 16).2.2 ≠ 0) : decV bs = (0, [], 0, (decL (bs.drop (decU bs).2.1) 16).2.2) := by unfold decV; rw [if_neg (by simpa using h), if_neg h2, if_pos h3]
theorem decV_4 (h : (decU bs).2.2 = 0) (h2 : ¬ 1099511627776 < (decU bs).1) (h3 : (decL (bs.drop (decU bs).2.1) 16).2.2 = 0) (h4 : idsB (decL (bs.drop (decU bs).2.1) 16).1 16 = false) : decV bs = (0, [], 0, 3) := by
  unfold decV; rw [if_neg (by simpa using h), if_neg h2, if_neg (by simpa using h3), if_pos h4]
theorem decV_5 (h : (decU bs).2.2 = 0) (h2 : ¬ 1099511627776 < (decU bs).1) (h3 : (decL (bs.drop (decU bs).2.1) 16).2.2 = 0) (h4 : idsB (decL (bs.drop (decU bs).2.1) 16).1 16 = true) : decV bs = (((decU bs).1 : Int), (decL (bs.drop (decU bs).2.1) 16).1, (decU bs).2.1 + (decL (bs.drop (decU bs).2.1) 16).2.1, 0) := by
  unfold decV; rw [if_neg (by simpa using h), if_neg h2, if_neg (by simpa using h3), if_neg (by simp [h4])]
end
theorem readL_len (bs : List UInt8) : ∀ (c : Nat) (l : List Int) (n : Nat), n ≤ bs.length → (readL bs c l n).1.length ≤ l.length + c ∧ (readL bs c l n).2.1 ≤ bs.length := by
  intro c
  induction c with
  | zero => intro l n hn; exact ⟨by simp [readL], hn⟩
  | succ c ih =>
    intro l n hn
    by_cases h : (decI (bs.drop n)).2.2 = 0
    · rw [readL_step h]
      have h1 := decI_in (bs.drop n)
      rw [List.length_drop] at h1
      have := ih (l ++ [(decI (bs.drop n)).1]) (n + (decI (bs.drop n)).2.1) (by omega)
      simp only [List.length_append, List.length_cons, List.length_nil] at this
      omega
    · rw [readL_fail h]; simp
theorem decL_in (bs : List UInt8) (m : Nat) : (decL bs m).1.length ≤ m ∧ (decL bs m).2.1 ≤ bs.length := by
  unfold decL
  split
  · simp
  · have h := decN_in bs m
    have := readL_len bs (decN bs m).1 [] (decN bs m).2.1 h.2
    simp at this
    omega

set_option maxRecDepth 100000 in
set_option maxHeartbeats 1000000 in
theorem decode_any (A : Option Addr) (c : Nat) (bs : List UInt8) (w : World) (h : Row w A (bytesV bs)) (hc : bs.length ≤ c) (hl : bs.length ≤ 1000000) :
    Calls Try.prog 57 #[.slice A bs.length c] w (GivesD w (decV bs)) := by
  have H0 := Lib.hid (Ext.new w (.cells #[.int .i64 0, .slice none 0 0] 36))
  have H := Lib.hid (h.ext H0.out); clear h
  have hin := (decU_in bs).2.1
  obtain ⟨q0, q1, q2, q3, q4⟩ := Ext.view_new (Ext.refl (w.alloc (.cells #[.int .i64 0, .slice none 0 0] 36)))
  by_cases he : (decU bs).2.2 = 0
  · have hb : ((decU bs).2.2 != 0) = false := by simpa using he
    have HE := Lib.hid he; clear he
    by_cases hg : 1099511627776 < (decU bs).1
    · have HF := Lib.hid (decV_2 HE.out hg)
      clear q0 q1 q2 q3 q4
      go_enter Try.func57, Try.ntmps57
      go_wp2_with fail
      refine (uint_any A c bs _ H.out (by omega)).mono ?_
      rintro e w' ⟨rfl, rfl⟩
      unfold retU
      go_wp2
      exact bodyPost_ret (v := .tuple #[.agg #[.int .i64 0, .slice none 0 0], .int .i64 0, .int .i64 3]) (by simp [results, Try.results57, go_sem]) rfl (gives_d HF.out rfl (Own.nil _ _ _) H0.out)
    · have HG := Lib.hid hg
      have hle : (decU bs).1 ≤ 1099511627776 := by omega
      clear hg
      have hli := decL_in (bs.drop (decU bs).2.1) 16
      rw [List.length_drop] at hli
      have HV := Lib.hid (show ∀ w1 : World, Ext (w.alloc (.cells #[.int .i64 0, .slice none 0 0] 36)) w1 → True from fun _ _ => trivial)
      clear q0 q1 q2 q3 q4
      go_enter Try.func57, Try.ntmps57
      go_wp2_with fail
      refine (uint_any A c bs _ H.out (by omega)).mono ?_
      rintro e w' ⟨rfl, rfl⟩
      unfold retU
      have hdg : decide (1099511627776 < (decU bs).1) = false := by simp; omega
      have key : ∀ (A' : Option Addr) (n' c' : Nat), n' = (bs.drop (decU bs).2.1).length → n' ≤ c' → Row (w.alloc (.cells #[.int .i64 0, .slice none 0 0] 36)) A' (bytesV (bs.drop (decU bs).2.1)) →
          Calls Try.prog 79 #[.slice A' n' c', .int .i64 16] (w.alloc (.cells #[.int .i64 0, .slice none 0 0] 36)) (GivesL (w.alloc (.cells #[.int .i64 0, .slice none 0 0] 36)) (decL (bs.drop (decU bs).2.1) 16)) :=
        fun A' n' c' h1 h2 h3 => intList_len A' c' n' (bs.drop (decU bs).2.1) 16 _ h3 (by omega) (by rw [List.length_drop]; omega) (by omega) h1
      have KEY := Lib.hid key
      clear key
      have HT := Lib.hid (show ¬ c = (decU bs).2.1 → Row (w.alloc (.cells #[.int .i64 0, .slice none 0 0] 36)) (A.map (·.add (decU bs).2.1)) (bytesV (bs.drop (decU bs).2.1)) from fun h => Row.tail H.out hc h)
      have HT0 := Lib.hid (show c = (decU bs).2.1 → ∀ A', Row (w.alloc (.cells #[.int .i64 0, .slice none 0 0] 36)) A' (bytesV (bs.drop (decU bs).2.1)) from fun h A' => Row.empty (by omega))
      have H3 := Lib.hid (fun h => decV_3 HE.out HG.out h)
      have H4 := Lib.hid (fun h h' => decV_4 HE.out HG.out h h')
      have H5 := Lib.hid (fun h h' => decV_5 HE.out HG.out h h')
      rw [HE.out] at hb ⊢
      clear HE HG HV
      have HTL := Lib.hid (show (bs.drop (decU bs).2.1).length = bs.length - (decU bs).2.1 from List.length_drop)
      generalize hR : decL (bs.drop (decU bs).2.1) 16 = R at *
      clear hR
      generalize (decU bs).1 = num at *
      generalize bs.drop (decU bs).2.1 = tl at *
      generalize (decU bs).2.1 = used at *
      by_cases hcn : c = used
      · have HZ := Lib.hid (HT0.out hcn)
        obtain rfl : used = c := hcn.symm
        clear HT HT0
        go_wp2_with fail
        refine (KEY.out _ _ _ (by have := HTL.out; omega) (by omega) (HZ.out _)).mono ?_
        rintro e w1 ⟨A1, c1, rfl, hc1, hm1, ho1, hx1⟩
        have HX1 := Lib.hid hx1
        clear hx1
        obtain ⟨q0, q1, q2, q3, q4⟩ := Ext.view_new HX1.out
        by_cases hf : R.2.2 = 0
        · have hbf : (R.2.2 != 0) = false := by simpa using hf
          have HF0 := Lib.hid hf
          clear hf
          cases hv : idsB R.1 16
          · have HF := Lib.hid (H4.out HF0.out hv)
            have HVM := Lib.hid hv
            clear hv
            go_wp2_with fail
            refine (validMembers_still _ _ _ _ ho1.row (by omega) false HVM.out).mono ?_
            rintro e w2 ⟨rfl, hs2⟩
            have HX2 := Lib.hid (HX1.out.trans hs2.ext)
            clear hs2 q0 q1 q2 q3 q4
            obtain ⟨q0, q1, q2, q3, q4⟩ := Ext.view_new HX2.out
            go_wp2
            exact bodyPost_ret (v := .tuple #[.agg #[.int .i64 0, .slice none 0 0], .int .i64 0, .int .i64 3]) (by simp [results, Try.results57, go_sem, q0, q1]) rfl (gives_d HF.out rfl (Own.nil _ _ _) (((H0.out.trans HX2.out).set (by simp) _).set (by simp) _))
          · have HF := Lib.hid (H5.out HF0.out hv)
            have HVM := Lib.hid hv
            clear hv
            go_wp2_with fail
            refine (validMembers_still _ _ _ _ ho1.row (by omega) true HVM.out).mono ?_
            rintro e w2 ⟨rfl, hs2⟩
            have HX2 := Lib.hid (HX1.out.trans hs2.ext)
            have HO2 := Lib.hid (ho1.ext hs2.ext)
            clear hs2 q0 q1 q2 q3 q4
            obtain ⟨q0, q1, q2, q3, q4⟩ := Ext.view_new HX2.out
            go_wp2
            refine bodyPost_ret (v := .tuple #[.agg #[.int .i64 (num : Int), .slice A1 R.1.length c1], .int .i64 ((used : Int) + (R.2.1 : Int)), .int .i64 0]) (by simp [results, Try.results57, go_sem, q0, q1]) rfl (gives_d HF.out (by omega) (Own.set (Own.set (HO2.out.base (by simp)) ?_ _) ?_ _) (((H0.out.trans HX2.out).set (by simp) _).set (by simp) _))
            · intro k hk; have := (HO2.out.lt k hk).1; simp at this ⊢; omega
            · intro k hk; have := (HO2.out.lt k hk).1; simp at this ⊢; omega
        · have hbf : (R.2.2 != 0) = true := by simpa using hf
          have HF := Lib.hid (H3.out hf)
          clear hf
          go_wp2
          exact bodyPost_ret (v := .tuple #[.agg #[.int .i64 0, .slice none 0 0], .int .i64 0, .int .i64 R.2.2]) (by simp [results, Try.results57, go_sem, q0, q1]) rfl (gives_d HF.out rfl (Own.nil _ _ _) (((H0.out.trans HX1.out).set (by simp) _).set (by simp) _))
      · have HZ := Lib.hid (HT.out hcn)
        clear HT HT0
        go_wp2_with fail
        refine (KEY.out _ _ _ (by have := HTL.out; omega) (by omega) HZ.out).mono ?_
        rintro e w1 ⟨A1, c1, rfl, hc1, hm1, ho1, hx1⟩
        have HX1 := Lib.hid hx1
        clear hx1
        obtain ⟨q0, q1, q2, q3, q4⟩ := Ext.view_new HX1.out
        by_cases hf : R.2.2 = 0
        · have hbf : (R.2.2 != 0) = false := by simpa using hf
          have HF0 := Lib.hid hf
          clear hf
          cases hv : idsB R.1 16
          · have HF := Lib.hid (H4.out HF0.out hv)
            have HVM := Lib.hid hv
            clear hv
            go_wp2_with fail
            refine (validMembers_still _ _ _ _ ho1.row (by omega) false HVM.out).mono ?_
            rintro e w2 ⟨rfl, hs2⟩
            have HX2 := Lib.hid (HX1.out.trans hs2.ext)
            clear hs2 q0 q1 q2 q3 q4
            obtain ⟨q0, q1, q2, q3, q4⟩ := Ext.view_new HX2.out
            go_wp2
            exact bodyPost_ret (v := .tuple #[.agg #[.int .i64 0, .slice none 0 0], .int .i64 0, .int .i64 3]) (by simp [results, Try.results57, go_sem, q0, q1]) rfl (gives_d HF.out rfl (Own.nil _ _ _) (((H0.out.trans HX2.out).set (by simp) _).set (by simp) _))
          · have HF := Lib.hid (H5.out HF0.out hv)
            have HVM := Lib.hid hv
            clear hv
            go_wp2_with fail
            refine (validMembers_still _ _ _ _ ho1.row (by omega) true HVM.out).mono ?_
            rintro e w2 ⟨rfl, hs2⟩
            have HX2 := Lib.hid (HX1.out.trans hs2.ext)
            have HO2 := Lib.hid (ho1.ext hs2.ext)
            clear hs2 q0 q1 q2 q3 q4
            obtain ⟨q0, q1, q2, q3, q4⟩ := Ext.view_new HX2.out
            go_wp2
            refine bodyPost_ret (v := .tuple #[.agg #[.int .i64 (num : Int), .slice A1 R.1.length c1], .int .i64 ((used : Int) + (R.2.1 : Int)), .int .i64 0]) (by simp [results, Try.results57, go_sem, q0, q1]) rfl (gives_d HF.out (by omega) (Own.set (Own.set (HO2.out.base (by simp)) ?_ _) ?_ _) (((H0.out.trans HX2.out).set (by simp) _).set (by simp) _))
            · intro k hk; have := (HO2.out.lt k hk).1; simp at this ⊢; omega
            · intro k hk; have := (HO2.out.lt k hk).1; simp at this ⊢; omega
        · have hbf : (R.2.2 != 0) = true := by simpa using hf
          have HF := Lib.hid (H3.out hf)
          clear hf
          go_wp2
          exact bodyPost_ret (v := .tuple #[.agg #[.int .i64 0, .slice none 0 0], .int .i64 0, .int .i64 R.2.2]) (by simp [results, Try.results57, go_sem, q0, q1]) rfl (gives_d HF.out rfl (Own.nil _ _ _) (((H0.out.trans HX1.out).set (by simp) _).set (by simp) _))
  · have hb : ((decU bs).2.2 != 0) = true := by simpa using he
    have HF := Lib.hid (decV_1 he)
    clear he q0 q1 q2 q3 q4
    go_enter Try.func57, Try.ntmps57
    go_wp2_with fail
    refine (uint_any A c bs _ H.out (by omega)).mono ?_
    rintro e w' ⟨rfl, rfl⟩
    unfold retU
    go_wp2
    exact bodyPost_ret (v := .tuple #[.agg #[.int .i64 0, .slice none 0 0], .int .i64 0, .int .i64 (decU bs).2.2]) (by simp [results, Try.results57, go_sem]) rfl (gives_d HF.out rfl (Own.nil _ _ _) H0.out)

set_option maxRecDepth 100000 in
set_option maxHeartbeats 1000000 in
theorem rdecode_any (A : Option Addr) (c : Nat) (bs : List UInt8) (w : World) (h : Row w A (bytesV bs)) (hc : bs.length ≤ c) (hl : bs.length ≤ 1000000) :
    Calls Try.prog 58 #[.slice A bs.length c] w (GivesD w (decV bs)) := by
  have H0 := Lib.hid (Ext.new w (.cells #[.int .i64 0, .slice none 0 0] 36))
  have H := Lib.hid (h.ext H0.out); clear h
  have hin := (decU_in bs).2.1
  obtain ⟨q0, q1, q2, q3, q4⟩ := Ext.view_new (Ext.refl (w.alloc (.cells #[.int .i64 0, .slice none 0 0] 36)))
  by_cases he : (decU bs).2.2 = 0
  · have hb : ((decU bs).2.2 != 0) = false := by simpa using he
    have HE := Lib.hid he; clear he
    by_cases hg : 1099511627776 < (decU bs).1
    · have HF := Lib.hid (decV_2 HE.out hg)
      clear q0 q1 q2 q3 q4
      go_enter Try.func58, Try.ntmps58
      go_wp2_with fail
      refine (readUint_any A c bs _ H.out (by omega)).mono ?_
      rintro e w' ⟨rfl, rfl⟩
      unfold retU
      go_wp2
      exact bodyPost_ret (v := .tuple #[.agg #[.int .i64 0, .slice none 0 0], .int .i64 0, .int .i64 3]) (by simp [results, Try.results58, go_sem]) rfl (gives_d HF.out rfl (Own.nil _ _ _) H0.out)
    · have HG := Lib.hid hg
      have hle : (decU bs).1 ≤ 1099511627776 := by omega
      clear hg
      have hli := decL_in (bs.drop (decU bs).2.1) 16
      rw [List.length_drop] at hli
      have HV := Lib.hid (show ∀ w1 : World, Ext (w.alloc (.cells #[.int .i64 0, .slice none 0 0] 36)) w1 → True from fun _ _ => trivial)
      clear q0 q1 q2 q3 q4
      go_enter Try.func58, Try.ntmps58
      go_wp2_with fail
      refine (readUint_any A c bs _ H.out (by omega)).mono ?_
      rintro e w' ⟨rfl, rfl⟩
      unfold retU
      have hdg : decide (1099511627776 < (decU bs).1) = false := by simp; omega
      have key : ∀ (A' : Option Addr) (n' c' : Nat), n' = (bs.drop (decU bs).2.1).length → n' ≤ c' → Row (w.alloc (.cells #[.int .i64 0, .slice none 0 0] 36)) A' (bytesV (bs.drop (decU bs).2.1)) →
          Calls Try.prog 81 #[.slice A' n' c', .int .i64 16] (w.alloc (.cells #[.int .i64 0, .slice none 0 0] 36)) (GivesL (w.alloc (.cells #[.int .i64 0, .slice none 0 0] 36)) (decL (bs.drop (decU bs).2.1) 16)) :=
        fun A' n' c' h1 h2 h3 => readIntList_len A' c' n' (bs.drop (decU bs).2.1) 16 _ h3 (by omega) (by rw [List.length_drop]; omega) (by omega) h1
      have KEY := Lib.hid key
      clear key
      have HT := Lib.hid (show ¬ c = (decU bs).2.1 → Row (w.alloc (.cells #[.int .i64 0, .slice none 0 0] 36)) (A.map (·.add (decU bs).2.1)) (bytesV (bs.drop (decU bs).2.1)) from fun h => Row.tail H.out hc h)
      have HT0 := Lib.hid (show c = (decU bs).2.1 → ∀ A', Row (w.alloc (.cells #[.int .i64 0, .slice none 0 0] 36)) A' (bytesV (bs.drop (decU bs).2.1)) from fun h A' => Row.empty (by omega))
      have H3 := Lib.hid (fun h => decV_3 HE.out HG.out h)
      have H4 := Lib.hid (fun h h' => decV_4 HE.out HG.out h h')
      have H5 := Lib.hid (fun h h' => decV_5 HE.out HG.out h h')
      rw [HE.out] at hb ⊢
      clear HE HG HV
      have HTL := Lib.hid (show (bs.drop (decU bs).2.1).length = bs.length - (decU bs).2.1 from List.length_drop)
      generalize hR : decL (bs.drop (decU bs).2.1) 16 = R at *
      clear hR
      generalize (decU bs).1 = num at *
      generalize bs.drop (decU bs).2.1 = tl at *
      generalize (decU bs).2.1 = used at *
      by_cases hcn : c = used
      · have HZ := Lib.hid (HT0.out hcn)
        obtain rfl : used = c := hcn.symm
        clear HT HT0
        go_wp2_with fail
        refine (KEY.out _ _ _ (by have := HTL.out; omega) (by omega) (HZ.out _)).mono ?_
        rintro e w1 ⟨A1, c1, rfl, hc1, hm1, ho1, hx1⟩
        have HX1 := Lib.hid hx1
        clear hx1
        obtain ⟨q0, q1, q2, q3, q4⟩ := Ext.view_new HX1.out
        by_cases hf : R.2.2 = 0
        · have hbf : (R.2.2 != 0) = false := by simpa using hf
          have HF0 := Lib.hid hf
          clear hf
          cases hv : idsB R.1 16
          · have HF := Lib.hid (H4.out HF0.out hv)
            have HVM := Lib.hid hv
            clear hv
            go_wp2_with fail
            refine (rvalidMembers_still _ _ _ _ ho1.row (by omega) false HVM.out).mono ?_
            rintro e w2 ⟨rfl, hs2⟩
            have HX2 := Lib.hid (HX1.out.trans hs2.ext)
            clear hs2 q0 q1 q2 q3 q4
            obtain ⟨q0, q1, q2, q3, q4⟩ := Ext.view_new HX2.out
            go_wp2
            exact bodyPost_ret (v := .tuple #[.agg #[.int .i64 0, .slice none 0 0], .int .i64 0, .int .i64 3]) (by simp [results, Try.results58, go_sem, q0, q1]) rfl (gives_d HF.out rfl (Own.nil _ _ _) (((H0.out.trans HX2.out).set (by simp) _).set (by simp) _))
          · have HF := Lib.hid (H5.out HF0.out hv)
            have HVM := Lib.hid hv
            clear hv
            go_wp2_with fail
            refine (rvalidMembers_still _ _ _ _ ho1.row (by omega) true HVM.out).mono ?_
            rintro e w2 ⟨rfl, hs2⟩
            have HX2 := Lib.hid (HX1.out.trans hs2.ext)
            have HO2 := Lib.hid (ho1.ext hs2.ext)
            clear hs2 q0 q1 q2 q3 q4
            obtain ⟨q0, q1, q2, q3, q4⟩ := Ext.view_new HX2.out
            go_wp2
            refine bodyPost_ret (v := .tuple #[.agg #[.int .i64 (num : Int), .slice A1 R.1.length c1], .int .i64 ((used : Int) + (R.2.1 : Int)), .int .i64 0]) (by simp [results, Try.results58, go_sem, q0, q1]) rfl (gives_d HF.out (by omega) (Own.set (Own.set (HO2.out.base (by simp)) ?_ _) ?_ _) (((H0.out.trans HX2.out).set (by simp) _).set (by simp) _))
            · intro k hk; have := (HO2.out.lt k hk).1; simp at this ⊢; omega
            · intro k hk; have := (HO2.out.lt k hk).1; simp at this ⊢; omega
        · have hbf : (R.2.2 != 0) = true := by simpa using hf
          have HF := Lib.hid (H3.out hf)
          clear hf
          go_wp2
          exact bodyPost_ret (v := .tuple #[.agg #[.int .i64 0, .slice none 0 0], .int .i64 0, .int .i64 R.2.2]) (by simp [results, Try.results58, go_sem, q0, q1]) rfl (gives_d HF.out rfl (Own.nil _ _ _) (((H0.out.trans HX1.out).set (by simp) _).set (by simp) _))
      · have HZ := Lib.hid (HT.out hcn)
        clear HT HT0
        go_wp2_with fail
        refine (KEY.out _ _ _ (by have := HTL.out; omega) (by omega) HZ.out).mono ?_
        rintro e w1 ⟨A1, c1, rfl, hc1, hm1, ho1, hx1⟩
        have HX1 := Lib.hid hx1
        clear hx1
        obtain ⟨q0, q1, q2, q3, q4⟩ := Ext.view_new HX1.out
        by_cases hf : R.2.2 = 0
        · have hbf : (R.2.2 != 0) = false := by simpa using hf
          have HF0 := Lib.hid hf
          clear hf
          cases hv : idsB R.1 16
          · have HF := Lib.hid (H4.out HF0.out hv)
            have HVM := Lib.hid hv
            clear hv
            go_wp2_with fail
            refine (rvalidMembers_still _ _ _ _ ho1.row (by omega) false HVM.out).mono ?_
            rintro e w2 ⟨rfl, hs2⟩
            have HX2 := Lib.hid (HX1.out.trans hs2.ext)
            clear hs2 q0 q1 q2 q3 q4
            obtain ⟨q0, q1, q2, q3, q4⟩ := Ext.view_new HX2.out
            go_wp2
            exact bodyPost_ret (v := .tuple #[.agg #[.int .i64 0, .slice none 0 0], .int .i64 0, .int .i64 3]) (by simp [results, Try.results58, go_sem, q0, q1]) rfl (gives_d HF.out rfl (Own.nil _ _ _) (((H0.out.trans HX2.out).set (by simp) _).set (by simp) _))
          · have HF := Lib.hid (H5.out HF0.out hv)
            have HVM := Lib.hid hv
            clear hv
            go_wp2_with fail
            refine (rvalidMembers_still _ _ _ _ ho1.row (by omega) true HVM.out).mono ?_
            rintro e w2 ⟨rfl, hs2⟩
            have HX2 := Lib.hid (HX1.out.trans hs2.ext)
            have HO2 := Lib.hid (ho1.ext hs2.ext)
            clear hs2 q0 q1 q2 q3 q4
            obtain ⟨q0, q1, q2, q3, q4⟩ := Ext.view_new HX2.out
            go_wp2
            refine bodyPost_ret (v := .tuple #[.agg #[.int .i64 (num : Int), .slice A1 R.1.length c1], .int .i64 ((used : Int) + (R.2.1 : Int)), .int .i64 0]) (by simp [results, Try.results58, go_sem, q0, q1]) rfl (gives_d HF.out (by omega) (Own.set (Own.set (HO2.out.base (by simp)) ?_ _) ?_ _) (((H0.out.trans HX2.out).set (by simp) _).set (by simp) _))
            · intro k hk; have := (HO2.out.lt k hk).1; simp at this ⊢; omega
            · intro k hk; have := (HO2.out.lt k hk).1; simp at this ⊢; omega
        · have hbf : (R.2.2 != 0) = true := by simpa using hf
          have HF := Lib.hid (H3.out hf)
          clear hf
          go_wp2
          exact bodyPost_ret (v := .tuple #[.agg #[.int .i64 0, .slice none 0 0], .int .i64 0, .int .i64 R.2.2]) (by simp [results, Try.results58, go_sem, q0, q1]) rfl (gives_d HF.out rfl (Own.nil _ _ _) (((H0.out.trans HX1.out).set (by simp) _).set (by simp) _))
  · have hb : ((decU bs).2.2 != 0) = true := by simpa using he
    have HF := Lib.hid (decV_1 he)
    clear he q0 q1 q2 q3 q4
    go_enter Try.func58, Try.ntmps58
    go_wp2_with fail
    refine (readUint_any A c bs _ H.out (by omega)).mono ?_
    rintro e w' ⟨rfl, rfl⟩
    unfold retU
    go_wp2
    exact bodyPost_ret (v := .tuple #[.agg #[.int .i64 0, .slice none 0 0], .int .i64 0, .int .i64 (decU bs).2.2]) (by simp [results, Try.results58, go_sem]) rfl (gives_d HF.out rfl (Own.nil _ _ _) H0.out)
end Go.Proofs.Ytagmocofmedmjaa
