/- Part 5 of the proof: contracts of functions that the statement reaches. Conditions: as each theorem says. -/
import Derived.Lib.ConvBytes
import Derived.Maps.OwnOps
import Derived.Maps.Views
import Derived.WalkKit
import Derived.Deep.DeepCutAuto
import Derived.Deep.CutBlock
import Derived.Test.YtponbabbabnaeaaGreatQb01
import Derived.Test.YtponbabbabnaeaaGreatQb04
namespace Go.Proofs.YtponbabbabnaeaaGreat
open Go.RowKit
theorem strB_data (bs : List UInt8) : strB bs = ⟨bs.toArray⟩ := by
 unfold strB
 rw [foldl_push_byteCells]; simp
theorem strB_size (bs : List UInt8) : (strB bs).size = bs.length := by rw [strB_data]; simp [ByteArray.size]
theorem strB_inj {a b : List UInt8} (h : strB a = strB b) : a = b := by
 rw [strB_data, strB_data] at h; simpa using h
theorem strB_eq (a b : List UInt8) : (strB a = strB b) ↔ a = b := ⟨strB_inj, fun h => by rw [h]⟩
theorem conv_str (w : World) (bs : List UInt8) : ∃ cap w1, (convert 9 29 (.string (strB bs))).run Tryz.prog w = .ok (.slice (some ⟨w.heap.size, 0, none⟩) bs.length cap) w1 ∧ bs.length ≤ cap ∧ Row w1 (some ⟨w.heap.size, 0, none⟩) (bytesV bs) ∧ Ext w w1 := by
 have h := Go.Lib.run_convert_string_bytes (P := Tryz.prog) w 9 29 5 (strB bs) Tryz.underlying9 Tryz.underlying29 Tryz.underlying5
 rw [strB_size] at h
 refine ⟨_, _, h, ?_, ?_, ?_⟩
 ·exact grownCap_ge _ _ _ _
 ·intro hne
  refine ⟨w.heap.size, 0, rfl, by rw [Go.Lib.bytesWorld_size]; omega, fun j u hj => ?_⟩
  have hjl : j < bs.length := by have := (List.getElem?_eq_some_iff.1 hj).1; simpa [bytesV] using this
  rw [Nat.zero_add, Go.Lib.bytesWorld_cell _ _ _ _ (by rw [strB_size]; exact hjl), strB_data]
  simp only [bytesV, List.getElem?_map, List.getElem?_eq_getElem hjl, Option.map_some, Option.some.injEq] at hj
  rw [← hj]
  simp [List.getD, List.getElem?_eq_getElem hjl]
 ·exact ⟨rfl, rfl, rfl, by rw [Go.Lib.bytesWorld_size]; omega, fun k hk => Go.Lib.bytesWorld_at_old _ _ _ k hk⟩
theorem ba_loop (s : ByteArray) : ∀ (n i : Nat) (r : List UInt8), s.size - i = n → ByteArray.toList.loop s i r = r.reverse ++ s.data.toList.drop i := by
 intro n
 induction n with
 | zero =>
  intro i r h
  unfold ByteArray.toList.loop
  have hz : s.size = s.data.toList.length := by rw [Array.length_toList]; rfl
  rw [if_neg (by omega), List.drop_eq_nil_of_le (by omega), List.append_nil]
 | succ n ih =>
  intro i r h
  unfold ByteArray.toList.loop
  have hz : s.size = s.data.toList.length := by rw [Array.length_toList]; rfl
  have hi : i < s.data.toList.length := by omega
  rw [if_pos (by omega), ih (i + 1) _ (by omega), List.drop_eq_getElem_cons hi, List.reverse_cons, List.append_assoc]
  have hg : s.get! i = s.data.toList[i] := by
   show s.data[i]! = _
   rw [getElem!_pos s.data i (by rw [Array.length_toList] at hi; exact hi)]; simp
  rw [hg]; rfl
theorem ba_list (s : ByteArray) : s.toList = s.data.toList := by
 show ByteArray.toList.loop s 0 [] = _
 rw [ba_loop s _ 0 [] rfl]; simp
theorem strB_list (bs : List UInt8) : (strB bs).toList = bs := by rw [ba_list, strB_data]
theorem eql_ent (a b : Ent) (w : World) : (binOp .eql 66 (entV a) (entV b)).run Tryz.prog w = .ok (.bool (decide (a = b))) w := by
 obtain ⟨a1, a2, a3, a4⟩ := a
 obtain ⟨b1, b2, b3, b4⟩ := b
 unfold entV
 simp only [Ent.mk.injEq]
 by_cases h1 : a1 = b1
 ·by_cases h2 : a2 = b2
  ·by_cases h3 : a3 = b3
   ·by_cases h4 : a4 = b4
    ·simp [go_sem, h1, h2, h3, h4]
    ·simp [go_sem, h1, h2, h3, h4, strB_list]
   ·simp [go_sem, h1, h2, h3]
  ·simp [go_sem, h1, h2]
 ·simp [go_sem, h1]
theorem isViewE_eq (e : Ent) : isViewE e = (decide ((decV e.p).2.2.2 = 0) && (decide ((decV e.p).2.2.1 = e.p.length) && decide (e = viewEnt (decV e.p).1 (decV e.p).2.1))) := by unfold isViewE; rfl
set_option maxRecDepth 100000 in
set_option maxHeartbeats 1000000 in
theorem isViewEntry_any (e : Ent) (w : World) (hl : e.p.length ≤ 1000000) :
  Calls Tryz.prog 197 #[.agg #[.int .i64 e.v, .int .i64 e.o, .int .i64 e.q, .string (strB e.p)]] w fun r w' => r = .returned (.bool (isViewE e)) ∧ Ext w w' := by
 have H0 := hJ (Ext.new w (.cells #[.int .i64 e.v, .int .i64 e.o, .int .i64 e.q, .string (strB e.p)] 66))
 obtain ⟨cap, w2, hcv, hc1, hr2, hx2⟩ := conv_str (w.alloc (.cells #[.int .i64 e.v, .int .i64 e.o, .int .i64 e.q, .string (strB e.p)] 66)) e.p
 simp only [World.size_alloc] at hcv hr2
 have HR := hJ hr2; have X2 := hJ hx2
 clear hr2 hx2; go_enter Tryz.func197, Tryz.ntmps197
 go_wp2_with fail
 refine (decode_any _ cap e.p w2 HR.out hc1 hl).mono ?_
 have HD := hJ (isViewE_eq e)
 obtain ⟨⟨n, xs, k, er⟩, hd⟩ : ∃ r, decV e.p = r := ⟨_, rfl⟩
 rw [hd] at HD ⊢
 clear hd hcv; rintro r w3 ⟨A3, c3, rfl, hc3, hm3, ho3, hx3⟩
 have X3 := hJ (X2.out.trans hx3)
 have RN := hJ ho3.row
 have z3 : w.heap.size < w3.heap.size := by have := X3.out.size; simp at this; omega
 have c0 : w3.cell? ⟨w.heap.size, 0, none⟩ = some (.int .i64 e.v) := by simpa using X3.out.cell_new 0
 have c1 : w3.cell? ⟨w.heap.size, 1, none⟩ = some (.int .i64 e.o) := by simpa using X3.out.cell_new 1
 have c2 : w3.cell? ⟨w.heap.size, 2, none⟩ = some (.int .i64 e.q) := by simpa using X3.out.cell_new 2
 have c3' : w3.cell? ⟨w.heap.size, 3, none⟩ = some (.string (strB e.p)) := by simpa using X3.out.cell_new 3
 have hsz := strB_size e.p
 simp only at RN hc3 HD ⊢
 clear ho3 hx3; by_cases he : er = 0
 rotate_left
 ·have he' : (er == 0) = false := beq_eq_false_iff_ne.2 he
  have HE := hJ he
  clear he; go_wp2; go_quiet (fail)
  go_wp2; go_ret
  exact ⟨ret_bool (by rw [HD.out, decide_eq_false HE.out]; rfl), H0.out.trans ((X3.out.alloc _).drewN _)⟩
 subst he
 by_cases hk : k = e.p.length
 rotate_left
 ·have hk' : ((k : Int) == (e.p.length : Int)) = false := beq_eq_false_iff_ne.2 (by omega)
  have HE := hJ hk
  clear hk; go_wp2; go_quiet (fail)
  go_wp2; go_ret
  exact ⟨ret_bool (by rw [HD.out, decide_eq_false HE.out]; simp), H0.out.trans ((X3.out.alloc _).drewN _)⟩
 subst hk
 have heq := eql_ent e (viewEnt n xs)
 unfold entV at heq
 have RN2 := hJ (RN.out.ext ((Ext.new w3 (.cells #[.int .i64 n, .slice A3 xs.length c3] 46)).drew))
 have hxl : xs.length ≤ 9223372036854775807 := by unfold maxLen at hm3; omega
 go_wp2; go_region_held3 (fun w' => w'.cell? ⟨w.heap.size, 0, none⟩ = some (.int .i64 e.v) ∧ w'.cell? ⟨w.heap.size, 1, none⟩ = some (.int .i64 e.o) ∧ w'.cell? ⟨w.heap.size, 2, none⟩ = some (.int .i64 e.q) ∧ w'.cell? ⟨w.heap.size, 3, none⟩ = some (.string (strB e.p)) ∧ w'.cell? ⟨w3.heap.size, 0, none⟩ = some (.int .i64 n) ∧ w'.cell? ⟨w3.heap.size, 1, none⟩ = some (.slice A3 xs.length c3))
  (first | (go_keep; done) | exact ⟨r0, r1, r2, r3, r4, r5⟩)
  (first
   | (go_at_call 87; (with_reducible refine (viewEntry_any n A3 c3 xs _ (by exact RN2.out) hxl).mono ?_); rintro r w4 ⟨rfl, hx4⟩; unfold entV; have X4 := hJ (((X3.out.alloc (.cells #[.int .i64 n, .slice A3 xs.length c3] 46)).drew).trans hx4); have r0 : w4.cell? ⟨w.heap.size, 0, none⟩ = some (.int .i64 e.v) := (by simpa using X4.out.cell_new 0); have r1 : w4.cell? ⟨w.heap.size, 1, none⟩ = some (.int .i64 e.o) := (by simpa using X4.out.cell_new 1); have r2 : w4.cell? ⟨w.heap.size, 2, none⟩ = some (.int .i64 e.q) := (by simpa using X4.out.cell_new 2); have r3 : w4.cell? ⟨w.heap.size, 3, none⟩ = some (.string (strB e.p)) := (by simpa using X4.out.cell_new 3); have r4 : w4.cell? ⟨w3.heap.size, 0, none⟩ = some (.int .i64 n) := (by rw [hx4.cell (by simp)]; simp); have r5 : w4.cell? ⟨w3.heap.size, 1, none⟩ = some (.slice A3 xs.length c3) := (by rw [hx4.cell (by simp)]; simp); clear hx4))
 go_wp2; go_ret
 exact ⟨ret_bool (by rw [HD.out]; simp), H0.out.trans X4.out⟩
end Go.Proofs.YtponbabbabnaeaaGreat
namespace Go.Proofs.YtponbabbabnaeaaGreat
open Go.RowKit Go.Maps
theorem lawI : Keyed Tryz.prog 3 := int_keyed Tryz.underlying3
theorem zeroI (w : World) : (zeroValue 3).run Tryz.prog w = .ok (.int .i64 0) w := by kernel_rfl
theorem ownsMap_ext {H : Type} {w w' : World} {P : Program} {k : TypeId} {R : Value → Option (DataW H × List MemPlace)} {b n : Nat} {D : DataW H} (h : w.ownsMap P k R b n D) (e : Ext w w') : w'.ownsMap P k R b n D := by
 obtain ⟨es, clock, hh, r⟩ := h
 have hb : b < w.heap.size := by
  rcases Nat.lt_or_ge b w.heap.size with hlt | hge
  ·exact hlt
  ·rw [Array.getElem?_eq_none hge] at hh; cases hh
 exact ⟨es, clock, by rw [e.block b hb]; exact hh, r⟩
def lastAt (l : List Ent) (k : Nat) : Int := if k = 0 then 0 else prevV l k
theorem lastAt_succ {l : List Ent} {k : Nat} {e : Ent} (h : l[k]? = some e) : lastAt l (k + 1) = e.v := by
 unfold lastAt prevV; rw [if_neg (by omega), Nat.add_sub_cancel, h]
theorem oke_zero {l : List Ent} {k : Nat} {e : Ent} (hz : k = 0) : okEnt l k e = isViewE e := by subst hz; simp [okEnt]
theorem oke_lt {l : List Ent} {k : Nat} {e : Ent} (hz : k ≠ 0) (hne : e.v ≠ lastAt l k) (hlt : e.v < lastAt l k) : okEnt l k e = false := by
 unfold lastAt at *; rw [if_neg hz] at hne hlt
 rw [okEnt, if_pos (.inr hne), decide_eq_false hz, decide_eq_false (by omega)]; rfl
theorem oke_ge {l : List Ent} {k : Nat} {e : Ent} (hz : k ≠ 0) (hne : e.v ≠ lastAt l k) (hlt : ¬ e.v < lastAt l k) : okEnt l k e = isViewE e := by
 unfold lastAt at *; rw [if_neg hz] at hne hlt
 rw [okEnt, if_pos (.inr hne), decide_eq_true (p := prevV l k ≤ e.v) (by omega), Bool.or_true, Bool.true_and]
theorem oke_in {l : List Ent} {k : Nat} {e : Ent} (hz : k ≠ 0) (he : e.v = lastAt l k) : okEnt l k e = (isId e.o && (decide (e.p.length ≤ 6000) && decide (e.q = ownN (l.take k) e.o + 1))) := by
 unfold lastAt at he; rw [if_neg hz] at he
 rw [okEnt, if_neg (by simp [hz, he])]
theorem okl_step {l : List Ent} {k : Nat} {e : Ent} (h : ∀ j, j < k → okAtL l j = true) (he : l[k]? = some e) (hk : okEnt l k e = true) : ∀ j, j < k + 1 → okAtL l j = true := by
 intro j hj
 rcases Nat.lt_or_ge j k with h1 | h1
 ·exact h j h1
 ·rw [show j = k by omega, okAtL_eq he]; exact hk
theorem isv_o {e : Ent} (h : isViewE e = true) : e.o = 0 := by
 rw [isViewE_eq] at h
 simp only [Bool.and_eq_true, decide_eq_true_eq] at h
 rw [h.2.2]; rfl
theorem isId_pos {o : Int} (h : isId o = true) : 1 ≤ o ∧ o ≤ 1000 := by simpa [isId] using h
abbrev SeqM (D : DataW Unit) (l : List Ent) (k : Nat) : Prop := IsMap D ∧ ∀ o, isId o = true → D.atKey (.int .i64 o) (.lit (.int .i64 0)) = .lit (.int .i64 (ownN (l.take k) o))
theorem seq_zero (l : List Ent) : SeqM (.map []) l 0 := ⟨⟨[], rfl⟩, fun _ _ => rfl⟩
theorem seq_view {D : DataW Unit} {l : List Ent} {k : Nat} {e : Ent} (h : SeqM D l k) (he : l[k]? = some e) (hv : isViewE e = true) : SeqM D l (k + 1) := by
 refine ⟨h.1, fun o ho => ?_⟩
 rw [h.2 o ho, own_step he, isv_o hv]
 have := isId_pos ho
 rw [if_neg (by simp; omega)]; rfl
theorem seq_put {D : DataW Unit} {l : List Ent} {k : Nat} {e : Ent} (h : SeqM D l k) (he : l[k]? = some e) (hq : e.q = ownN (l.take k) e.o + 1) : SeqM (D.put (.int .i64 e.o) (.lit (.int .i64 e.q))) l (k + 1) := by
 refine ⟨by obtain ⟨es, rfl⟩ := h.1; exact ⟨_, rfl⟩, fun o ho => ?_⟩
 rw [own_step he]
 by_cases ho2 : o = e.o
 ·subst ho2
  rw [atKey_put_same h.1 (by simp [WideAt.IsKeyLit]), hq]; simp
 ·rw [atKey_put_other (by intro hh; cases hh; exact ho2 rfl), h.2 o ho, if_neg (by simp; exact fun hh => ho2 hh.symm)]; rfl
set_option maxRecDepth 100000 in
set_option maxHeartbeats 4000000 in
theorem validLog_any (A : Option Addr) (c : Nat) (l : List Ent) (w : World) (h : Row w A (entE.cells l)) (hn : l.length ≤ 1000000000) (hp : ∀ e ∈ l, e.p.length ≤ 1000000) :
  Calls Tryz.prog 160 #[.slice A l.length c] w fun e w' => e = .returned (.bool (validLog l)) ∧ Ext w w' := by
 have H := hJ h; have HPL := hJ hp; clear h hp
 have hmm := @run_makeMap Tryz.prog
 by_cases hl : l.length ≤ 2000
 rotate_left
 ·have hl' : 2000 < l.length := by omega
  have HL := hJ hl
  clear hl; go_enter Tryz.func160, Tryz.ntmps160
  go_wp2; go_ret
  exact ⟨ret_bool (vlog_long HL.out).symm, Ext.refl _⟩
 have hl' : ¬ 2000 < l.length := by omega
 go_enter Tryz.func160, Tryz.ntmps160
 go_wp2; go_loopw [3, 13] (fun lv i wr => ∃ (k : Nat) (D : DataW Unit), k ≤ l.length ∧ i = .int .i64 k ∧ lv = .int .i64 (lastAt l k) ∧ Hid (∀ j, j < k → okAtL l j = true) ∧ Hid (wr.ownsMap Tryz.prog 3 (plainElem (H := Unit) Tryz.prog 3) w.heap.size k D) ∧ Hid (SeqM D l k) ∧ Ext w wr) (fun _ i _ => l.length - (intOf i).toNat)
 case atStart => exact ⟨0, .map [], Nat.zero_le _, rfl, rfl, hJ (fun j hj => absurd hj (Nat.not_lt_zero _)), hJ (World.ownsMap_made _ _ _ _), hJ (seq_zero l), (Ext.refl _).alloc _⟩
 case round =>
  obtain ⟨k, D, hk, rfl, rfl, HT, HM, HQ, HS0⟩ := hrel
  have HS := hJ HS0; clear HS0
  by_cases hlt : k < l.length
  ·obtain ⟨b, off, e, rfl, hb, c0, c1, c2, c3, HX⟩ := ents_at (H.out.ext HS.out) hlt
   have HN := hJ (lastAt_succ HX.out)
   have hpl : e.p.length ≤ 1000000 := HPL.out e (List.mem_of_getElem? HX.out)
   have hsz := strB_size e.p
   have E1 := hJ (Ext.new wr (.cells #[.int .i64 e.v, .int .i64 e.o, .int .i64 e.q, .string (strB e.p)] 66))
   by_cases hz : k = 0
   ·have HZ := hJ hz
    have hz1 : ((k : Int) == 0) = true := by simp [hz]
    have hz2 : decide ((0 : Int) < (k : Int)) = false := decide_eq_false (by omega)
    have hz3 : decide (0 < k) = false := decide_eq_false (by omega)
    clear hz; go_wp2_with fail
    refine (isViewEntry_any e _ hpl).mono ?_
    cases hv : isViewE e
    ·have HV := hJ hv; clear hv
     rintro r w2 ⟨rfl, hx2⟩
     have X2 := hJ (HS.out.trans (E1.out.trans hx2)); clear hx2
     go_wp2; go_ret
     exact ⟨ret_bool (vlog_no HX.out (by rw [oke_zero HZ.out]; exact HV.out)).symm, X2.out⟩
    ·have HV := hJ hv; clear hv
     rintro r w2 ⟨rfl, hx2⟩
     have X1 := hJ (E1.out.trans hx2)
     have X2 := hJ (HS.out.trans X1.out)
     have d0 : w2.cell? ⟨wr.heap.size, 0, none⟩ = some (.int .i64 e.v) := by rw [hx2.cell (by simp)]; simp
     clear hx2; go_wp2; go_roundw
     case rel => exact ⟨k + 1, D, by omega, by go_num, by rw [HN.out], hJ (okl_step HT.out HX.out (by rw [oke_zero HZ.out]; exact HV.out)), hJ ((ownsMap_ext HM.out X1.out).mono (Nat.le_succ _)), hJ (seq_view HQ.out HX.out HV.out), X2.out⟩
     case measure => simp [intOf]; omega
   ·have HZ := hJ hz
    have hz1 : ((k : Int) == 0) = false := beq_eq_false_iff_ne.2 (by omega)
    have hz2 : decide ((0 : Int) < (k : Int)) = true := decide_eq_true (by omega)
    have hz3 : decide (0 < k) = true := decide_eq_true (by omega)
    clear hz; by_cases hne : e.v = lastAt l k
    ·have HE := hJ hne
     have hne' : (e.v != lastAt l k) = false := by simp [hne]
     clear hne; have HI := hJ (oke_in (l := l) HZ.out HE.out)
     generalize lastAt l k = lv at *
     go_wp2_with fail
     refine (identifier_any e.o _).mono ?_
     cases hid : isId e.o
     ·have HD := hJ hid; clear hid
      rintro r w2 ⟨rfl, rfl⟩
      go_wp2; go_ret
      exact ⟨ret_bool (vlog_no HX.out (by rw [HI.out, HD.out]; rfl)).symm, HS.out.alloc _⟩
     ·have HD := hJ hid
      have hip := isId_pos hid
      clear hid; rintro r w2 ⟨rfl, rfl⟩
      by_cases h6 : e.p.length ≤ 6000
      rotate_left
      ·have H6 := hJ h6
       have h6' : 6000 < e.p.length := by omega
       clear h6; go_wp2; go_ret
       exact ⟨ret_bool (vlog_no HX.out (by rw [HI.out, decide_eq_false H6.out]; simp)).symm, HS.out.alloc _⟩
      have H6 := hJ h6
      have h6' : ¬ 6000 < e.p.length := by omega
      clear h6; have hkey : keyOf Tryz.prog 3 (.int .i64 e.o) = some (.int .i64 e.o) := keyOf_int_mk Tryz.underlying3 (WalkArith.wf_i64 (by omega))
      obtain ⟨cc, hrun, hat, _⟩ := (ownsMap_ext HM.out E1.out).lookup_int lawI Tryz.underlying217 Tryz.underlying3 (zeroI _) hkey
      have hcc : cc = (ownN (l.take k) e.o : Int) := by
       have := hat.symm.trans (HQ.out.2 e.o HD.out)
       simpa using this
      subst hcc
      have hnk := own_take l k e.o
      have hw1 : IntKind.i64.wrap ((ownN (l.take k) e.o : Int) + 1) = (ownN (l.take k) e.o : Int) + 1 := IntWalk.i64_in _ (by omega)
      by_cases hq : e.q = ownN (l.take k) e.o + 1
      ·have HQQ := hJ hq
       have hq' : (e.q != (ownN (l.take k) e.o : Int) + 1) = false := by simp [hq]
       have HM1 := hJ (ownsMap_ext HM.out E1.out)
       have hqb : 1 ≤ e.q ∧ e.q ≤ 2001 := by omega
       clear hq hat; go_wp2_with (first
        | (at_mapUpdate; refine wpList_mapUpdate_own _ rfl _ _ _ 217 rfl 3 3 lawI Tryz.underlying217 _ w.heap.size k _ rfl HM1.out (by unfold maxLen; omega) _ _ _ rfl rfl hkey _ [] (plainElem_int Tryz.underlying3 (WalkArith.wf_i64 (by omega))) ?_; intro w3 hown3 hgrow3)
        | go_in)
       have X3 := hJ (Below.grown (HS.out.trans E1.out) hgrow3 (HS.out.trans E1.out).size (fun j hj => by cases hj; exact Nat.le_refl _))
       have HM3 := hJ hown3
       clear hown3 hgrow3 hrun; go_roundw
       case rel => exact ⟨k + 1, _, by omega, by go_num, by rw [HN.out, ← HE.out], hJ (okl_step HT.out HX.out (by rw [HI.out, HD.out, decide_eq_true H6.out, decide_eq_true HQQ.out]; rfl)), HM3, hJ (seq_put HQ.out HX.out HQQ.out), X3.out⟩
       case measure => simp [intOf]; omega
      ·have HQQ := hJ hq
       have hq' : (e.q != (ownN (l.take k) e.o : Int) + 1) = true := by simp [hq]
       clear hq hat; go_wp2; go_ret
       exact ⟨ret_bool (vlog_no HX.out (by rw [HI.out, decide_eq_false HQQ.out]; simp)).symm, HS.out.alloc _⟩
    ·have HE := hJ hne
     have hne' : (e.v != lastAt l k) = true := by simp [hne]
     clear hne; by_cases hlo : e.v < lastAt l k
     ·have HL := hJ (oke_lt HZ.out HE.out hlo)
      generalize lastAt l k = lv at *
      have hlo' : decide (e.v < lv) = true := decide_eq_true hlo
      go_wp2; go_ret
      exact ⟨ret_bool (vlog_no HX.out HL.out).symm, HS.out.alloc _⟩
     ·have HL := hJ (oke_ge HZ.out HE.out hlo)
      generalize lastAt l k = lv at *
      have hlo' : decide (e.v < lv) = false := decide_eq_false hlo
      clear hlo; go_wp2_with fail
      refine (isViewEntry_any e _ hpl).mono ?_
      cases hv : isViewE e
      ·have HV := hJ hv; clear hv
       rintro r w2 ⟨rfl, hx2⟩
       have X2 := hJ (HS.out.trans (E1.out.trans hx2)); clear hx2
       go_wp2; go_ret
       exact ⟨ret_bool (vlog_no HX.out (by rw [HL.out]; exact HV.out)).symm, X2.out⟩
      ·have HV := hJ hv; clear hv
       rintro r w2 ⟨rfl, hx2⟩
       have X1 := hJ (E1.out.trans hx2)
       have X2 := hJ (HS.out.trans X1.out)
       have d0 : w2.cell? ⟨wr.heap.size, 0, none⟩ = some (.int .i64 e.v) := by rw [hx2.cell (by simp)]; simp
       clear hx2; go_wp2; go_roundw
       case rel => exact ⟨k + 1, D, by omega, by go_num, by rw [HN.out], hJ (okl_step HT.out HX.out (by rw [HL.out]; exact HV.out)), hJ ((ownsMap_ext HM.out X1.out).mono (Nat.le_succ _)), hJ (seq_view HQ.out HX.out HV.out), X2.out⟩
       case measure => simp [intOf]; omega
  ·go_wp2
   go_ret
   exact ⟨ret_bool (vlog_yes hl (fun j hj => HT.out j (by omega))).symm, HS.out⟩
end Go.Proofs.YtponbabbabnaeaaGreat
namespace Go.Proofs.YtponbabbabnaeaaGreat
open Go.RowKit
def GivesKn (w : World) (r : Option Vw) (en : Ending) (w' : World) : Prop :=
 ∃ A c, en = .returned (.tuple #[.agg #[.int .i64 (r.getD (0, [])).1, .slice A (r.getD (0, [])).2.length c], .bool r.isSome]) ∧ (r.getD (0, [])).2.length ≤ c ∧ c ≤ maxLen ∧ Hid (Row w' A (ints (r.getD (0, [])).2)) ∧ Ext w w'
theorem find_no {l : List Vw} {k : Nat} {v : Vw} {n : Int} (h : l[k]? = some v) (hne : (v.1 == n) = false) (h1 : knownV (l.take k) n = none) : knownV (l.take (k + 1)) n = none := by
 unfold knownV at *
 rw [take_snoc h, List.find?_append, h1]; simp [hne]
theorem find_yes {l : List Vw} {k : Nat} {v : Vw} {n : Int} (h : l[k]? = some v) (he : (v.1 == n) = true) (h1 : knownV (l.take k) n = none) : knownV l n = some v := by
 unfold knownV at *
 have hk := (List.getElem?_eq_some_iff.1 h).1
 rw [← List.take_append_drop (k + 1) l, take_snoc h, List.append_assoc, List.find?_append, h1, List.find?_append]; simp [he]
theorem find_all {l : List Vw} {k : Nat} {n : Int} (h : ¬ k < l.length) (h1 : knownV (l.take k) n = none) : knownV l n = none := by rwa [List.take_of_length_le (by omega)] at h1
set_option maxRecDepth 100000 in
theorem known_any (A : Option Addr) (c : Nat) (l : List VwM) (n : Int) (w : World) (h : viewE.Box w A l) (hn : l.length ≤ 1000000000) :
  Calls Tryz.prog 90 #[.slice A l.length c, .int .i64 n] w (GivesKn w (knownV (vws l) n)) := by
 have H0 := hJ (Ext.new w (.cells #[.int .i64 0, .slice none 0 0] 46))
 have H := hJ h; clear h
 go_enter Tryz.func90, Tryz.ntmps90
 go_wp2; go_loopw [10] (fun i wr => ∃ k : Nat, k ≤ l.length ∧ i = .int .i64 k ∧ Hid (knownV ((vws l).take k) n = none) ∧ Ext (w.alloc (.cells #[.int .i64 0, .slice none 0 0] 46)) wr) (fun i _ => l.length - (intOf i).toNat)
 case atStart => exact ⟨0, Nat.zero_le _, rfl, hJ rfl, Ext.refl _⟩
 case round =>
  obtain ⟨k, hk, rfl, HT, HS0⟩ := hrel
  have HS := hJ HS0; clear HS0
  have q0 : wr.cell? ⟨w.heap.size, 0, none⟩ = some (.int .i64 0) := by simpa using HS.out.cell_new 0
  have q1 : wr.cell? ⟨w.heap.size, 1, none⟩ = some (.slice none 0 0) := by simpa using HS.out.cell_new 1
  have f0 : wr.frozen? ⟨w.heap.size, 0, none⟩ = false := HS.out.frozen_new 0
  have f1 : wr.frozen? ⟨w.heap.size, 1, none⟩ = false := HS.out.frozen_new 1
  have z1 : w.heap.size < wr.heap.size := by have := HS.out.size; simp at this; omega
  by_cases hlt : k < l.length
  ·obtain ⟨b, off, m, X, cx, xs, rfl, hb0, d0, d1, HR, hl1, hl2, HX⟩ := views_at H.out hlt
   have hb : b < wr.heap.size := by omega
   have c0 : wr.cell? ⟨b, off + k * 2, none⟩ = some (.int .i64 m) := by rw [(H0.out.trans HS.out).cell (by exact hb0)]; exact d0
   have c1 : wr.cell? ⟨b, off + k * 2 + 1, none⟩ = some (.slice X xs.length cx) := by rw [(H0.out.trans HS.out).cell (by exact hb0)]; exact d1
   clear d0 d1; cases he : m == n
   ·have HE := hJ he
    go_wp2; go_roundw
    case rel => exact ⟨k + 1, by omega, by go_num, hJ (find_no (vws_at HX.out) HE.out HT.out), HS.out.alloc _⟩
    case measure => simp [intOf]; omega
   ·have HE := hJ (find_yes (vws_at HX.out) he HT.out)
    have X1 := hJ ((((H0.out.trans HS.out).set (p := ⟨w.heap.size, 0, none⟩) (by simp) (.int .i64 m)).set (p := ⟨w.heap.size, 1, none⟩) (by simp) (.slice X xs.length cx)).alloc (.cells #[.int .i64 m, .slice X xs.length cx] 46))
    have z2 : w.heap.size ≠ wr.heap.size := by omega
    go_wp2; refine bodyPost_ret (v := .tuple #[.agg #[.int .i64 m, .slice X xs.length cx], .bool true]) (by simp [results, Tryz.results90, go_sem, q0, q1, z1]) rfl ?_
    rw [HE.out]
    exact ⟨X, cx, rfl, hl1, hl2, hJ (HR.out.ext X1.out), X1.out⟩
  ·have HE := hJ (find_all (l := vws l) (by rw [vws_len]; exact hlt) HT.out)
   go_wp2; refine bodyPost_ret (v := .tuple #[.agg #[.int .i64 0, .slice none 0 0], .bool false]) (by simp [results, Tryz.results90, go_sem, q0, q1]) rfl ?_
   rw [HE.out]
   exact ⟨none, 0, rfl, Nat.le_refl _, Nat.zero_le _, hJ (Row.nil _ _), ((H0.out.trans HS.out).set (by simp) _).set (by simp) _⟩
set_option maxRecDepth 100000 in
theorem sequencer_any (n : Int) (A : Option Addr) (c : Nat) (xs : List Int) (w : World) (h : Row w A (ints xs)) (hn : xs.length ≤ 9223372036854775807) :
  Calls Tryz.prog 51 #[.agg #[.int .i64 n, .slice A xs.length c]] w fun e w' => e = .returned (.int .i64 (seqrF (n, xs))) ∧ Ext w w' := by
 have H0 := hJ (Ext.new w (.cells #[.int .i64 n, .slice A xs.length c] 46))
 have HX := hJ (h.ext H0.out)
 clear h; go_enter Tryz.func51, Tryz.ntmps51
 go_wp2_with fail
 refine (valid_any n A c xs _ HX.out hn).mono ?_
 cases hv : validB n xs
 ·have HV := hJ hv; clear hv
  rintro e w1 ⟨rfl, hx1⟩
  have X1 := hJ (H0.out.trans hx1); clear hx1
  go_wp2; go_ret
  exact ⟨ret_int (by simp [seqrF, HV.out]), X1.out⟩
 ·have HV := hJ hv
  have hvl := validB_len hv
  clear hv; rintro e w1 ⟨rfl, hx1⟩
  have X1 := hJ (H0.out.trans hx1)
  have q1 : w1.cell? ⟨w.heap.size, 1, none⟩ = some (.slice A xs.length c) := by simpa using hx1.cell_new 1
  obtain ⟨b, off, x, rfl, hcx, HXx⟩ := (HX.out.ext hx1).at_ (show 0 < xs.length by omega)
  simp only [Nat.add_zero] at hcx
  have k0 : 0 < xs.length := by omega
  have k1 : (0 : Int) < (xs.length : Int) := by omega
  clear hx1; go_wp2; go_ret
  exact ⟨ret_int (by simp [seqrF, HV.out, HXx.out]), X1.out⟩
theorem bas_no {l : List Ent} {b : Int} (h : b = -1) : basedB l b = decide (l.length = 0) := by simp [basedB, h]
theorem bas_yes {l : List Ent} {b : Int} (h : b ≠ -1) : basedB l b = (decide (0 < l.length) && (validLog l && decide (lastE l = b))) := by simp [basedB, h]
theorem lastE_at {l : List Ent} {j : Nat} {e : Ent} (hj : l.length = j + 1) (h : l[j]? = some e) : lastE l = e.v := by
 unfold lastE; rw [hj, Nat.add_sub_cancel, h]
set_option maxRecDepth 100000 in
set_option maxHeartbeats 1000000 in
theorem based_any (A : Option Addr) (c : Nat) (l : List Ent) (base : Int) (w : World) (h : Row w A (entE.cells l)) (hn : l.length ≤ 1000000000) (hp : ∀ e ∈ l, e.p.length ≤ 1000000) :
  Calls Tryz.prog 89 #[.slice A l.length c, .int .i64 base] w fun e w' => e = .returned (.bool (basedB l base)) ∧ Ext w w' := by
 have H := hJ h; have HPL := hJ hp; clear h hp
 by_cases hb : base = -1
 ·have HB := hJ hb
  subst hb
  go_enter Tryz.func89, Tryz.ntmps89
  go_wp2; go_ret
  exact ⟨ret_bool (by rw [bas_no rfl, Bool.eq_iff_iff]; simp), Ext.refl _⟩
 ·have HB := hJ (bas_yes (l := l) hb)
  have hb' : (base == -1) = false := beq_eq_false_iff_ne.2 hb
  clear hb; by_cases hz : l.length = 0
  ·have hz' : decide ((0 : Int) < (l.length : Int)) = false := decide_eq_false (by omega)
   have hz2 : decide (0 < l.length) = false := decide_eq_false (by omega)
   have HZ := hJ hz2
   clear hz; go_enter Tryz.func89, Tryz.ntmps89
   go_wp2; go_ret
   exact ⟨ret_bool (by rw [HB.out, HZ.out]; rfl), Ext.refl _⟩
  ·obtain ⟨j, hj⟩ : ∃ j, l.length = j + 1 := ⟨l.length - 1, by omega⟩
   have hz' : decide ((0 : Int) < (l.length : Int)) = true := decide_eq_true (by omega)
   have hz2 : decide (0 < l.length) = true := decide_eq_true (by omega)
   have HZ := hJ hz2
   have hw1 : IntKind.i64.wrap ((l.length : Int) - 1) = (j : Int) := by rw [IntWalk.i64_in _ (by omega)]; omega
   have k1 : (0 : Int) ≤ (j : Int) := by omega
   have k2 : (j : Int) < (l.length : Int) := by omega
   have k3 : j < l.length := by omega
   have HJ := hJ hj
   clear hz hj; go_enter Tryz.func89, Tryz.ntmps89
   go_wp2_with fail
   refine (validLog_any A c l _ H.out hn HPL.out).mono ?_
   cases hv : validLog l
   ·have HV := hJ hv; clear hv
    rintro r w1 ⟨rfl, hx1⟩
    have X1 := hJ hx1; clear hx1
    go_wp2; go_ret
    exact ⟨ret_bool (by rw [HB.out, HV.out]; simp), X1.out⟩
   ·have HV := hJ hv; clear hv
    rintro r w1 ⟨rfl, hx1⟩
    have X1 := hJ hx1
    obtain ⟨b, off, e, rfl, hb, c0, c1, c2, c3, HX⟩ := ents_at (H.out.ext hx1) k3
    have HL := hJ (lastE_at HJ.out HX.out)
    clear hx1; go_wp2; go_ret
    exact ⟨ret_bool (by rw [HB.out, HV.out, HZ.out, HL.out, Bool.eq_iff_iff]; simp), X1.out⟩
def sameL (a b : List Ent) : Bool := decide (a = b)
theorem neq_ent (a b : Ent) (w : World) : (binOp .neq 66 (entV a) (entV b)).run Tryz.prog w = .ok (.bool (!decide (a = b))) w := by
 obtain ⟨a1, a2, a3, a4⟩ := a
 obtain ⟨b1, b2, b3, b4⟩ := b
 unfold entV
 simp only [Ent.mk.injEq]
 by_cases h1 : a1 = b1
 ·by_cases h2 : a2 = b2
  ·by_cases h3 : a3 = b3
   ·by_cases h4 : a4 = b4
    ·simp [go_sem, h1, h2, h3, h4]
    ·simp [go_sem, h1, h2, h3, h4, strB_list]
   ·simp [go_sem, h1, h2, h3]
  ·simp [go_sem, h1, h2]
 ·simp [go_sem, h1]
theorem tk_step {xs ys : List Ent} {k : Nat} {x y : Ent} (hx : xs[k]? = some x) (hy : ys[k]? = some y) (he : x = y) (h : xs.take k = ys.take k) : xs.take (k + 1) = ys.take (k + 1) := by
 rw [take_snoc hx, take_snoc hy, h, he]
theorem tk_all {xs ys : List Ent} {k : Nat} (h1 : ¬ k < xs.length) (h2 : xs.length = ys.length) (h : xs.take k = ys.take k) : sameL xs ys = true := by
 rw [List.take_of_length_le (by omega), List.take_of_length_le (by omega)] at h; exact decide_eq_true h
theorem tk_diff {xs ys : List Ent} {k : Nat} {x y : Ent} (hx : xs[k]? = some x) (hy : ys[k]? = some y) (he : ¬ x = y) : sameL xs ys = false :=
 decide_eq_false fun h => by subst h; rw [hx] at hy; exact he (Option.some.inj hy)
set_option maxRecDepth 100000 in
theorem equalE_any (A A' : Option Addr) (c c' : Nat) (xs ys : List Ent) (w : World) (h : Row w A (entE.cells xs)) (h' : Row w A' (entE.cells ys)) (hn : xs.length ≤ 1000000000) :
  Calls Tryz.prog 179 #[.slice A xs.length c, .slice A' ys.length c'] w fun e w' => e = .returned (.bool (sameL xs ys)) ∧ Still w w' := by
 have H := hJ h; have H' := hJ h'; clear h h'
 by_cases hl : xs.length = ys.length
 ·have HL := hJ hl
  have hb : ((xs.length : Int) != (ys.length : Int)) = false := by simp [hl]
  have hle : ys.length ≤ xs.length := by omega
  have hge : xs.length ≤ ys.length := by omega
  clear hl; go_enter Tryz.func179, Tryz.ntmps179
  go_wp2; go_loopw [5, 13] (fun _ i wr => ∃ k : Nat, k ≤ xs.length ∧ i = .int .i64 k ∧ Hid (xs.take k = ys.take k) ∧ Still w wr) (fun _ i _ => xs.length - (intOf i).toNat)
  case atStart => exact ⟨0, Nat.zero_le _, rfl, hJ rfl, Still.refl _⟩
  case round =>
   obtain ⟨k, hk, rfl, HT, HS⟩ := hrel
   by_cases hlt : k < xs.length
   ·obtain ⟨b, off, x, rfl, hb1, c0, c1, c2, c3, HX⟩ := ents_at (HS.row H.out) hlt
    obtain ⟨b', off', y, rfl, hb2, d0, d1, d2, d3, HY⟩ := ents_at (HS.row H'.out) (show k < ys.length by omega)
    have hq := neq_ent x y
    unfold entV at hq
    by_cases he : x = y
    ·have HE := hJ he
     rw [decide_eq_true he] at hq
     clear he; go_wp2; go_quiet (fail)
     go_wp2; go_roundw
     case rel => exact ⟨k + 1, by omega, by go_num, hJ (tk_step HX.out HY.out HE.out HT.out), HS.drewN _⟩
     case measure => simp [intOf]; omega
    ·have HE := hJ he
     rw [decide_eq_false he] at hq
     clear he; go_wp2; go_quiet (fail)
     go_wp2; go_ret
     exact ⟨ret_bool (tk_diff HX.out HY.out HE.out).symm, HS.drewN _⟩
   ·go_wp2
    go_ret
    exact ⟨ret_bool (tk_all hlt HL.out HT.out).symm, HS⟩
 ·have HE : Hid (sameL xs ys = false) := hJ (decide_eq_false fun e => hl (by rw [e]))
  have hb : ((xs.length : Int) != (ys.length : Int)) = true := by simp; omega
  clear hl; go_enter Tryz.func179, Tryz.ntmps179
  go_wp2; go_ret
  exact ⟨ret_bool HE.out.symm, Still.refl _⟩
end Go.Proofs.YtponbabbabnaeaaGreat
namespace Go.Proofs.YtponbabbabnaeaaGreat
open Go.RowKit
theorem cells4 {w w' : World} {a b c d : Value} {t t' : TypeId} (h : Ext ((w.alloc (.cells #[a, b] t)).alloc (.cells #[c, d] t')) w') :
  w'.cell? ⟨w.heap.size, 0, none⟩ = some a ∧ w'.cell? ⟨w.heap.size, 1, none⟩ = some b ∧ w'.cell? ⟨w.heap.size + 1, 0, none⟩ = some c ∧ w'.cell? ⟨w.heap.size + 1, 1, none⟩ = some d ∧ w.heap.size + 1 < w'.heap.size := by
 have h1 : Ext (w.alloc (.cells #[a, b] t)) w' := (Ext.new _ _).trans h
 have e : (w.alloc (.cells #[a, b] t)).heap.size = w.heap.size + 1 := by simp
 refine ⟨by simpa using h1.cell_new 0, by simpa using h1.cell_new 1, ?_, ?_, ?_⟩
 ·have := h.cell_new 0; rw [e] at this; simpa using this
 ·have := h.cell_new 1; rw [e] at this; simpa using this
 ·have := h.size; simp at this; omega
theorem cell_set_far {w : World} {p q : Addr} {u v : Value} (h : w.cell? q = some v) (hne : q.block ≠ p.block) : (w.setCell p u).cell? q = some v := (World.cell?_of_block (Below.heap_setCell _ _ _ _ hne)).trans h
theorem new3 {w v1 : World} {o1 o2 : Obj} {a b : Value} {t : TypeId} (h : Ext ((((w.alloc o1).alloc o2).alloc (.cells #[a, b] t)).drew) v1) :
  v1.cell? ⟨w.heap.size + 1 + 1, 0, none⟩ = some a ∧ v1.cell? ⟨w.heap.size + 1 + 1, 1, none⟩ = some b ∧ v1.frozen? ⟨w.heap.size + 1 + 1, 0, none⟩ = false ∧ v1.frozen? ⟨w.heap.size + 1 + 1, 1, none⟩ = false := by
 have h1 : Ext (((w.alloc o1).alloc o2).alloc (.cells #[a, b] t)) v1 := Ext.trans (Ext.drew (Ext.refl _)) h
 have e : ((w.alloc o1).alloc o2).heap.size = w.heap.size + 1 + 1 := by simp
 have a0 := h1.cell_new 0; have a1 := h1.cell_new 1; have a2 := h1.frozen_new 0; have a3 := h1.frozen_new 1
 rw [e] at a0 a1 a2 a3
 exact ⟨by simpa using a0, by simpa using a1, a2, a3⟩
theorem follow_eq (n m : Int) (xs ys : List Int) {r : Int × List Int × Int} (hr : nextF n xs (diffF n xs m ys) = r) : followB (n, xs) (m, ys) = (decide (r.2.2 = 0) && (decide (r.1 = m) && sameB r.2.1 ys)) := by
 unfold followB
 simp only [hr]
 obtain ⟨a, b, c⟩ := r
 rw [Bool.eq_iff_iff]
 simp only [Prod.mk.injEq, decide_eq_true_eq, Bool.and_eq_true, sameB]
 exact ⟨fun ⟨h1, h2, h3⟩ => ⟨h3, h1, h2⟩, fun ⟨h1, h2, h3⟩ => ⟨h2, h3, h1⟩⟩
set_option maxRecDepth 100000 in
set_option maxHeartbeats 4000000 in
theorem successor_any (n m : Int) (A B : Option Addr) (c d : Nat) (xs ys : List Int) (w : World) (hx : Row w A (ints xs)) (hy : Row w B (ints ys)) (hn : xs.length ≤ 1000000) (hm : ys.length ≤ 1000000) :
  Calls Tryz.prog 159 #[.agg #[.int .i64 n, .slice A xs.length c], .agg #[.int .i64 m, .slice B ys.length d]] w fun e w' => e = .returned (.bool (followB (n, xs) (m, ys))) ∧ Ext w w' := by
 have H0 := hJ ((Ext.new w (.cells #[.int .i64 n, .slice A xs.length c] 46)).alloc (.cells #[.int .i64 m, .slice B ys.length d] 46))
 have hn' : xs.length ≤ 9223372036854775807 := by omega
 have hm' : ys.length ≤ 9223372036854775807 := by omega
 obtain ⟨dl, hdl⟩ : ∃ l, diffF n xs m ys = l := ⟨_, rfl⟩
 have hdn : dl.length ≤ 9223372036854775807 := by
  rw [← hdl]
  unfold diffF
  split
  ·rw [len_mergeL]; have := among_len xs ys false; have := among_len ys xs false; omega
  ·simp
 obtain ⟨⟨nn, zs, er⟩, hr⟩ : ∃ r, nextF n xs dl = r := ⟨_, rfl⟩
 have HF := hJ (follow_eq n m xs ys (r := (nn, zs, er)) (by rw [hdl]; exact hr))
 have HD := hJ hdl; have HN := hJ hr
 clear hdl hr; simp only at HF
 have RX0 := hJ (hx.ext H0.out.drew); have RY0 := hJ (hy.ext H0.out.drew)
 have RX1 := hJ (hx.ext ((H0.out.alloc (.cells #[.int .i64 0, .slice none 0 0] 46)).drew)); have RY1 := hJ (hy.ext ((H0.out.alloc (.cells #[.int .i64 0, .slice none 0 0] 46)).drew))
 have HX := hJ (hx.ext H0.out); have HY := hJ (hy.ext H0.out)
 clear hx hy; go_enter Tryz.func159, Tryz.ntmps159
 go_upto_region 1 with fail
 go_cut [5, 6] (fun s5 s6 wx => ∃ p A1 c1, s5 = .pointer (some ⟨p, 0, none⟩) ∧ s6 = .int .i64 er ∧ wx.cell? ⟨p, 0, none⟩ = some (.int .i64 nn) ∧ wx.cell? ⟨p, 1, none⟩ = some (.slice A1 zs.length c1) ∧ zs.length ≤ c1 ∧ c1 ≤ maxLen ∧ Hid (Row wx A1 (ints zs)) ∧ Ext ((w.alloc (.cells #[.int .i64 n, .slice A xs.length c] 46)).alloc (.cells #[.int .i64 m, .slice B ys.length d] 46)) wx)
 case first =>
  go_region_held3 (fun w' => w'.cell? ⟨w.heap.size, 0, none⟩ = some (.int .i64 n) ∧ w'.cell? ⟨w.heap.size, 1, none⟩ = some (.slice A xs.length c) ∧ w'.cell? ⟨w.heap.size + 1, 0, none⟩ = some (.int .i64 m) ∧ w'.cell? ⟨w.heap.size + 1, 1, none⟩ = some (.slice B ys.length d))
   (first | exact ⟨r0, r1, r2, r3⟩ | exact ⟨t0, t1, t2, t3⟩ | exact ⟨cell_set_far (cell_set_far t0 (by simp only; omega)) (by simp only; omega), cell_set_far (cell_set_far t1 (by simp only; omega)) (by simp only; omega), cell_set_far (cell_set_far t2 (by simp only; omega)) (by simp only; omega), cell_set_far (cell_set_far t3 (by simp only; omega)) (by simp only; omega)⟩ | (go_keep; done))
   (first
    | (go_at_call 195; (with_reducible refine (diff_any n m A B c d xs ys _ (by first | exact RX0.out | exact RX1.out) (by first | exact RY0.out | exact RY1.out) hn' hm').mono ?_); rw [HD.out]; rintro e v1 ⟨A1, c1, rfl, h11, h12, ho1, hx1⟩; have RD0 := hJ ho1.row; have RD1 := hJ (RD0.out.ext (Ext.new _ (.cells #[.int .i64 0, .slice none 0 0] 46))); (first | have X1 : Hid (Ext ((w.alloc (.cells #[.int .i64 n, .slice A xs.length c] 46)).alloc (.cells #[.int .i64 m, .slice B ys.length d] 46)) v1) := hJ (Ext.trans (Ext.drew (Ext.refl _)) hx1) | have X1 : Hid (Ext ((w.alloc (.cells #[.int .i64 n, .slice A xs.length c] 46)).alloc (.cells #[.int .i64 m, .slice B ys.length d] 46)) v1) := hJ (Ext.trans (Ext.drew (Ext.new _ (.cells #[.int .i64 0, .slice none 0 0] 46))) hx1)); have RX2 := hJ (Row.ext (by first | exact RX0.out | exact RX1.out) hx1); have RX3 := hJ (RX2.out.ext (Ext.new _ (.cells #[.int .i64 0, .slice none 0 0] 46))); obtain ⟨r0, r1, r2, r3, y1⟩ := cells4 X1.out; clear ho1)
    | (go_at_call 194; (with_reducible refine (next_any n A A1 c c1 xs dl _ (by first | exact RX2.out | exact RX3.out) (by first | exact RD0.out | exact RD1.out) hn' hdn).mono ?_); rw [HN.out]; rintro e v2 ⟨A2, c2, rfl, h21, h22, ho2, hx2⟩; have RN0 := hJ ho2; have t0 : v2.cell? ⟨w.heap.size, 0, none⟩ = some (.int .i64 n) := (by rw [hx2.cell (by first | exact (show w.heap.size < v1.heap.size by omega) | (simp; omega))]; first | exact r0 | (rw [(Ext.new v1 _).cell (by exact (show w.heap.size < v1.heap.size by omega))]; exact r0)); have t1 : v2.cell? ⟨w.heap.size, 1, none⟩ = some (.slice A xs.length c) := (by rw [hx2.cell (by first | exact (show w.heap.size < v1.heap.size by omega) | (simp; omega))]; first | exact r1 | (rw [(Ext.new v1 _).cell (by exact (show w.heap.size < v1.heap.size by omega))]; exact r1)); have t2 : v2.cell? ⟨w.heap.size + 1, 0, none⟩ = some (.int .i64 m) := (by rw [hx2.cell (by first | exact (show w.heap.size + 1 < v1.heap.size by omega) | (simp; omega))]; first | exact r2 | (rw [(Ext.new v1 _).cell (by exact (show w.heap.size + 1 < v1.heap.size by omega))]; exact r2)); have t3 : v2.cell? ⟨w.heap.size + 1, 1, none⟩ = some (.slice B ys.length d) := (by rw [hx2.cell (by first | exact (show w.heap.size + 1 < v1.heap.size by omega) | (simp; omega))]; first | exact r3 | (rw [(Ext.new v1 _).cell (by exact (show w.heap.size + 1 < v1.heap.size by omega))]; exact r3)); have y2 : w.heap.size + 1 < v2.heap.size := (by have := hx2.size; first | omega | (simp at this; omega)); (first | (have k0 : v2.cell? ⟨v1.heap.size, 0, none⟩ = some (.int .i64 0) := (by rw [hx2.cell (by simp)]; simp); have k1 : v2.cell? ⟨v1.heap.size, 1, none⟩ = some (.slice none 0 0) := (by rw [hx2.cell (by simp)]; simp); have f0 : v2.frozen? ⟨v1.heap.size, 0, none⟩ = false := (by rw [hx2.frozen (by simp)]; simp); have f1 : v2.frozen? ⟨v1.heap.size, 1, none⟩ = false := (by rw [hx2.frozen (by simp)]; simp); have n1 : w.heap.size ≠ v1.heap.size := (by omega); have n2 : w.heap.size + 1 ≠ v1.heap.size := (by omega)) | (have y3 : w.heap.size + 2 < v1.heap.size := (by have := hx1.size; simp at this; omega); have g1 := hJ (new3 hx1); have k0 : v2.cell? ⟨w.heap.size + 1 + 1, 0, none⟩ = some (.int .i64 0) := (by rw [hx2.cell (by exact y3)]; exact g1.out.1); have k1 : v2.cell? ⟨w.heap.size + 1 + 1, 1, none⟩ = some (.slice none 0 0) := (by rw [hx2.cell (by exact y3)]; exact g1.out.2.1); have f0 : v2.frozen? ⟨w.heap.size + 1 + 1, 0, none⟩ = false := (by rw [hx2.frozen (by exact y3)]; exact g1.out.2.2.1); have f1 : v2.frozen? ⟨w.heap.size + 1 + 1, 1, none⟩ = false := (by rw [hx2.frozen (by exact y3)]; exact g1.out.2.2.2)) | skip); clear ho2))
  ·have X2 := hJ (X1.out.trans hx2)
   go_wp2; go_meet
   case rel => exact ⟨v2.heap.size, A2, c2, rfl, rfl, by simp, by simp, h21, h22, hJ (RN0.out.row.ext (Ext.new _ _)), X2.out.alloc _⟩
  ·have X2 := hJ (X1.out.trans ((Ext.new _ _).trans hx2))
   have RN1 := hJ ((RN0.out.set (p := ⟨v1.heap.size, 0, none⟩) (fun q hq => by have := (RN0.out.lt q hq).1; simp at this; simp only; omega) (.int .i64 nn)).set (p := ⟨v1.heap.size, 1, none⟩) (fun q hq => by have := (RN0.out.lt q hq).1; simp at this; simp only; omega) (.slice A2 zs.length c2))
   go_wp2; go_meet
   case rel => exact ⟨v1.heap.size, A2, c2, rfl, rfl, by simp [go_sem, k0], by simp [go_sem, k1], h21, h22, hJ RN1.out.row, (X2.out.set (by simp; omega) _).set (by simp; omega) _⟩
  ·have X2 := hJ (X1.out.trans hx2)
   have RN1 := hJ ((RN0.out.set (p := ⟨w.heap.size + 1 + 1, 0, none⟩) (fun q hq => by have := (RN0.out.lt q hq).1; simp only; omega) (.int .i64 nn)).set (p := ⟨w.heap.size + 1 + 1, 1, none⟩) (fun q hq => by have := (RN0.out.lt q hq).1; simp only; omega) (.slice A2 zs.length c2))
   go_wp2; go_meet
   case rel => exact ⟨w.heap.size + 1 + 1, A2, c2, rfl, rfl, by simp [go_sem, k0], by simp [go_sem, k1], h21, h22, hJ RN1.out.row, (X2.out.set (by simp) _).set (by simp) _⟩
 case rest =>
  obtain ⟨p, A1, c1, rfl, rfl, s0, s1, h1, h2, HR, HS0⟩ := hcut
  have HS := hJ HS0; clear HS0
  obtain ⟨r0, r1, r2, r3, y1⟩ := cells4 HS.out
  by_cases he : er = 0
  rotate_left
  ·have he' : (er == 0) = false := beq_eq_false_iff_ne.2 he
   have HE := hJ he
   clear he; go_wp2; go_ret
   exact ⟨ret_bool (by rw [HF.out, decide_eq_false HE.out]; rfl), H0.out.trans HS.out⟩
  subst he
  by_cases hv : nn = m
  rotate_left
  ·have hv' : (nn == m) = false := beq_eq_false_iff_ne.2 hv
   have HE := hJ hv
   clear hv; go_wp2; go_ret
   exact ⟨ret_bool (by rw [HF.out, decide_eq_false HE.out]; rfl), H0.out.trans HS.out⟩
  subst hv
  go_wp2_with fail
  refine (equal_any _ _ _ _ zs ys _ HR.out (HY.out.ext HS.out) (by unfold maxLen at h2; omega)).mono ?_
  rintro e w4 ⟨rfl, hs4⟩
  have X4 := hJ (HS.out.trans hs4.ext)
  clear hs4; go_wp2; go_ret
  exact ⟨ret_bool (by rw [HF.out]; simp), H0.out.trans X4.out⟩
end Go.Proofs.YtponbabbabnaeaaGreat
