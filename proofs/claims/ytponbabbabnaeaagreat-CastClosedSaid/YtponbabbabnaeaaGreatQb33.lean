/- Part 33 of the proof: contracts of functions that the statement reaches. Conditions: as each theorem says. -/
import Derived.Test.YtponbabbabnaeaaGreatRows
import Derived.ProofKit
import Derived.OpenShut
import Derived.ShutString
import Derived.ChangeOld
import Derived.Below
import Derived.Lib.SmallJoins
import Derived.Deep.Slices
import Derived.Deep.Fields
import Derived.ChangeMaps5
import Derived.Test.YtponbabbabnaeaaGreatQb32
import Derived.Test.YtponbabbabnaeaaGreatQb01
import Derived.Test.YtponbabbabnaeaaGreatQb10
import Derived.Test.YtponbabbabnaeaaGreatQb11
namespace Go.Proofs.YtponbabbabnaeaaGreat
open Go.RowKit
set_option maxRecDepth 100000 in
theorem samelog_any (A A' : Option Addr) (c c' : Nat) (xs ys : List Ent) (w : World) (h : Row w A (entE.cells xs)) (h' : Row w A' (entE.cells ys)) (hn : xs.length ≤ 1000000000) :
  Calls Tryz.prog 20 #[.slice A xs.length c, .slice A' ys.length c'] w fun e w' => e = .returned (.bool (sameL xs ys)) ∧ Ext w w' := by
 have H := hJ h; have H' := hJ h'; clear h h'
 by_cases hl : xs.length = ys.length
 ·have HL := hJ hl
  have hb : ((xs.length : Int) != (ys.length : Int)) = false := by simp [hl]
  have hle : ys.length ≤ xs.length := by omega
  have hge : xs.length ≤ ys.length := by omega
  clear hl; go_enter Tryz.func20, Tryz.ntmps20
  go_wp2; go_loopw [5] (fun i wr => ∃ k : Nat, k ≤ xs.length ∧ i = .int .i64 k ∧ Hid (xs.take k = ys.take k) ∧ Hid (Ext w wr)) (fun i _ => xs.length - (intOf i).toNat)
  case atStart => exact ⟨0, Nat.zero_le _, rfl, hJ rfl, hJ (Ext.refl _)⟩
  case round =>
   obtain ⟨k, hk, rfl, HT, HS⟩ := hrel
   by_cases hlt : k < xs.length
   ·obtain ⟨b, off, x, rfl, hb1, c0, c1, c2, c3, HX⟩ := ents_at (H.out.ext HS.out) hlt
    obtain ⟨b', off', y, rfl, hb2, d0, d1, d2, d3, HY⟩ := ents_at (H'.out.ext HS.out) (show k < ys.length by omega)
    have hq := neq_ent x y
    unfold entV at hq
    have X1 : ∀ n, Hid (Ext w (wr.drewN n)) := fun n => hJ (HS.out.drewN n)
    by_cases he : x = y
    ·have HE := hJ he
     rw [decide_eq_true he] at hq
     clear he; go_wp2; go_quiet (fail)
     go_wp2; go_roundw
     case rel => exact ⟨k + 1, by omega, by go_num, hJ (tk_step HX.out HY.out HE.out HT.out), X1 _⟩
     case measure => simp [intOf]; omega
    ·have HE := hJ he
     rw [decide_eq_false he] at hq
     clear he; go_wp2; go_quiet (fail)
     go_wp2; go_ret
     exact ⟨ret_bool (tk_diff HX.out HY.out HE.out).symm, (X1 _).out⟩
   ·go_wp2
    go_ret
    exact ⟨ret_bool (tk_all hlt HL.out HT.out).symm, HS.out⟩
 ·have HE : Hid (sameL xs ys = false) := hJ (decide_eq_false fun e => hl (by rw [e]))
  have hb : ((xs.length : Int) != (ys.length : Int)) = true := by simp; omega
  clear hl; go_enter Tryz.func20, Tryz.ntmps20
  go_wp2; go_ret
  exact ⟨ret_bool HE.out.symm, Ext.refl _⟩
theorem samelog_len (A A' : Option Addr) (k k' c c' : Nat) (xs ys : List Ent) (w : World) (h : Row w A (entE.cells xs)) (h' : Row w A' (entE.cells ys)) (hk : k = xs.length) (hk' : k' = ys.length) (hn : k ≤ 1000000000) :
  Calls Tryz.prog 20 #[.slice A k c, .slice A' k' c'] w fun e w' => e = .returned (.bool (sameL xs ys)) ∧ Ext w w' := by subst hk hk'; exact samelog_any A A' c c' xs ys w h h' hn
set_option maxRecDepth 100000 in
set_option maxHeartbeats 2000000 in
theorem grown12_any (s t : BM) (A : Option Addr) (c : Nat) (l : List Ent) (w : World) (rs : Row w s.Al (entE.cells s.log)) (rt : Row w t.Al (entE.cells t.log)) (rl : Row w A (entE.cells l)) (hs0 : 0 ≤ s.stable ∧ s.stable ≤ s.log.length) (ht0 : t.stable ≤ t.log.length) (hst : t.stable = s.stable + l.length) (hdl : cutL t.log s.stable t.stable = l) (hpre : t.log.take s.stable.toNat = s.log.take s.stable.toNat)
  (hsc : s.log.length ≤ s.cl) (htc : t.log.length ≤ t.cl) (hn : t.log.length ≤ 100000) :
  Calls Tryz.prog 25 #[.agg s.cells, .agg t.cells, .slice A l.length c] w fun e w' => e = .returned (.bool true) ∧ Ext w w' := by
 obtain ⟨sn, hsn⟩ : ∃ k : Nat, s.stable = (k : Int) := ⟨s.stable.toNat, by omega⟩
 obtain ⟨tn, htn⟩ : ∃ k : Nat, t.stable = (k : Int) := ⟨t.stable.toNat, by omega⟩
 have HSN := hJ hsn; have HTN := hJ htn
 have f1 : tn = sn + l.length := by omega
 have f2 : tn ≤ t.log.length := by omega
 have f3 : sn ≤ s.log.length := by omega
 have HQ1 : Hid (sameL ((t.log.take tn).drop sn) l = true) := hJ (decide_eq_true (by rw [hsn, htn] at hdl; exact hdl))
 have HQ2 : Hid (sameL (t.log.take sn) (s.log.take sn) = true) := hJ (decide_eq_true (by rw [hsn] at hpre; exact hpre))
 have RS0 := hJ rs; have RT0 := hJ rt; have RL0 := hJ rl
 have E0 : Hid (Ext w ((w.alloc (.cells #[.int .i64 s.self, .slice s.Av s.vs.length s.cv, .int .i64 s.base, .slice s.Al s.log.length s.cl, .int .i64 s.stable, .int .i64 s.sent, .slice s.Ap s.pend.length s.cp, .slice s.Am s.marks.length s.cm, .slice s.Af s.fls.length s.cf] 28)).alloc (.cells #[.int .i64 t.self, .slice t.Av t.vs.length t.cv, .int .i64 t.base, .slice t.Al t.log.length t.cl, .int .i64 t.stable, .int .i64 t.sent, .slice t.Ap t.pend.length t.cp, .slice t.Am t.marks.length t.cm, .slice t.Af t.fls.length t.cf] 28))) := hJ ((Ext.new _ _).trans (Ext.new _ _))
 have BS : Hid (BIs ((w.alloc (.cells #[.int .i64 s.self, .slice s.Av s.vs.length s.cv, .int .i64 s.base, .slice s.Al s.log.length s.cl, .int .i64 s.stable, .int .i64 s.sent, .slice s.Ap s.pend.length s.cp, .slice s.Am s.marks.length s.cm, .slice s.Af s.fls.length s.cf] 28)).alloc (.cells #[.int .i64 t.self, .slice t.Av t.vs.length t.cv, .int .i64 t.base, .slice t.Al t.log.length t.cl, .int .i64 t.stable, .int .i64 t.sent, .slice t.Ap t.pend.length t.cp, .slice t.Am t.marks.length t.cm, .slice t.Af t.fls.length t.cf] 28)) w.heap.size #[.int .i64 s.self, .slice s.Av s.vs.length s.cv, .int .i64 s.base, .slice s.Al s.log.length s.cl, .int .i64 s.stable, .int .i64 s.sent, .slice s.Ap s.pend.length s.cp, .slice s.Am s.marks.length s.cm, .slice s.Af s.fls.length s.cf] 28) := hJ ((BIs.new _ _ _).ext (Ext.new _ _))
 have BT : Hid (BIs ((w.alloc (.cells #[.int .i64 s.self, .slice s.Av s.vs.length s.cv, .int .i64 s.base, .slice s.Al s.log.length s.cl, .int .i64 s.stable, .int .i64 s.sent, .slice s.Ap s.pend.length s.cp, .slice s.Am s.marks.length s.cm, .slice s.Af s.fls.length s.cf] 28)).alloc (.cells #[.int .i64 t.self, .slice t.Av t.vs.length t.cv, .int .i64 t.base, .slice t.Al t.log.length t.cl, .int .i64 t.stable, .int .i64 t.sent, .slice t.Ap t.pend.length t.cp, .slice t.Am t.marks.length t.cm, .slice t.Af t.fls.length t.cf] 28)) (w.heap.size + 1) #[.int .i64 t.self, .slice t.Av t.vs.length t.cv, .int .i64 t.base, .slice t.Al t.log.length t.cl, .int .i64 t.stable, .int .i64 t.sent, .slice t.Ap t.pend.length t.cp, .slice t.Am t.marks.length t.cm, .slice t.Af t.fls.length t.cf] 28) := hJ (by have := BIs.new (w.alloc (.cells #[.int .i64 s.self, .slice s.Av s.vs.length s.cv, .int .i64 s.base, .slice s.Al s.log.length s.cl, .int .i64 s.stable, .int .i64 s.sent, .slice s.Ap s.pend.length s.cp, .slice s.Am s.marks.length s.cm, .slice s.Af s.fls.length s.cf] 28)) #[.int .i64 t.self, .slice t.Av t.vs.length t.cv, .int .i64 t.base, .slice t.Al t.log.length t.cl, .int .i64 t.stable, .int .i64 t.sent, .slice t.Ap t.pend.length t.cp, .slice t.Am t.marks.length t.cm, .slice t.Af t.fls.length t.cf] 28; simpa using this)
 have hsl1 : ∀ W, (Instr.slice 23 (.slice t.Al t.log.length t.cl) (some (.int .i64 (sn : Int))) (some (.int .i64 (tn : Int))) none).run Tryz.prog W = .ok (.slice (subA t.Al sn t.cl 4) (tn - sn) (t.cl - sn)) W := fun W => entE.slice_lh t.Al t.log.length t.cl sn tn _ _ rfl rfl (by omega) (by omega) W
 have hsl2 : ∀ W, (Instr.slice 23 (.slice t.Al t.log.length t.cl) none (some (.int .i64 (sn : Int))) none).run Tryz.prog W = .ok (.slice t.Al sn t.cl) W := fun W => entE.slice_h t.Al t.log.length t.cl sn _ rfl (by omega) W
 have hsl3 : ∀ W, (Instr.slice 23 (.slice s.Al s.log.length s.cl) none (some (.int .i64 (sn : Int))) none).run Tryz.prog W = .ok (.slice s.Al sn s.cl) W := fun W => entE.slice_h s.Al s.log.length s.cl sn _ rfl (by omega) W
 have d1 : ((tn : Int) == (sn : Int) + (l.length : Int)) = true := by simp only [beq_iff_eq]; omega
 have d2 : decide ((tn : Int) ≤ (t.log.length : Int)) = true := by simp only [decide_eq_true_eq]; omega
 have d3 : decide ((sn : Int) ≤ (t.log.length : Int)) = true := by simp only [decide_eq_true_eq]; omega
 have hwr : IntKind.i64.wrap ((sn : Int) + (l.length : Int)) = (sn : Int) + (l.length : Int) := IntWalk.i64_in _ (by omega)
 clear rs rt rl hdl hpre hst hs0 ht0 hsn htn; have f4 : sn ≤ t.log.length := by omega
 have HF1 := hJ f1
 clear f1; unfold BM.cells
 go_enter Tryz.func25, Tryz.ntmps25
 go_upto_region 1 with fail
 generalize ((w.alloc (.cells #[.int .i64 s.self, .slice s.Av s.vs.length s.cv, .int .i64 s.base, .slice s.Al s.log.length s.cl, .int .i64 s.stable, .int .i64 s.sent, .slice s.Ap s.pend.length s.cp, .slice s.Am s.marks.length s.cm, .slice s.Af s.fls.length s.cf] 28)).alloc (.cells #[.int .i64 t.self, .slice t.Av t.vs.length t.cv, .int .i64 t.base, .slice t.Al t.log.length t.cl, .int .i64 t.stable, .int .i64 t.sent, .slice t.Ap t.pend.length t.cp, .slice t.Am t.marks.length t.cm, .slice t.Af t.fls.length t.cf] 28)) = u0 at *
 have XX : Hid (Ext u0 u0) := hJ (Ext.refl _)
 have RS := hJ (RS0.out.ext E0.out); have RT := hJ (RT0.out.ext E0.out); have RL := hJ (RL0.out.ext E0.out)
 refine E_begin 49 (fun w' => w'.cell? ⟨w.heap.size, 3, none⟩ = some (.slice s.Al s.log.length s.cl) ∧ w'.cell? ⟨w.heap.size, 4, none⟩ = some (.int .i64 (sn : Int)) ∧ w'.cell? ⟨w.heap.size + 1, 3, none⟩ = some (.slice t.Al t.log.length t.cl) ∧ w'.cell? ⟨w.heap.size + 1, 4, none⟩ = some (.int .i64 (tn : Int))) (by kernel_rfl) ⟨(BS.out.ext Ext.drew1).cell 3, by rw [← HSN.out]; exact (BS.out.ext Ext.drew1).cell 4, (BT.out.ext Ext.drew1).cell 3, by rw [← HTN.out]; exact (BT.out.ext Ext.drew1).cell 4⟩ (fun hHeld => ?_)
 have hx2 : Ext u0 u0.drew := Ext.drew1
 replace BS := hJ (BS.out.ext hx2); replace BT := hJ (BT.out.ext hx2); replace XX := hJ (XX.out.trans hx2); clear hx2
 generalize u0.drew = u1 at *
 refine E_t 0 7 ?_; refine E_t 1 8 ?_; refine E_t 2 9 ?_; refine E_t 3 10 ?_; refine E_t 4 11 ?_; refine E_t 5 12 ?_; refine E_t 6 13 ?_; refine E_t 7 14 ?_; refine E_t 8 15 ?_; refine E_t 9 16 ?_; refine E_t 10 17 ?_; refine E_t 11 18 ?_; refine E_t 12 19 ?_; refine E_t 13 20 ?_; refine E_t 14 21 ?_; refine E_t 15 22 ?_; refine E_t 16 23 ?_; refine E_t 17 24 ?_; refine E_t 18 25 ?_; refine E_t 19 26 ?_; refine E_t 20 27 ?_; refine E_t 21 28 ?_; refine E_t 22 29 ?_; refine E_t 23 30 ?_; refine E_t 24 31 ?_; refine E_t 25 32 ?_; refine E_t 26 33 ?_; refine E_t 27 34 ?_; refine E_t 28 35 ?_; refine E_t 29 36 ?_; refine E_t 30 37 ?_; refine E_t 31 38 ?_; refine E_t 32 39 ?_; refine E_ready [33] (by kernel_rfl) (by simp) ?_
 refine AllE.cons (o := ⟨some 40, _, _, _, _, _⟩) rfl (fun K hK => ?_) AllE.nil
 go_simp; go_at_call 20; refine (samelog_len (subA t.Al sn t.cl 4) A (tn - sn) l.length (t.cl - sn) c ((t.log.take tn).drop sn) l _ (Elem.row_sub (RT.out.ext XX.out) htc sn tn) (RL.out.ext XX.out) (by rw [List.length_drop, List.length_take]; omega) rfl (by omega)).mono ?_
 rintro en w8 ⟨rfl, hx2⟩
 rw [HQ1.out]
 replace BS := hJ (BS.out.ext hx2); replace BT := hJ (BT.out.ext hx2); replace XX := hJ (XX.out.trans hx2); clear hx2
 clear hHeld; refine hK.out _ _ ⟨BS.out.cell 3, by rw [← HSN.out]; exact BS.out.cell 4, BT.out.cell 3, by rw [← HTN.out]; exact BT.out.cell 4⟩ (fun hHeld => ?_)
 clear hK K; try simp only [Act.put, aP1, aP2, aP3]
 refine E_t 34 41 ?_; refine E_t 35 42 ?_; refine E_t 36 43 ?_; refine E_t 37 44 ?_; refine E_t 38 45 ?_; refine E_t 39 46 ?_; refine E_t 40 47 ?_; refine E_t 41 48 ?_; refine E_t 42 49 ?_; refine E_t 43 50 ?_; refine E_t 44 51 ?_; refine E_t 45 52 ?_; refine E_ready [46] (by kernel_rfl) (by simp) ?_
 refine AllE.cons (o := ⟨some 53, _, _, _, _, _⟩) rfl (fun K hK => ?_) AllE.nil
 go_simp; go_at_call 20; refine (samelog_len t.Al s.Al sn sn t.cl s.cl (t.log.take sn) (s.log.take sn) _ (Elem.row_upto (RT.out.ext XX.out) sn) (Elem.row_upto (RS.out.ext XX.out) sn) (by rw [List.length_take]; omega) (by rw [List.length_take]; omega) (by omega)).mono ?_
 rintro en w9 ⟨rfl, hx2⟩
 rw [HQ2.out]
 replace BS := hJ (BS.out.ext hx2); replace BT := hJ (BT.out.ext hx2); replace XX := hJ (XX.out.trans hx2); clear hx2
 clear hHeld; refine hK.out _ _ ⟨BS.out.cell 3, by rw [← HSN.out]; exact BS.out.cell 4, BT.out.cell 3, by rw [← HTN.out]; exact BT.out.cell 4⟩ (fun hHeld => ?_)
 clear hK K; try simp only [Act.put, aP1, aP2, aP3]
 refine E_t 47 54 ?_; refine E_t 48 6 ?_; refine E_end (by kernel_rfl) (by rfl) ?_
 go_wp2; go_ret
 exact ⟨rfl, E0.out.trans XX.out⟩
end Go.Proofs.YtponbabbabnaeaaGreat
namespace Go.Proofs.YtponbabbabnaeaaGreat
open Go.ChangeShapes Go.WideShapes Go.ChangeAt Go.RowKit
theorem own : ownKnob Tryz.prog.godebug = none := by kernel_rfl
theorem laidOut : laidOutB Tryz.prog = true := by kernel_rfl
theorem row_of_nums {w : World} {a : Addr} {k : IntKind} {zs : List Int} {len : Nat} (hlen : len ≤ zs.length) (h : ∀ i, i < zs.length → w.cell? (a.add i) = some (.int k (zs.getD i 0))) :
  Row w (some a) ((zs.take len).map (Value.int k)) := by
 intro hne
 have hp : 0 < zs.length := by
  rcases Nat.eq_zero_or_pos zs.length with h0 | h0
  ·have : zs = [] := List.eq_nil_of_length_eq_zero h0
   subst this; simp at hne
  ·exact h0
 obtain ⟨b, off, rfl, hc⟩ := ints_at h hp
 refine ⟨b, off, rfl, ?_, fun j v hj => ?_⟩
 ·have := World.block_lt_of_cell? w _ (hc 0 hp); exact this
 ·simp only [List.getElem?_map, Option.map_eq_some_iff] at hj
  obtain ⟨x, hx, rfl⟩ := hj
  simp only [List.getElem?_take] at hx
  split at hx
  ·have hj' := (List.getElem?_eq_some_iff.1 hx).1
   rw [hc j hj']; simp [List.getD, hx]
  ·cases hx
section
variable {H : Type} {enc : TypeId × Value → H} {w : World} {base : Nat} {spare : Nat → Bool} {held : Bool}
theorem open_intsR {fuel : Nat} {cs : List Value} {x : DataW H × List MemPlace} (h : DataW.trod enc Tryz.prog w base spare held fuel 44 cs = some x) :
  ∃ A c, ∃ xs : List Int, cs = [.slice A xs.length c] ∧ xs.length ≤ c ∧ c ≤ maxLen ∧ Row w A (ints xs) ∧ ∀ x ∈ xs, I64 x := by
 rcases open_ints Tryz.underlying44 Tryz.underlying3 (by kernel_rfl) h with ⟨hcs, _⟩ | ⟨a, len, cap, zs, hcs, _, hl, hm, hz, _, hcell, hwz⟩
 ·exact ⟨none, 0, [], hcs, Nat.le_refl _, Nat.zero_le _, Row.nil _ _, fun x hx => by simp at hx⟩
 ·have hlz : len ≤ zs.length := by rw [hz]; split <;> omega
  refine ⟨some a, cap, zs.take len, by rw [hcs, List.length_take, Nat.min_eq_left hlz], by rw [List.length_take]; omega, hm, row_of_nums hlz hcell, fun x hx => ?_⟩
  have := bounds_i64 (hwz x (List.mem_of_mem_take hx))
  exact this
theorem open_bytesR {fuel : Nat} {cs : List Value} {x : DataW H × List MemPlace} (h : DataW.trod enc Tryz.prog w base spare held fuel 29 cs = some x) :
  ∃ A c, ∃ bs : List UInt8, cs = [.slice A bs.length c] ∧ bs.length ≤ c ∧ c ≤ maxLen ∧ Row w A (bytesV bs) := by
 rcases open_ints Tryz.underlying29 Tryz.underlying5 (by kernel_rfl) h with ⟨hcs, _⟩ | ⟨a, len, cap, zs, hcs, _, hl, hm, hz, _, hcell, hwz⟩
 ·exact ⟨none, 0, [], hcs, Nat.le_refl _, Nat.zero_le _, Row.nil _ _⟩
 ·have hlz : len ≤ zs.length := by rw [hz]; split <;> omega
  have hb : bytesV ((zs.take len).map fun z => UInt8.ofNat z.toNat) = (zs.take len).map (Value.int .u8) := by
   unfold bytesV
   rw [List.map_map]
   refine List.map_congr_left fun z hz' => ?_
   have hb := bounds_u8 (hwz z (List.mem_of_mem_take hz'))
   simp only [Function.comp, UInt8.toNat_ofNat']
   congr 1
   omega
  refine ⟨some a, cap, (zs.take len).map fun z => UInt8.ofNat z.toNat, by rw [hcs, List.length_map, List.length_take, Nat.min_eq_left hlz], by rw [List.length_map, List.length_take]; omega, hm, ?_⟩
  rw [hb]; exact row_of_nums hlz hcell
theorem open_i64R {fuel : Nat} {cs : List Value} {x : DataW H × List MemPlace} (h : DataW.trod enc Tryz.prog w base spare held fuel 3 cs = some x) : ∃ n, cs = [.int .i64 n] ∧ I64 n := by
 obtain ⟨n, h1, _, h3⟩ := DataW.trod_int Tryz.underlying3 h
 exact ⟨n, h1, bounds_i64 h3⟩
set_option maxRecDepth 100000 in
theorem argBytes {r : Reach} {b0 : Nat} {v : Value} {d : DataW H} {p : List MemPlace} (hv : Value.okWide Tryz.prog w r b0 29 v) (h : DataW.Trod enc Tryz.prog w base spare held 29 v d p) :
  ∃ A c, ∃ bs : List UInt8, v = .slice A bs.length c ∧ bs.length ≤ c ∧ c ≤ maxLen ∧ Row w A (bytesV bs) := by
 obtain ⟨a, len, cap, rfl⟩ := okWide_slice Tryz.underlying29 hv
 obtain ⟨fuel, hf⟩ := h
 obtain ⟨A, c, xs, hcs, hr⟩ := open_bytesR hf
 simp [Value.cells] at hcs
 obtain ⟨rfl, rfl, rfl⟩ := hcs
 exact ⟨_, _, xs, rfl, hr⟩
set_option maxRecDepth 100000 in
theorem argInt {r : Reach} {b0 : Nat} {v : Value} {d : DataW H} {p : List MemPlace} (hv : Value.okWide Tryz.prog w r b0 3 v) (h : DataW.Trod enc Tryz.prog w base spare held 3 v d p) : ∃ n, v = .int .i64 n ∧ I64 n := by
 obtain ⟨n, rfl, _, _, h3⟩ := open_int Tryz.underlying3 hv h
 exact ⟨n, rfl, bounds_i64 h3⟩
set_option maxRecDepth 100000 in
theorem argView {r : Reach} {b0 : Nat} {v : Value} {d : DataW H} {p : List MemPlace} (hv : Value.okWide Tryz.prog w r b0 46 v) (h : DataW.Trod enc Tryz.prog w base spare held 46 v d p) :
  ∃ n A c, ∃ xs : List Int, v = .agg #[.int .i64 n, .slice A xs.length c] ∧ I64 n ∧ xs.length ≤ c ∧ c ≤ maxLen ∧ Row w A (ints xs) ∧ ∀ x ∈ xs, I64 x := by
 obtain ⟨v0, v1, y0, y1, m, rfl, _, _, h0, h1⟩ := Joins.open_agg2 Tryz.underlying46 (by kernel_rfl) (by kernel_rfl) hv h
 obtain ⟨n, hn, hi⟩ := open_i64R h0
 obtain ⟨A, c, xs, hcs, hr⟩ := open_intsR h1
 simp at hn hcs
 subst hn hcs
 exact ⟨n, A, c, xs, rfl, hi, hr⟩
end
end Go.Proofs.YtponbabbabnaeaaGreat
namespace Go.Proofs.YtponbabbabnaeaaGreat
open Go.ChangeShapes Go.WideShapes Go.ChangeAt Go.RowKit
section
variable {H : Type} {enc : TypeId × Value → H} {w : World} {base : Nat} {spare : Nat → Bool} {held : Bool}
theorem struct_cells {t : TypeId} {fs : Array Field} {fuel : Nat} {cs : List Value} {x : DataW H × List MemPlace} (hs : Tryz.prog.underlying t = some (.struct fs)) (hone : Go.Deep.oneCellFields Tryz.prog fs = true)
  (h : DataW.trod enc Tryz.prog w base spare held fuel t cs = some x) : cs.length = Tryz.prog.cellsOf t ∧ ∃ n, ∀ (i : Nat) (f : Field) (v : Value), fs[i]? = some f → cs[i]? = some v → ∃ y, DataW.trod enc Tryz.prog w base spare held n f.type [v] = some y := by
 obtain ⟨xs, n, _, _, hl, hlen, hf⟩ := DataW.trod_struct hs h
 refine ⟨hl, n, fun i f v hi hv => ?_⟩
 obtain ⟨o, k⟩ := Go.Deep.hone_of hone i f hi
 have h1 := hf i f hi
 rw [o, k, List.drop_eq_getElem_cons (List.getElem?_eq_some_iff.1 hv).1, (List.getElem?_eq_some_iff.1 hv).2] at h1
 have hx : i < xs.length := by rw [hlen]; exact (Array.getElem?_eq_some_iff.1 hi).1
 exact ⟨xs[i], by rw [List.getElem?_eq_getElem hx] at h1; simpa using h1⟩
theorem open_strR {fuel : Nat} {cs : List Value} {x : DataW H × List MemPlace} (h : DataW.trod enc Tryz.prog w base spare held fuel 9 cs = some x) : ∃ p : List UInt8, cs = [.string (strB p)] ∧ p.length ≤ maxLen := by
 obtain ⟨s, h1, _, h3⟩ := DataW.trod_string Tryz.underlying9 h
 refine ⟨s.data.toList, ?_, by rw [Array.length_toList]; exact h3⟩
 rw [h1, strB_data]
theorem open_elems {α : Type} [Inhabited α] (E : Elem α) (Q : α → Prop) (hc : Tryz.prog.cellsOf E.ty = E.k)
  (hel : ∀ (fuel : Nat) (cs' : List Value) (x : DataW H × List MemPlace), DataW.trod enc Tryz.prog w base spare held fuel E.ty cs' = some x → ∃ a, cs' = E.f a ∧ E.ok a ∧ (∀ r ∈ E.inn a, Row w r.1 r.2) ∧ Q a)
  {fuel : Nat} {cs : List Value} {x : DataW H × List MemPlace} (h : DataW.trod enc Tryz.prog w base spare held fuel E.st cs = some x) :
  ∃ A c, ∃ l : List α, cs = [.slice A l.length c] ∧ l.length ≤ c ∧ c ≤ maxLen ∧ E.Box w A l ∧ ∀ a ∈ l, Q a := by
 rcases Go.Deep.open_slice E.und h with ⟨hcs, _⟩ | ⟨a, len, cap, m, n, D, Pl, hcs, _, hl, hm, hmm, _, hx⟩
 ·exact ⟨none, 0, [], hcs, Nat.le_refl _, Nat.zero_le _, Elem.Box.nil _ _, fun a ha => by cases ha⟩
 ·have hlm : len ≤ m := by rw [hmm]; split <;> omega
  obtain ⟨f, hf⟩ := Go.Deep.choose_lt (α := α) (n := len) (p := fun i b => (∀ j, j < E.k → w.cell? ((a.add (i * E.k)).add j) = (E.f b)[j]?) ∧ E.ok b ∧ (∀ r ∈ E.inn b, Row w r.1 r.2) ∧ Q b) (fun i hi => by
   obtain ⟨cs', h1, h2⟩ := hx i (by omega)
   rw [hc] at h1
   obtain ⟨_, _, hcell⟩ := World.cells?_some h1
   obtain ⟨b, rfl, hb⟩ := hel n cs' _ h2
   exact ⟨b, hcell, hb⟩)
  have hlen : ((List.range len).map f).length = len := by simp
  refine ⟨some a, cap, (List.range len).map f, by rw [hcs, hlen], by rw [hlen]; exact hl, hm, ⟨?_, fun b hb => ?_⟩, fun b hb => ?_⟩
  ·intro hne
   have hp : 0 < len := by
    rcases Nat.eq_zero_or_pos len with h0 | h0
    ·subst h0; simp [Elem.cells] at hne
    ·exact h0
   obtain ⟨b, off, spot⟩ := a
   have hk := E.pos
   have h00 := (hf 0 hp).1 0 hk
   have hv0 : ∃ v, (E.f (f 0))[0]? = some v := ⟨_, List.getElem?_eq_getElem (by rw [E.len]; exact hk)⟩
   obtain ⟨v0, hv0⟩ := hv0
   rw [hv0] at h00
   have hspot : spot = none := by simpa [Addr.add] using World.cell?_spot h00
   subst hspot
   rw [Go.WideShapes.add_plain, Go.WideShapes.add_plain] at h00
   refine ⟨b, off, rfl, World.block_lt_of_cell? w _ h00, fun j u hj => ?_⟩
   obtain ⟨i, j', q, rfl, hj', hq, hu⟩ := E.cells_inv hj
   have hil : i < len := by have := (List.getElem?_eq_some_iff.1 hq).1; simpa using this
   have hfi : f i = q := by
    rw [List.getElem?_map, List.getElem?_range hil] at hq; simpa using hq
   have := (hf i hil).1 j' hj'
   rw [Go.WideShapes.add_plain, Go.WideShapes.add_plain, hfi, hu, Nat.add_assoc] at this
   exact this
  ·obtain ⟨i, hi, rfl⟩ := List.mem_map.1 hb
   have := hf i (List.mem_range.1 hi)
   exact ⟨this.2.1, this.2.2.1⟩
  ·obtain ⟨i, hi, rfl⟩ := List.mem_map.1 hb
   exact (hf i (List.mem_range.1 hi)).2.2.2
set_option maxRecDepth 100000 in
theorem open_entR (fuel : Nat) (cs : List Value) (x : DataW H × List MemPlace) (h : DataW.trod enc Tryz.prog w base spare held fuel 66 cs = some x) : ∃ a, cs = entE.f a ∧ entE.ok a ∧ (∀ r ∈ entE.inn a, Row w r.1 r.2) ∧ (I64 a.v ∧ I64 a.o ∧ I64 a.q) := by
 obtain ⟨hl, n, hf⟩ := struct_cells Tryz.underlying66 (by kernel_rfl) h
 have hl4 : cs.length = 4 := hl.trans (by kernel_rfl)
 match cs, hl4 with
 | [v0, v1, v2, v3], _ =>
  obtain ⟨y0, g0⟩ := hf 0 _ v0 rfl rfl
  obtain ⟨y1, g1⟩ := hf 1 _ v1 rfl rfl
  obtain ⟨y2, g2⟩ := hf 2 _ v2 rfl rfl
  obtain ⟨y3, g3⟩ := hf 3 _ v3 rfl rfl
  obtain ⟨n0, e0, i0⟩ := open_i64R g0
  obtain ⟨n1, e1, i1⟩ := open_i64R g1
  obtain ⟨n2, e2, i2⟩ := open_i64R g2
  obtain ⟨p, e3, _⟩ := open_strR g3
  cases e0; cases e1; cases e2; cases e3
  exact ⟨⟨n0, n1, n2, p⟩, rfl, trivial, fun r hr => by simp [entE] at hr, i0, i1, i2⟩
set_option maxRecDepth 100000 in
theorem open_markR (fuel : Nat) (cs : List Value) (x : DataW H × List MemPlace) (h : DataW.trod enc Tryz.prog w base spare held fuel 123 cs = some x) : ∃ a, cs = markE.f a ∧ markE.ok a ∧ (∀ r ∈ markE.inn a, Row w r.1 r.2) ∧ True := by
 obtain ⟨hl, n, hf⟩ := struct_cells Tryz.underlying123 (by kernel_rfl) h
 have hl2 : cs.length = 2 := hl.trans (by kernel_rfl)
 match cs, hl2 with
 | [v0, v1], _ =>
  obtain ⟨y0, g0⟩ := hf 0 _ v0 rfl rfl
  obtain ⟨y1, g1⟩ := hf 1 _ v1 rfl rfl
  obtain ⟨n0, e0, i0⟩ := open_i64R g0
  obtain ⟨n1, e1, i1⟩ := open_i64R g1
  cases e0; cases e1
  exact ⟨(n0, n1), rfl, trivial, fun r hr => by simp [markE] at hr, trivial⟩
set_option maxRecDepth 100000 in
theorem open_strE (fuel : Nat) (cs : List Value) (x : DataW H × List MemPlace) (h : DataW.trod enc Tryz.prog w base spare held fuel 9 cs = some x) : ∃ a, cs = strE.f a ∧ strE.ok a ∧ (∀ r ∈ strE.inn a, Row w r.1 r.2) ∧ True := by
 obtain ⟨p, e, _⟩ := open_strR h
 exact ⟨p, e, trivial, fun r hr => by simp [strE] at hr, trivial⟩
set_option maxRecDepth 100000 in
theorem open_vwR (fuel : Nat) (cs : List Value) (x : DataW H × List MemPlace) (h : DataW.trod enc Tryz.prog w base spare held fuel 46 cs = some x) : ∃ a, cs = viewE.f a ∧ viewE.ok a ∧ (∀ r ∈ viewE.inn a, Row w r.1 r.2) ∧ True := by
 obtain ⟨hl, n, hf⟩ := struct_cells Tryz.underlying46 (by kernel_rfl) h
 have hl2 : cs.length = 2 := hl.trans (by kernel_rfl)
 match cs, hl2 with
 | [v0, v1], _ =>
  obtain ⟨y0, g0⟩ := hf 0 _ v0 rfl rfl
  obtain ⟨y1, g1⟩ := hf 1 _ v1 rfl rfl
  obtain ⟨n0, e0, i0⟩ := open_i64R g0
  obtain ⟨A, c, xs, e1, h1, h2, hr, _⟩ := open_intsR g1
  cases e0; cases e1
  exact ⟨⟨n0, A, c, xs⟩, rfl, ⟨h1, h2⟩, fun r hr' => by simp only [viewE, List.mem_cons, List.not_mem_nil, or_false] at hr'; subst hr'; exact hr, trivial⟩
set_option maxRecDepth 100000 in
theorem open_flR (fuel : Nat) (cs : List Value) (x : DataW H × List MemPlace) (h : DataW.trod enc Tryz.prog w base spare held fuel 80 cs = some x) : ∃ a, cs = flE.f a ∧ flE.ok a ∧ (∀ r ∈ flE.inn a, Row w r.1 r.2) ∧ True := by
 obtain ⟨hl, n, hf⟩ := struct_cells Tryz.underlying80 (by kernel_rfl) h
 have hl3 : cs.length = 3 := hl.trans (by kernel_rfl)
 match cs, hl3 with
 | [v0, v1, v2], _ =>
  obtain ⟨y0, g0⟩ := hf 0 _ v0 rfl rfl
  obtain ⟨y1, g1⟩ := hf 1 _ v1 rfl rfl
  obtain ⟨y2, g2⟩ := hf 2 _ v2 rfl rfl
  obtain ⟨n0, e0, i0⟩ := open_i64R g0
  obtain ⟨n1, e1, i1⟩ := open_i64R g1
  haveI : Inhabited Ent := ⟨⟨0, 0, 0, []⟩⟩
  obtain ⟨A, c, l, e2, h1, h2, hb, _⟩ := open_elems entE _ (by kernel_rfl) open_entR g2
  cases e0; cases e1; cases e2
  exact ⟨⟨n0, n1, A, c, l⟩, rfl, ⟨h1, h2⟩, fun r hr => by simp only [flE, List.mem_cons, List.not_mem_nil, or_false] at hr; subst hr; exact hb.1, trivial⟩
theorem array9 {α : Type} {cs : Array α} (h : cs.size = 9) : ∃ c0 c1 c2 c3 c4 c5 c6 c7 c8, cs = #[c0, c1, c2, c3, c4, c5, c6, c7, c8] := by
 obtain ⟨l⟩ := cs
 match l, h with
 | [c0, c1, c2, c3, c4, c5, c6, c7, c8], _ => exact ⟨c0, c1, c2, c3, c4, c5, c6, c7, c8, rfl⟩
set_option maxRecDepth 100000 in
theorem argState {r : Reach} {b0 : Nat} {v : Value} {d : DataW H} {p : List MemPlace} (hv : Value.okWide Tryz.prog w r b0 28 v) (h : DataW.Trod enc Tryz.prog w base spare held 28 v d p) :
  ∃ b : BM, v = .agg b.cells ∧ b.Reads w ∧ b.Slices ∧ (I64 b.self ∧ I64 b.base ∧ I64 b.stable ∧ I64 b.sent) := by
 obtain ⟨cs, rfl, hsz⟩ := okWide_struct Tryz.underlying28 hv
 obtain ⟨c0, c1, c2, c3, c4, c5, c6, c7, c8, rfl⟩ := array9 (hsz.trans (by kernel_rfl))
 obtain ⟨fuel, hf⟩ := h
 obtain ⟨_, n, hf⟩ := struct_cells Tryz.underlying28 (by kernel_rfl) hf
 simp only [Value.cells] at hf
 obtain ⟨y0, g0⟩ := hf 0 _ c0 rfl rfl
 obtain ⟨y1, g1⟩ := hf 1 _ c1 rfl rfl
 obtain ⟨y2, g2⟩ := hf 2 _ c2 rfl rfl
 obtain ⟨y3, g3⟩ := hf 3 _ c3 rfl rfl
 obtain ⟨y4, g4⟩ := hf 4 _ c4 rfl rfl
 obtain ⟨y5, g5⟩ := hf 5 _ c5 rfl rfl
 obtain ⟨y6, g6⟩ := hf 6 _ c6 rfl rfl
 obtain ⟨y7, g7⟩ := hf 7 _ c7 rfl rfl
 obtain ⟨y8, g8⟩ := hf 8 _ c8 rfl rfl
 haveI : Inhabited Ent := ⟨⟨0, 0, 0, []⟩⟩
 haveI : Inhabited VwM := ⟨⟨0, none, 0, []⟩⟩
 haveI : Inhabited FlM := ⟨⟨0, 0, none, 0, []⟩⟩
 obtain ⟨self, e0, i0⟩ := open_i64R g0
 obtain ⟨Av, cv, vs, e1, v1, v2, bv, _⟩ := open_elems viewE _ (by kernel_rfl) open_vwR g1
 obtain ⟨bs, e2, i2⟩ := open_i64R g2
 obtain ⟨Al, cl, log, e3, l1, l2, bl, _⟩ := open_elems entE _ (by kernel_rfl) open_entR g3
 obtain ⟨stable, e4, i4⟩ := open_i64R g4
 obtain ⟨sent, e5, i5⟩ := open_i64R g5
 obtain ⟨Ap, cp, pend, e6, p1, p2, bp, _⟩ := open_elems strE _ (by kernel_rfl) open_strE g6
 obtain ⟨Am, cm, marks, e7, m1, m2, bm, _⟩ := open_elems markE _ (by kernel_rfl) open_markR g7
 obtain ⟨Af, cf, fls, e8, f1, f2, bf, _⟩ := open_elems flE _ (by kernel_rfl) open_flR g8
 cases e0; cases e1; cases e2; cases e3; cases e4; cases e5; cases e6; cases e7; cases e8
 exact ⟨⟨self, bs, stable, sent, Av, cv, vs, Al, cl, log, Ap, cp, pend, Am, cm, marks, Af, cf, fls⟩, rfl, ⟨bv, bl.1, bp.1, bm.1, bf⟩, ⟨⟨v1, v2⟩, ⟨l1, l2⟩, ⟨p1, p2⟩, ⟨m1, m2⟩, ⟨f1, f2⟩⟩, i0, i2, i4, i5⟩
set_option maxRecDepth 100000 in
theorem argStr {r : Reach} {b0 : Nat} {v : Value} {d : DataW H} {p : List MemPlace} (hv : Value.okWide Tryz.prog w r b0 9 v) (h : DataW.Trod enc Tryz.prog w base spare held 9 v d p) : ∃ q : List UInt8, v = .string (strB q) ∧ q.length ≤ maxLen := by
 obtain ⟨s, rfl, _⟩ := Go.ChangeMaps.open_string Tryz.underlying9 hv h
 obtain ⟨fuel, hf⟩ := h
 obtain ⟨q, hq, hl⟩ := open_strR hf
 simp only [Value.cells, List.cons.injEq, and_true] at hq
 exact ⟨q, hq, hl⟩
end
end Go.Proofs.YtponbabbabnaeaaGreat
namespace Go.Proofs.YtponbabbabnaeaaGreat
open Go.RowKit
theorem low_step1 {s : Nat} (h : s < 4294967296) (h1 : s % 2 = 1) : bits .xor .u32 ((s : Int) / 2) 3988292384 = ((crc1 s : Nat) : Int) := by
 have h3 : ((s : Int) / 2) = ((s / 2 : Nat) : Int) := by omega
 have := u32_xor_nat (s / 2) 3988292384 (by omega) (by decide)
 rw [h3]
 unfold crc1
 rw [h1, Nat.mul_one]
 exact this
theorem low_step0 {s : Nat} (h1 : ¬ s % 2 = 1) : ((s : Int) / 2) = ((crc1 s : Nat) : Int) := by
 unfold crc1
 have : s % 2 = 0 := by omega
 rw [this, Nat.mul_zero, Nat.xor_zero]; omega
theorem and_lo {s : Nat} (h : s < 4294967296) : bits .and .u32 (s : Int) 1 = ((s % 2 : Nat) : Int) := by
 have := u32_and_nat s 1 h (by decide)
 rw [Nat.and_one_is_mod] at this
 exact this
set_option maxRecDepth 100000 in
theorem rchecksum_any (A : Option Addr) (c : Nat) (bs : List UInt8) (w : World) (h : Row w A (bytesV bs)) (hl : bs.length ≤ 1000000000) :
  Calls Tryz.prog 189 #[.slice A bs.length c] w fun e w' => e = .returned (.int .u32 (crcF bs : Int)) ∧ w = w' := by
 have H := hJ h; clear h
 go_enter Tryz.func189, Tryz.ntmps189
 go_wp2; go_loopw [3, 4] (fun s i wr => ∃ (k n : Nat), k ≤ bs.length ∧ i = .int .i64 (k : Int) ∧ s = .int .u32 (n : Int) ∧ Hid (n = (bs.take k).foldl crc8 4294967295) ∧ w = wr) (fun _ i _ => bs.length - (intOf i).toNat)
 case atStart => exact ⟨0, 4294967295, Nat.zero_le _, rfl, rfl, hJ rfl, rfl⟩
 case round =>
  obtain ⟨k, n, hk, rfl, rfl, HN, rfl⟩ := hrel
  have hn : Hid (n < 4294967296) := hJ (by rw [HN.out]; exact crcFold_lt _ _ (by decide))
  by_cases hlt : k < bs.length
  ·obtain ⟨b, off, x, rfl, c0, HX⟩ := H.out.byte hlt
   have hcb := crc_byte x hn.out
   have hfin : Hid (∀ m j : Nat, m = crcN j (n ^^^ x.toNat) → j ≤ 8 → ¬ j < 8 → m = (bs.take (k + 1)).foldl crc8 4294967295) := hJ (by
    intro m j h1 h2 h3
    have h8 : j = 8 := by omega
    subst h8
    rw [h1, ← crc8_eq, HN.out, List.take_add_one, HX.out]; simp)
   go_wp2; go_loopw [3, 5] (fun s i wr => ∃ (j m : Nat), j ≤ 8 ∧ i = .int .i64 (j : Int) ∧ s = .int .u32 (m : Int) ∧ Hid (m = crcN j (n ^^^ x.toNat)) ∧ w = wr) (fun _ i _ => 8 - (intOf i).toNat)
   case atStart => exact ⟨0, n ^^^ x.toNat, Nat.zero_le _, rfl, rfl, hJ rfl, by first | trivial | rfl⟩
   case round =>
    obtain ⟨j, m, hj, rfl, rfl, HM, rfl⟩ := hrel
    have hm : Hid (m < 4294967296) := hJ (by rw [HM.out]; exact crcN_lt _ _ (byte_xor_lt x hn.out))
    by_cases hj8 : j < 8
    ·have hao := and_lo hm.out
     by_cases ho : m % 2 = 1
     ·have hs1 := low_step1 hm.out ho
      have hdd : (((m % 2 : Nat) : Int) == 1) = true := by rw [ho]; rfl
      go_wp2; go_roundw
      case rel => exact ⟨j + 1, crc1 m, by omega, by go_num, by first | rfl | (rw [hs1]), hJ (by rw [crcN_succ, HM.out]), by first | trivial | rfl⟩
      case measure => simp [intOf]; omega
     ·have hs0 := low_step0 ho
      have hdd : (((m % 2 : Nat) : Int) == 1) = false := by simp; omega
      go_wp2; go_roundw
      case rel => exact ⟨j + 1, crc1 m, by omega, by go_num, by first | rfl | (rw [hs0]), hJ (by rw [crcN_succ, HM.out]), by first | trivial | rfl⟩
      case measure => simp [intOf]; omega
    ·go_wp2
     go_roundw
     case rel => exact ⟨k + 1, m, by omega, by go_num, rfl, hJ (hfin.out m j HM.out hj hj8), by first | trivial | rfl⟩
     case measure => simp [intOf]; omega
  ·have hkl : k = bs.length := by omega
   subst hkl
   go_wp2; go_ret
   refine ⟨?_, rfl⟩
   have hx := u32_xor_nat 4294967295 n (by decide) hn.out
   have hc : crcF bs = 4294967295 ^^^ n := by unfold crcF; rw [HN.out, List.take_length]
   rw [hc, ← hx]
   rfl
theorem le4_own (v : Nat) (w : World) : Own (w.alloc (.cells #[.int .u8 ((v : Int) % 256), .int .u8 ((v : Int) / 256 % 256), .int .u8 ((v : Int) / 65536 % 256), .int .u8 ((v : Int) / 16777216 % 256)] 5)) w.heap.size 5 (.slice (some ⟨w.heap.size, 0, none⟩) 4 4) (bytesV (le4 v)) := by
 have e : bytesV (le4 v) = [.int .u8 ((v : Int) % 256), .int .u8 ((v : Int) / 256 % 256), .int .u8 ((v : Int) / 65536 % 256), .int .u8 ((v : Int) / 16777216 % 256)] := by
  simp only [bytesV, le4, List.map_cons, List.map_nil, UInt8.toNat_ofNat']
  rw [show ((v % 2 ^ 8 : Nat) : Int) = (v : Int) % 256 by omega, show ((v / 256 % 2 ^ 8 : Nat) : Int) = (v : Int) / 256 % 256 by omega, show ((v / 65536 % 2 ^ 8 : Nat) : Int) = (v : Int) / 65536 % 256 by omega, show ((v / 16777216 % 2 ^ 8 : Nat) : Int) = (v : Int) / 16777216 % 256 by omega]
 rw [e]
 exact ⟨rfl, .inr ⟨w.heap.size, 4, _, rfl, Nat.le_refl _, (by show (w.heap.push _)[w.heap.size]? = _; simp; rfl), Nat.le_refl _, by unfold maxLen; decide, rfl, rfl⟩⟩
set_option maxRecDepth 100000 in
theorem rlow_any (n : Nat) (w : World) : Calls Tryz.prog 188 #[.int .u32 (n : Int)] w (GivesB w (le4 n)) := by
 go_enter Tryz.func188, Tryz.ntmps188
 go_wp2; go_ret
 exact gives_b (le4_own n w) (Ext.new _ _)
set_option maxRecDepth 100000 in
theorem rstring_any (p : List UInt8) (w : World) (hp : p.length ≤ 100000000) : Calls Tryz.prog 133 #[.string (strB p)] w (GivesB w (strF p)) := by
 have hn : Hid (p.length < U64) := hJ (by unfold U64; omega)
 have HL := hJ (encU_len10 hn.out)
 have hsz := strB_size p
 have hw : IntKind.u64.wrap (p.length : Int) = (p.length : Int) := u64_nat hn.out
 go_enter Tryz.func133, Tryz.ntmps133
 go_wp2_with fail
 refine (rUint_any p.length w hn).mono ?_
 rintro e w1 ⟨A1, c1, rfl, hc1, hm1, ho1, hx1⟩
 have HO1 := hJ ho1; have X1 := hJ hx1
 clear ho1 hx1; have hl1 : (encU p.length).length ≤ 11 := HL.out
 obtain ⟨i0, hi, hz0, hz1, hz2⟩ := info_parts info_u8
 go_wp2_with (first
  | (at_builtin; refine Go.Lib.wpList_append_own_string w1 rfl (.tmp 6) (.tmp 7) 29 9 rfl w.heap.size 5 i0 Tryz.underlying29 Tryz.underlying9 hi hz0 hz1 hz2 _ (encU p.length).length (bytesV (encU p.length)) (by rfl) (by have := HO1.out; unfold Own at this; rw [bytesV_len] at this; exact this) (strB p) (by rfl) (by rw [strB_size]; unfold maxLen; omega) (by rw [strB_size]; omega) X1.out.size ?_; intro v2 w2 ho2 hg2 _))
 go_ret
 refine gives_b ?_ (Grew.below X1.out hg2 X1.out.size (fun k hk => (HO1.out.lt k hk).1))
 have hb : bytesV (strF p) = bytesV (encU p.length) ++ Go.Lib.strCells (strB p) := by rw [strCells_strB, ← bytesV_app]; rfl
 unfold Own
 rw [hb, List.length_append, bytesV_len, Go.Lib.strCells_length]
 exact ho2
end Go.Proofs.YtponbabbabnaeaaGreat
