/- Part 12 of the proof: contracts of functions that the statement reaches. Conditions: as each theorem says. -/
import Derived.Test.YtponbabbabnaeaaGreatQb01
import Derived.Test.YtponbabbabnaeaaGreatQb08
import Derived.Test.YtponbabbabnaeaaGreatQb11
namespace Go.Proofs.YtponbabbabnaeaaGreat
open Go.RowKit
theorem ent_box {w : World} {A : Option Addr} {l : List Ent} (h : Row w A (entE.cells l)) : entE.Box w A l := ⟨h, fun _ _ => ⟨trivial, fun r hr => by simp [entE] at hr⟩⟩
theorem str_box {w : World} {A : Option Addr} {l : List (List UInt8)} (h : Row w A (strE.cells l)) : strE.Box w A l := ⟨h, fun _ _ => ⟨trivial, fun r hr => by simp [strE] at hr⟩⟩
theorem mark_box {w : World} {A : Option Addr} {l : List (Int × Int)} (h : Row w A (markE.cells l)) : markE.Box w A l := ⟨h, fun _ _ => ⟨trivial, fun r hr => by simp [markE] at hr⟩⟩
theorem fl_form {w : World} {B : Nat} {A : Option Addr} {n c : Nat} {l : List FlM} (h : flE.OB w B (.slice A n c) l) (hp : 0 < l.length) : ∃ g, A = some ⟨g, 0, none⟩ ∧ g < w.heap.size ∧ ∀ i, w.frozen? ⟨g, i, none⟩ = false := by
 obtain ⟨_, h2⟩ := h.1
 rcases h2 with ⟨_, hn⟩ | ⟨g, cap, cur, hv, _, hh, _⟩
 ·omega
 ·simp only [Value.slice.injEq] at hv
  have hg : g < w.heap.size := by
   rcases Nat.lt_or_ge g w.heap.size with hlt | hge
   ·exact hlt
   ·rw [Array.getElem?_eq_none hge] at hh; cases hh
  exact ⟨g, hv.1, hg, fun i => by simp [World.frozen?, hh]⟩
theorem BM.Fits.of_st {b b' : BM} (h : b.Fits) (e : b'.st = b.st) (hc : b'.log.length ≤ b'.cl ∧ b'.cl ≤ maxLen) : b'.Fits := by
 simp only [BM.st, St.mk.injEq] at e
 obtain ⟨_, e2, _, e4, _, _, e7, e8, e9⟩ := e
 refine ⟨by rw [← vws_len, e2, vws_len]; exact h.vs, fun v hv => ?_, by rw [e4]; exact h.log, by rw [e4]; exact h.lp, by rw [e7]; exact h.pend, by rw [e7]; exact h.pp, by rw [e8]; exact h.marks, ?_, fun f hf => ?_, hc⟩
 ·have : v.v ∈ vws b.vs := by rw [← e2]; exact List.mem_map_of_mem hv
  obtain ⟨u, hu, hv2⟩ := List.mem_map.1 this
  have := h.vx u hu
  simp only [VwM.v, Prod.mk.injEq] at hv2
  rw [← hv2.2]; exact this
 ·have := congrArg List.length e9
  simp only [List.length_map] at this
  rw [this]; exact h.fls
 ·have : f.v ∈ b.fls.map FlM.v := by rw [← e9]; exact List.mem_map_of_mem hf
  obtain ⟨u, hu, hv2⟩ := List.mem_map.1 this
  have := h.fl u hu
  simp only [FlM.v, Prod.mk.injEq] at hv2
  rw [← hv2.2.2]; exact this
def hues (p n1 n2 n3 n4 n5 : Nat) : Nat → Nat := fun k => if k < p then 8 else if k = p ∨ k = p + 1 then 1 else if k < n1 then 0 else if k < n2 then 2 else if k < n3 then 6 else if k < n4 then 3 else if k < n5 then 4 else 0
section
variable {p n1 n2 n3 n4 n5 k : Nat}
theorem hues1 : hues p n1 n2 n3 n4 n5 p = 1 ∧ hues p n1 n2 n3 n4 n5 (p + 1) = 1 := by constructor <;> (unfold hues; rw [if_neg (by omega), if_pos (by omega)])
theorem hues8 (h : k < p) : hues p n1 n2 n3 n4 n5 k = 8 := by unfold hues; rw [if_pos h]
theorem hues0 (h : k < n1) (hp : p + 1 < k) : hues p n1 n2 n3 n4 n5 k = 0 := by unfold hues; rw [if_neg (by omega), if_neg (by omega), if_pos h]
theorem hues2 (h0 : p + 1 < n1) (h : n1 ≤ k) (h' : k < n2) : hues p n1 n2 n3 n4 n5 k = 2 := by unfold hues; rw [if_neg (by omega), if_neg (by omega), if_neg (by omega), if_pos h']
theorem hues6 (h0 : p + 1 < n1) (h1 : n1 ≤ n2) (h : n2 ≤ k) (h' : k < n3) : hues p n1 n2 n3 n4 n5 k = 6 := by unfold hues; rw [if_neg (by omega), if_neg (by omega), if_neg (by omega), if_neg (by omega), if_pos h']
theorem hues3 (h0 : p + 1 < n1) (h1 : n1 ≤ n2) (h2 : n2 ≤ n3) (h : n3 ≤ k) (h' : k < n4) : hues p n1 n2 n3 n4 n5 k = 3 := by unfold hues; rw [if_neg (by omega), if_neg (by omega), if_neg (by omega), if_neg (by omega), if_neg (by omega), if_pos h']
theorem hues4 (h0 : p + 1 < n1) (h1 : n1 ≤ n2) (h2 : n2 ≤ n3) (h3 : n3 ≤ n4) (h : n4 ≤ k) (h' : k < n5) : hues p n1 n2 n3 n4 n5 k = 4 := by unfold hues; rw [if_neg (by omega), if_neg (by omega), if_neg (by omega), if_neg (by omega), if_neg (by omega), if_neg (by omega), if_pos h']
theorem huesz (h0 : p + 1 < n1) (h1 : n1 ≤ n2) (h2 : n2 ≤ n3) (h3 : n3 ≤ n4) (h4 : n4 ≤ n5) (h : n5 ≤ k) : hues p n1 n2 n3 n4 n5 k = 0 := by unfold hues; rw [if_neg (by omega), if_neg (by omega), if_neg (by omega), if_neg (by omega), if_neg (by omega), if_neg (by omega), if_neg (by omega)]
end
structure OffS (col : Nat → Nat) (cs : List Nat) (w w' : World) : Prop where
 size : w.heap.size ≤ w'.heap.size
 block : ∀ k, k < w.heap.size → col k ∉ cs → w'.heap[k]? = w.heap[k]?
theorem OffS.ext {col : Nat → Nat} {cs : List Nat} {w w' : World} (h : Ext w w') : OffS col cs w w' := ⟨h.size, fun k hk _ => h.block k hk⟩
theorem OffS.trans {col : Nat → Nat} {cs : List Nat} {w w' w'' : World} (h : OffS col cs w w') (h' : OffS col cs w' w'') : OffS col cs w w'' :=
 ⟨Nat.le_trans h.size h'.size, fun k hk hc => (h'.block k (Nat.lt_of_lt_of_le hk h.size) hc).trans (h.block k hk hc)⟩
theorem OffS.row {col : Nat → Nat} {k : Nat} {cs : List Nat} {w w' : World} {A : Option Addr} {xs : List Value} (o : OffS col cs w w') (h : Row w A xs) (hc : ColR col k A xs) (hk : k ∉ cs) : Row w' A xs := by
 intro hx
 obtain ⟨b, off, h1, h2, h3⟩ := h hx
 refine ⟨b, off, h1, Nat.lt_of_lt_of_le h2 o.size, fun j u hj => ?_⟩
 have hb : w'.heap[b]? = w.heap[b]? := o.block b h2 (by rw [hc _ hx h1]; exact hk)
 exact (World.cell?_of_block (a := ⟨b, off + j, none⟩) hb).trans (h3 j u hj)
theorem OffS.own {α : Type} {E : Elem α} {col : Nat → Nat} {k B : Nat} {cs : List Nat} {w w' : World} {v : Value} {l : List α} (o : OffS col cs w w') (h : E.Own w B v l) (hc : ColV col k v) (hk : k ∉ cs) : E.Own w' B v l :=
 h.keep fun q hq hlt => o.block q hlt (by rw [hc q hq]; exact hk)
theorem ColV.row {α : Type} {E : Elem α} {B : Nat} {w : World} {col : Nat → Nat} {k n c : Nat} {A : Option Addr} {l : List α} {xs : List Value} (h : ColV col k (.slice A n c)) (ho : E.Own w B (.slice A n c) l) : ColR col k A xs := by
 intro p _ hp
 subst hp
 exact h p.block rfl
theorem fl_ob_off {col : Nat → Nat} {c B : Nat} {w w' : World} {v : Value} {l : List FlM} (o : Off col c w w') (h : flE.OB w B v l) (hv : ColV col 4 v) (hi : ∀ f ∈ l, ColR col 0 f.A (entE.cells f.log)) (h0 : 0 ≠ c) (h4 : 4 ≠ c) : flE.OB w' B v l := by
 refine ⟨o.own h.1 hv h4, fun f hf => ⟨(h.2 f hf).1, fun r hr => ⟨?_, ((h.2 f hf).2 r hr).2⟩⟩⟩
 have h1 := ((h.2 f hf).2 r hr).1
 simp only [flE, List.mem_cons, List.not_mem_nil, or_false] at hr
 subst hr
 exact o.row h1 (hi f hf) h0
theorem nine {w : World} {p : Nat} {a0 a1 a2 a3 a4 a5 a6 a7 a8 : Value} {t : TypeId} (h : BIs w p #[a0, a1, a2, a3, a4, a5, a6, a7, a8] t) : w.cell? ⟨p, 0, none⟩ = some a0 ∧ w.cell? ⟨p, 1, none⟩ = some a1 ∧ w.cell? ⟨p, 2, none⟩ = some a2 ∧ w.cell? ⟨p, 3, none⟩ = some a3 ∧ w.cell? ⟨p, 4, none⟩ = some a4 ∧ w.cell? ⟨p, 5, none⟩ = some a5 ∧ w.cell? ⟨p, 6, none⟩ = some a6 ∧ w.cell? ⟨p, 7, none⟩ = some a7 ∧ w.cell? ⟨p, 8, none⟩ = some a8 :=
 ⟨h.cell 0, h.cell 1, h.cell 2, h.cell 3, h.cell 4, h.cell 5, h.cell 6, h.cell 7, h.cell 8⟩
theorem nine_set {w : World} {r : Nat} {x0 x1 x2 x3 x4 x5 x6 x7 x8 a0 a1 a2 a3 a4 a5 a6 a7 a8 : Value} {t : TypeId} (h : BIs w r #[x0, x1, x2, x3, x4, x5, x6, x7, x8] t) : BIs (((((((((w.setCell ⟨r, 0, none⟩ a0).setCell ⟨r, 1, none⟩ a1).setCell ⟨r, 2, none⟩ a2).setCell ⟨r, 3, none⟩ a3).setCell ⟨r, 4, none⟩ a4).setCell ⟨r, 5, none⟩ a5).setCell ⟨r, 6, none⟩ a6).setCell ⟨r, 7, none⟩ a7).setCell ⟨r, 8, none⟩ a8) r #[a0, a1, a2, a3, a4, a5, a6, a7, a8] t := by
 have h0 : BIs (w.setCell ⟨r, 0, none⟩ a0) r #[a0, x1, x2, x3, x4, x5, x6, x7, x8] t := h.set 0 a0
 have h1 : BIs ((w.setCell ⟨r, 0, none⟩ a0).setCell ⟨r, 1, none⟩ a1) r #[a0, a1, x2, x3, x4, x5, x6, x7, x8] t := h0.set 1 a1
 have h2 : BIs (((w.setCell ⟨r, 0, none⟩ a0).setCell ⟨r, 1, none⟩ a1).setCell ⟨r, 2, none⟩ a2) r #[a0, a1, a2, x3, x4, x5, x6, x7, x8] t := h1.set 2 a2
 have h3 : BIs ((((w.setCell ⟨r, 0, none⟩ a0).setCell ⟨r, 1, none⟩ a1).setCell ⟨r, 2, none⟩ a2).setCell ⟨r, 3, none⟩ a3) r #[a0, a1, a2, a3, x4, x5, x6, x7, x8] t := h2.set 3 a3
 have h4 : BIs (((((w.setCell ⟨r, 0, none⟩ a0).setCell ⟨r, 1, none⟩ a1).setCell ⟨r, 2, none⟩ a2).setCell ⟨r, 3, none⟩ a3).setCell ⟨r, 4, none⟩ a4) r #[a0, a1, a2, a3, a4, x5, x6, x7, x8] t := h3.set 4 a4
 have h5 : BIs ((((((w.setCell ⟨r, 0, none⟩ a0).setCell ⟨r, 1, none⟩ a1).setCell ⟨r, 2, none⟩ a2).setCell ⟨r, 3, none⟩ a3).setCell ⟨r, 4, none⟩ a4).setCell ⟨r, 5, none⟩ a5) r #[a0, a1, a2, a3, a4, a5, x6, x7, x8] t := h4.set 5 a5
 have h6 : BIs (((((((w.setCell ⟨r, 0, none⟩ a0).setCell ⟨r, 1, none⟩ a1).setCell ⟨r, 2, none⟩ a2).setCell ⟨r, 3, none⟩ a3).setCell ⟨r, 4, none⟩ a4).setCell ⟨r, 5, none⟩ a5).setCell ⟨r, 6, none⟩ a6) r #[a0, a1, a2, a3, a4, a5, a6, x7, x8] t := h5.set 6 a6
 have h7 : BIs ((((((((w.setCell ⟨r, 0, none⟩ a0).setCell ⟨r, 1, none⟩ a1).setCell ⟨r, 2, none⟩ a2).setCell ⟨r, 3, none⟩ a3).setCell ⟨r, 4, none⟩ a4).setCell ⟨r, 5, none⟩ a5).setCell ⟨r, 6, none⟩ a6).setCell ⟨r, 7, none⟩ a7) r #[a0, a1, a2, a3, a4, a5, a6, a7, x8] t := h6.set 7 a7
 have h8 : BIs (((((((((w.setCell ⟨r, 0, none⟩ a0).setCell ⟨r, 1, none⟩ a1).setCell ⟨r, 2, none⟩ a2).setCell ⟨r, 3, none⟩ a3).setCell ⟨r, 4, none⟩ a4).setCell ⟨r, 5, none⟩ a5).setCell ⟨r, 6, none⟩ a6).setCell ⟨r, 7, none⟩ a7).setCell ⟨r, 8, none⟩ a8) r #[a0, a1, a2, a3, a4, a5, a6, a7, a8] t := h7.set 8 a8
 exact h8
theorem nine_wrote {w : World} {r : Nat} {a0 a1 a2 a3 a4 a5 a6 a7 a8 : Value} : Wrote r w (((((((((w.setCell ⟨r, 0, none⟩ a0).setCell ⟨r, 1, none⟩ a1).setCell ⟨r, 2, none⟩ a2).setCell ⟨r, 3, none⟩ a3).setCell ⟨r, 4, none⟩ a4).setCell ⟨r, 5, none⟩ a5).setCell ⟨r, 6, none⟩ a6).setCell ⟨r, 7, none⟩ a7).setCell ⟨r, 8, none⟩ a8) :=
 ((((((((Wrote.set r 0 w a0).trans (Wrote.set r 1 _ a1)).trans (Wrote.set r 2 _ a2)).trans (Wrote.set r 3 _ a3)).trans (Wrote.set r 4 _ a4)).trans (Wrote.set r 5 _ a5)).trans (Wrote.set r 6 _ a6)).trans (Wrote.set r 7 _ a7)).trans (Wrote.set r 8 _ a8)
theorem OffS.wrote {col : Nat → Nat} {cs : List Nat} {p : Nat} {w w' : World} (h : Wrote p w w') (hc : p < w.heap.size → col p ∈ cs) : OffS col cs w w' :=
 ⟨h.size, fun k hk hn => h.blk hk (fun e => hn (by subst e; exact hc hk))⟩
def BM.Cloned (w : World) (b : BM) (en : Ending) (w' : World) : Prop :=
 ∃ (b' : BM) (col : Nat → Nat), en = .returned (.agg b'.cells) ∧ b'.st = b.st ∧ b'.Fits ∧ b'.Lies w' w.heap.size col ∧ (∀ k, k < w.heap.size → col k = 8) ∧ strE.Own w' w.heap.size (.slice b'.Ap b'.pend.length b'.cp) b'.pend ∧ ColV col 6 (.slice b'.Ap b'.pend.length b'.cp) ∧ Ext w w'
set_option maxRecDepth 100000 in
set_option maxHeartbeats 4000000 in
theorem clone_any (b : BM) (w : World) (h : b.Reads w) (hf : b.Fits) : Calls Tryz.prog 39 #[.agg b.cells] w (b.Cloned w) := by
 have H0 := hJ (Ext.new w (.cells b.cells 28))
 have X0 : Hid (Ext (w.alloc (.cells b.cells 28)) ((w.alloc (.cells #[.int .i64 b.self, .slice b.Av b.vs.length b.cv, .int .i64 b.base, .slice b.Al b.log.length b.cl, .int .i64 b.stable, .int .i64 b.sent, .slice b.Ap b.pend.length b.cp, .slice b.Am b.marks.length b.cm, .slice b.Af b.fls.length b.cf] 28)).alloc (.cells #[.int .i64 0, .slice none 0 0, .int .i64 0, .slice none 0 0, .int .i64 0, .int .i64 0, .slice none 0 0, .slice none 0 0, .slice none 0 0] 28))) := hJ (Ext.new _ _)
 have HR := hJ h; have HFT := hJ hf
 have HWX : Hid (Ext w (w.alloc (.cells b.cells 28))) := H0
 have HR0 := hJ (h.ext (H0.out.trans X0.out))
 have hvs : b.vs.length ≤ 1000000 := by have := hf.vs; omega
 have hlg : b.log.length ≤ 1000000 := by have := hf.log; omega
 have hpd : b.pend.length ≤ 1000000 := by have := hf.pend; omega
 have hmk : b.marks.length ≤ 1000000 := by have := hf.marks; omega
 have hfs : b.fls.length ≤ 1000000 := by have := hf.fls; omega
 clear h hf; unfold BM.cells at H0 ⊢
 go_enter Tryz.func39, Tryz.ntmps39
 go_wp2; refine E_begin 13 (fun w' => w'.cell? ⟨w.heap.size, 1, none⟩ = some (.slice b.Av b.vs.length b.cv) ∧ w'.cell? ⟨w.heap.size, 3, none⟩ = some (.slice b.Al b.log.length b.cl) ∧ w'.cell? ⟨w.heap.size, 6, none⟩ = some (.slice b.Ap b.pend.length b.cp) ∧ w'.cell? ⟨w.heap.size, 7, none⟩ = some (.slice b.Am b.marks.length b.cm)) (by kernel_rfl) ⟨by simp, by simp, by simp, by simp⟩ (fun hHeld => ?_)
 refine E_t 0 4 ?_; refine E_t 1 5 ?_; refine E_t 3 7 ?_; refine E_t 4 8 ?_; refine E_t 6 10 ?_; refine E_t 7 11 ?_; refine E_t 9 13 ?_; refine E_t 10 14 ?_; refine E_ready [2] (by kernel_rfl) (by simp) ?_
 refine AllE.cons (o := ⟨some 6, _, _, _, _, _⟩) rfl (fun K hK => ?_) AllE.nil
 go_simp; go_at_call 93; refine (cloneViews_any b.Av b.cv b.vs _ (HR0.out.ext Ext.drew1).vs hvs HFT.out.vx).mono ?_
 rintro e w1 ⟨l1, HV1, HNV, A1, c1, rfl, h11, h12, ho, hx⟩
 have HO1 := hJ ho
 have E01 : Hid (Ext ((w.alloc (.cells #[.int .i64 b.self, .slice b.Av b.vs.length b.cv, .int .i64 b.base, .slice b.Al b.log.length b.cl, .int .i64 b.stable, .int .i64 b.sent, .slice b.Ap b.pend.length b.cp, .slice b.Am b.marks.length b.cm, .slice b.Af b.fls.length b.cf] 28)).alloc (.cells #[.int .i64 0, .slice none 0 0, .int .i64 0, .slice none 0 0, .int .i64 0, .int .i64 0, .slice none 0 0, .slice none 0 0, .slice none 0 0] 28)) w1) := hJ (Ext.trans Ext.drew1 hx)
 clear ho; have Xw1 := hJ (Ext.trans (X0.out.drew) hx)
 obtain ⟨q0, q1, q2, q3, q4, q5, q6, q7, q8, zz⟩ := cells9 (b := b) Xw1.out
 clear hx; clear hHeld; refine hK.out _ _ ⟨q1, q3, q6, q7⟩ (fun hHeld => ?_)
 clear hK K; try simp only [Act.put, aP1, aP2, aP3]
 refine E_t 12 16 ?_; refine E_ready [5] (by kernel_rfl) (by simp) ?_
 refine AllE.cons (o := ⟨some 9, _, _, _, _, _⟩) rfl (fun K hK => ?_) AllE.nil
 go_simp; go_at_call 108; refine (clone_ents b.Al b.cl b.log _ (ent_box (HR.out.ext (HWX.out.trans Xw1.out)).log) hlg).mono ?_
 rintro e w2 ⟨A2, c2, rfl, h21, h22, ho, hx⟩
 have HO2 := hJ ho
 have E12 := hJ hx
 clear ho; have Xw2 := hJ (Ext.trans Xw1.out hx)
 obtain ⟨q0, q1, q2, q3, q4, q5, q6, q7, q8, zz⟩ := cells9 (b := b) Xw2.out
 clear hx; clear hHeld; refine hK.out _ _ ⟨q1, q3, q6, q7⟩ (fun hHeld => ?_)
 clear hK K; try simp only [Act.put, aP1, aP2, aP3]
 refine E_ready [8] (by kernel_rfl) (by simp) ?_
 refine AllE.cons (o := ⟨some 12, _, _, _, _, _⟩) rfl (fun K hK => ?_) AllE.nil
 go_simp; go_at_call 109; refine (clone_strs b.Ap b.cp b.pend _ (str_box (HR.out.ext (HWX.out.trans Xw2.out)).pend) hpd).mono ?_
 rintro e w3 ⟨A3, c3, rfl, h31, h32, ho, hx⟩
 have HO3 := hJ ho
 have E23 := hJ hx
 clear ho; have Xw3 := hJ (Ext.trans Xw2.out hx)
 obtain ⟨q0, q1, q2, q3, q4, q5, q6, q7, q8, zz⟩ := cells9 (b := b) Xw3.out
 clear hx; clear hHeld; refine hK.out _ _ ⟨q1, q3, q6, q7⟩ (fun hHeld => ?_)
 clear hK K; try simp only [Act.put, aP1, aP2, aP3]
 refine E_ready [11] (by kernel_rfl) (by simp) ?_
 refine AllE.cons (o := ⟨some 15, _, _, _, _, _⟩) rfl (fun K hK => ?_) AllE.nil
 go_simp; go_at_call 110; refine (clone_marks b.Am b.cm b.marks _ (mark_box (HR.out.ext (HWX.out.trans Xw3.out)).marks) hmk).mono ?_
 rintro e w4 ⟨A4, c4, rfl, h41, h42, ho, hx⟩
 have HO4 := hJ ho
 have E34 := hJ hx
 clear ho; have Xw4 := hJ (Ext.trans Xw3.out hx)
 obtain ⟨q0, q1, q2, q3, q4, q5, q6, q7, q8, zz⟩ := cells9 (b := b) Xw4.out
 clear hx; clear hHeld; refine hK.out _ _ ⟨q1, q3, q6, q7⟩ (fun hHeld => ?_)
 clear hK K; try simp only [Act.put, aP1, aP2, aP3]
 refine E_tail (by rfl) (by kernel_rfl) ?_
 have Y4 := hJ (BIs.ext (BIs.new w b.cells 28) Xw4.out)
 have Z4 : Hid (BIs w4 (w.heap.size + 1) #[.int .i64 0, .slice none 0 0, .int .i64 0, .slice none 0 0, .int .i64 0, .int .i64 0, .slice none 0 0, .slice none 0 0, .slice none 0 0] 28) := hJ (by have := BIs.ext (BIs.new _ _ _) (E01.out.trans (E12.out.trans (E23.out.trans E34.out))); simpa using this)
 have HL1 := hJ (show l1.length = b.vs.length by have := congrArg List.length HV1.out; simpa [vws_len] using this)
 have z1 : Hid (w.heap.size + 1 < w1.heap.size) := hJ (by have := E01.out.size; simp at this; omega)
 obtain ⟨f0, f1, f2, f3, f4, f5, f6, f7, f8⟩ := Y4.out.free9
 go_wp2_with fail
 refine (clone_fls b.Af b.cf b.fls _ ?_ hfs).mono ?_
 ·exact (HR.out.ext (((((HWX.out.trans Xw4.out).set (by simp) _).set (by simp) _).set (by simp) _).set (by simp) _)).fls
 rintro e w5 ⟨A5, c5, rfl, h51, h52, ho5, hx5⟩
 have Y5 : Hid (BIs w5 w.heap.size #[.int .i64 b.self, .slice A1 l1.length c1, .int .i64 b.base, .slice A2 b.log.length c2, .int .i64 b.stable, .int .i64 b.sent, .slice A3 b.pend.length c3, .slice A4 b.marks.length c4, .slice b.Af b.fls.length b.cf] 28) := hJ (BIs.ext ((((Y4.out.set 1 (.slice A1 l1.length c1)).set 3 (.slice A2 b.log.length c2)).set 6 (.slice A3 b.pend.length c3)).set 7 (.slice A4 b.marks.length c4)) hx5)
 have HO5 := hJ ho5
 have E5 : Hid (Ext ((((w4.setCell ⟨w.heap.size, 1, none⟩ (.slice A1 l1.length c1)).setCell ⟨w.heap.size, 3, none⟩ (.slice A2 b.log.length c2)).setCell ⟨w.heap.size, 6, none⟩ (.slice A3 b.pend.length c3)).setCell ⟨w.heap.size, 7, none⟩ (.slice A4 b.marks.length c4)) w5) := hJ hx5
 clear ho5 hx5; have W45 : Hid (Wrote w.heap.size w4 (w5.setCell ⟨w.heap.size, 8, none⟩ (.slice A5 b.fls.length c5))) := hJ ((((((Wrote.set _ _ _ _).trans (Wrote.set _ _ _ _)).trans (Wrote.set _ _ _ _)).trans (Wrote.set _ _ _ _)).trans (Wrote.of E5.out)).trans (Wrote.set _ _ _ _))
 have BP : Hid (BIs (w5.setCell ⟨w.heap.size, 8, none⟩ (.slice A5 b.fls.length c5)) w.heap.size #[.int .i64 b.self, .slice A1 l1.length c1, .int .i64 b.base, .slice A2 b.log.length c2, .int .i64 b.stable, .int .i64 b.sent, .slice A3 b.pend.length c3, .slice A4 b.marks.length c4, .slice A5 b.fls.length c5] 28) := hJ (Y5.out.set 8 _)
 have BR : Hid (BIs (w5.setCell ⟨w.heap.size, 8, none⟩ (.slice A5 b.fls.length c5)) (w.heap.size + 1) #[.int .i64 0, .slice none 0 0, .int .i64 0, .slice none 0 0, .int .i64 0, .int .i64 0, .slice none 0 0, .slice none 0 0, .slice none 0 0] 28) := hJ (W45.out.bis Z4.out (by omega))
 have hn45 : Hid (w4.heap.size ≤ (w5.setCell ⟨w.heap.size, 8, none⟩ (.slice A5 b.fls.length c5)).heap.size) := hJ W45.out.size
 have hlt5 : Hid (w.heap.size + 1 < w4.heap.size) := hJ Z4.out.lt
 have hs4 : ((((w4.setCell ⟨w.heap.size, 1, none⟩ (.slice A1 l1.length c1)).setCell ⟨w.heap.size, 3, none⟩ (.slice A2 b.log.length c2)).setCell ⟨w.heap.size, 6, none⟩ (.slice A3 b.pend.length c3)).setCell ⟨w.heap.size, 7, none⟩ (.slice A4 b.marks.length c4)).heap.size = w4.heap.size := by simp [World.setCell]
 have OF : Hid (flE.OB (w5.setCell ⟨w.heap.size, 8, none⟩ (.slice A5 b.fls.length c5)) w4.heap.size (.slice A5 b.fls.length c5) b.fls) := hJ (by
  have ho := HO5.out
  rw [hs4] at ho
  refine ⟨ho.1.keep fun k hk hlt => (Wrote.set w.heap.size 8 w5 _).blk hlt (by have := (ho.1.lt k hk).1; have := hlt5.out; omega), fun f hf => ⟨(ho.2 f hf).1, fun r hr => ⟨?_, ((ho.2 f hf).2 r hr).2⟩⟩⟩
  have hr' := hr
  simp only [flE, List.mem_cons, List.not_mem_nil, or_false] at hr
  subst hr
  exact row_set_far ((ho.2 f hf).2 (f.A, entE.cells f.log) hr').1 (fun q hne hq => by have := row_lt ((HR.out.fls.2 f hf).2 (f.A, entE.cells f.log) hr') hne hq; simp; omega))
 obtain ⟨g0, hg0, hgo⟩ : ∃ g0, w4.heap.size ≤ g0 ∧ ∀ q, (Value.slice A5 b.fls.length c5).ownBlock = some q → q = g0 := by
  rcases A5 with _ | ad
  ·exact ⟨w4.heap.size, Nat.le_refl _, fun q hq => by simp [Value.ownBlock] at hq⟩
  ·exact ⟨ad.block, (OF.out.1.lt ad.block rfl).1, fun q hq => by simp only [Value.ownBlock, Option.some.injEq] at hq; exact hq.symm⟩
 have HGO := hJ hgo
 clear hgo hs4; have t8 : w5.cell? ⟨w.heap.size, 8, none⟩ = some (.slice b.Af b.fls.length b.cf) := Y5.out.cell 8
 have s8 := Y5.out.free 8
 go_wp2; clear t8 s8; have W4U := W45
 clear Y4 Z4 Y5 q0 q1 q2 q3 q4 q5 q6 q7 q8 f0 f1 f2 f3 f4 f5 f6 f7 f8 W45 hHeld; generalize w5.setCell ⟨w.heap.size, 8, none⟩ (.slice A5 b.fls.length c5) = u5 at *
 go_loopw [27] (fun i wr => ∃ (k : Nat) (l' : List FlM), k ≤ b.fls.length ∧ i = .int .i64 k ∧ Hid (l'.length = b.fls.length) ∧ Hid (flv l' = flv b.fls) ∧ Hid (flE.OB wr w4.heap.size (.slice A5 b.fls.length c5) l') ∧ Hid (∀ i f, i < k → l'[i]? = some f → ∀ q, entE.cells f.log ≠ [] → f.A = some q → u5.heap.size ≤ q.block) ∧ Hid (Wrote g0 u5 wr)) (fun i _ => b.fls.length - (intOf i).toNat)
 case atStart => exact ⟨0, b.fls, Nat.zero_le _, rfl, hJ rfl, hJ rfl, OF, hJ (fun i f hi => absurd hi (Nat.not_lt_zero _)), hJ (Wrote.refl _ _)⟩
 case round =>
  obtain ⟨k, l', hk, rfl, HLL, HFV, HOB, HIN, HW⟩ := hrel
  have BPr := hJ (HW.out.bis BP.out (by have := hlt5.out; omega))
  by_cases hlt : k < b.fls.length
  ·have hlt' : k < l'.length := by rw [HLL.out]; exact hlt
   obtain ⟨g, rfl, hgl, hgf⟩ := fl_form HOB.out (by omega)
   have hgg : g = g0 := HGO.out g rfl
   subst hgg
   have HBX : Hid (flE.Box wr (some ⟨g, 0, none⟩) l') := hJ (by
    obtain ⟨A', c', hv, _, _, hb⟩ := HOB.out.slice
    simp only [Value.slice.injEq] at hv
    rw [hv.1]; exact hb)
   obtain ⟨bb, off, f, hA, hb, c0, c1', c2', HFR, HX⟩ := fls_at HBX.out hlt'
   simp only [Option.some.injEq, Addr.mk.injEq, and_true] at hA
   obtain ⟨rfl, rfl⟩ := hA
   simp only [Nat.zero_add] at c0 c1' c2'
   have f2 := hgf (k * 3 + 2)
   have p8 : wr.cell? ⟨w.heap.size, 8, none⟩ = some (.slice (some ⟨g, 0, none⟩) b.fls.length c5) := BPr.out.cell 8
   have hpr : w.heap.size < wr.heap.size := BPr.out.lt
   have hfl : f.log.length ≤ 1000000 := by
    have hm : f.v ∈ flv b.fls := by rw [← HFV.out]; exact List.mem_map_of_mem (List.mem_of_getElem? HX.out)
    obtain ⟨u, hu, hv2⟩ := List.mem_map.1 hm
    have := (HFT.out.fl u hu).1
    simp only [FlM.v, Prod.mk.injEq] at hv2
    rw [← hv2.2.2]; omega
   clear c0 c1' hgf; go_wp2; refine E_begin 10 (fun w' => w'.cell? ⟨w.heap.size, 8, none⟩ = some (.slice (some ⟨g, 0, none⟩) b.fls.length c5) ∧ w'.cell? ⟨g, k * 3 + 2, none⟩ = some (.slice f.A f.log.length f.c)) (by kernel_rfl) ⟨p8, c2'⟩ (fun hHeld => ?_)
   refine E_t 0 30 ?_; refine E_t 1 31 ?_; refine E_t 2 32 ?_; refine E_t 3 33 ?_; refine E_t 4 34 ?_; refine E_t 5 35 ?_; refine E_t 6 36 ?_; refine E_t 7 37 ?_; refine E_t 8 38 ?_; refine E_ready [9] (by kernel_rfl) (by simp) ?_
   refine AllE.cons (o := ⟨some 39, _, _, _, _, _⟩) rfl (fun K hK => ?_) AllE.nil
   go_simp; go_at_call 108; refine (clone_ents f.A f.c f.log _ (ent_box (HFR.out.ext Ext.drew1)) hfl).mono ?_
   rintro e w6 ⟨A6, c6, rfl, h61, h62, ho6, hx6⟩
   have HO6 := hJ ho6
   have E6 : Hid (Ext wr w6) := hJ (Ext.trans Ext.drew1 hx6)
   have s8 : w6.cell? ⟨w.heap.size, 8, none⟩ = some (.slice (some ⟨g, 0, none⟩) b.fls.length c5) := by rw [E6.out.cell (by exact hpr)]; exact p8
   have d2 : w6.cell? ⟨g, k * 3 + 2, none⟩ = some (.slice f.A f.log.length f.c) := by rw [E6.out.cell (by exact hb)]; exact c2'
   have g2 : w6.frozen? ⟨g, k * 3 + 2, none⟩ = false := by rw [E6.out.frozen (by exact hb)]; exact f2
   clear ho6 hx6; clear hHeld; refine hK.out _ _ ⟨s8, d2⟩ (fun hHeld => ?_)
   clear hK K; try simp only [Act.put, aP1, aP2, aP3]
   refine E_tail (by rfl) (by kernel_rfl) ?_
   have HO7 : Hid (flE.OB w6 w4.heap.size (.slice (some ⟨g, 0, none⟩) l'.length c5) l') := hJ (by rw [HLL.out]; exact HOB.out.ext E6.out)
   have HR6 : Hid (Row w6 A6 (entE.cells f.log)) := hJ HO6.out.1.row
   have HN6 : Hid (NewR wr A6 (entE.cells f.log)) := hJ (fun q _ hq => by subst hq; exact (HO6.out.1.lt q.block rfl).1)
   have HO8 := hJ (fls_set (k := k) HO7.out HX.out h61 h62 HR6.out (apt_new (E := flE) (wc := wr) (B := w4.heap.size) (l := l') HN6.out (by rw [HLL.out]; exact HOB.out.1)))
   have hszr : Hid (u5.heap.size ≤ wr.heap.size) := hJ HW.out.size
   go_wp2; go_roundw
   case rel => exact ⟨k + 1, l'.set k ⟨f.m, f.b, A6, c6, f.log⟩, by omega, by go_num, hJ (by rw [List.length_set]; exact HLL.out), hJ (by rw [flv_set HX.out]; exact HFV.out), hJ (by have := HO8.out; rw [HLL.out] at this; exact this), hJ (fun i f' hi hf' q hne hq => by
    rw [List.getElem?_set] at hf'
    split at hf'
    ·cases hf'; exact Nat.le_trans hszr.out (HN6.out q hne hq)
    ·exact HIN.out i f' (by omega) hf' q hne hq), hJ ((HW.out.trans (Wrote.of E6.out)).trans (Wrote.set _ _ _ _))⟩
   case measure => simp [intOf]; omega
  ·have BRr := hJ (HW.out.bis BR.out (by have := hlt5.out; omega))
   obtain ⟨q0, q1, q2, q3, q4, q5, q6, q7, q8⟩ := nine BPr.out
   obtain ⟨z0, z1, z2, z3, z4, z5, z6, z7, z8⟩ := BRr.out.free9
   obtain ⟨y0, y1, y2, y3, y4, y5, y6, y7, y8⟩ := nine BRr.out
   have hp1 : w.heap.size + 1 ≠ w.heap.size := by omega
   go_wp2; have W9 : Hid (Wrote (w.heap.size + 1) wr (((((((((wr.setCell ⟨w.heap.size + 1, 0, none⟩ (.int .i64 b.self)).setCell ⟨w.heap.size + 1, 1, none⟩ (.slice A1 l1.length c1)).setCell ⟨w.heap.size + 1, 2, none⟩ (.int .i64 b.base)).setCell ⟨w.heap.size + 1, 3, none⟩ (.slice A2 b.log.length c2)).setCell ⟨w.heap.size + 1, 4, none⟩ (.int .i64 b.stable)).setCell ⟨w.heap.size + 1, 5, none⟩ (.int .i64 b.sent)).setCell ⟨w.heap.size + 1, 6, none⟩ (.slice A3 b.pend.length c3)).setCell ⟨w.heap.size + 1, 7, none⟩ (.slice A4 b.marks.length c4)).setCell ⟨w.heap.size + 1, 8, none⟩ (.slice A5 b.fls.length c5))) := hJ nine_wrote
   have BF : Hid (BIs (((((((((wr.setCell ⟨w.heap.size + 1, 0, none⟩ (.int .i64 b.self)).setCell ⟨w.heap.size + 1, 1, none⟩ (.slice A1 l1.length c1)).setCell ⟨w.heap.size + 1, 2, none⟩ (.int .i64 b.base)).setCell ⟨w.heap.size + 1, 3, none⟩ (.slice A2 b.log.length c2)).setCell ⟨w.heap.size + 1, 4, none⟩ (.int .i64 b.stable)).setCell ⟨w.heap.size + 1, 5, none⟩ (.int .i64 b.sent)).setCell ⟨w.heap.size + 1, 6, none⟩ (.slice A3 b.pend.length c3)).setCell ⟨w.heap.size + 1, 7, none⟩ (.slice A4 b.marks.length c4)).setCell ⟨w.heap.size + 1, 8, none⟩ (.slice A5 b.fls.length c5)) (w.heap.size + 1) #[.int .i64 b.self, .slice A1 l1.length c1, .int .i64 b.base, .slice A2 b.log.length c2, .int .i64 b.stable, .int .i64 b.sent, .slice A3 b.pend.length c3, .slice A4 b.marks.length c4, .slice A5 b.fls.length c5] 28) := hJ (nine_set BRr.out)
   clear q0 q1 q2 q3 q4 q5 q6 q7 q8 z0 z1 z2 z3 z4 z5 z6 z7 z8 y0 y1 y2 y3 y4 y5 y6 y7 y8; generalize (((((((((wr.setCell ⟨w.heap.size + 1, 0, none⟩ (.int .i64 b.self)).setCell ⟨w.heap.size + 1, 1, none⟩ (.slice A1 l1.length c1)).setCell ⟨w.heap.size + 1, 2, none⟩ (.int .i64 b.base)).setCell ⟨w.heap.size + 1, 3, none⟩ (.slice A2 b.log.length c2)).setCell ⟨w.heap.size + 1, 4, none⟩ (.int .i64 b.stable)).setCell ⟨w.heap.size + 1, 5, none⟩ (.int .i64 b.sent)).setCell ⟨w.heap.size + 1, 6, none⟩ (.slice A3 b.pend.length c3)).setCell ⟨w.heap.size + 1, 7, none⟩ (.slice A4 b.marks.length c4)).setCell ⟨w.heap.size + 1, 8, none⟩ (.slice A5 b.fls.length c5)) = wF at *
   obtain ⟨e0, e1, e2, e3, e4, e5, e6, e7, e8⟩ := nine BF.out
   refine bodyPost_ret (v := .agg #[.int .i64 b.self, .slice A1 l1.length c1, .int .i64 b.base, .slice A2 b.log.length c2, .int .i64 b.stable, .int .i64 b.sent, .slice A3 b.pend.length c3, .slice A4 b.marks.length c4, .slice A5 b.fls.length c5]) (by simp [results, Tryz.results39, go_sem, e0, e1, e2, e3, e4, e5, e6, e7, e8]) rfl ?_
   have z12 := E12.out.size
   have z23 := E23.out.size
   have z34 := E34.out.size
   have z1' := z1.out
   have z45 := hn45.out
   have hu1 := hues1 (p := w.heap.size) (n1 := w1.heap.size) (n2 := w2.heap.size) (n3 := w3.heap.size) (n4 := w4.heap.size) (n5 := u5.heap.size)
   have O9 : OffS (hues w.heap.size w1.heap.size w2.heap.size w3.heap.size w4.heap.size u5.heap.size) [1, 4] wr wF := OffS.wrote W9.out (fun _ => by rw [hu1.2]; simp)
   have O5 : OffS (hues w.heap.size w1.heap.size w2.heap.size w3.heap.size w4.heap.size u5.heap.size) [1, 4] u5 wF := (OffS.wrote HW.out (fun h => by rw [hues4 z1' z12 z23 z34 hg0 h]; simp)).trans O9
   have O4 : OffS (hues w.heap.size w1.heap.size w2.heap.size w3.heap.size w4.heap.size u5.heap.size) [1, 4] w4 wF := (OffS.wrote W4U.out (fun _ => by rw [hu1.1]; simp)).trans O5
   have O3 := (OffS.ext (col := hues w.heap.size w1.heap.size w2.heap.size w3.heap.size w4.heap.size u5.heap.size) (cs := [1, 4]) E34.out).trans O4
   have O2 := (OffS.ext (col := hues w.heap.size w1.heap.size w2.heap.size w3.heap.size w4.heap.size u5.heap.size) (cs := [1, 4]) E23.out).trans O3
   have O1 := (OffS.ext (col := hues w.heap.size w1.heap.size w2.heap.size w3.heap.size w4.heap.size u5.heap.size) (cs := [1, 4]) E12.out).trans O2
   have C1 : ColV (hues w.heap.size w1.heap.size w2.heap.size w3.heap.size w4.heap.size u5.heap.size) 0 (.slice A1 l1.length c1) := fun q hq => by have := HO1.out.1.lt q hq; simp at this; exact hues0 this.2 (by omega)
   have C2 : ColV (hues w.heap.size w1.heap.size w2.heap.size w3.heap.size w4.heap.size u5.heap.size) 2 (.slice A2 b.log.length c2) := fun q hq => by have := HO2.out.1.lt q hq; exact hues2 z1' this.1 this.2
   have C3 : ColV (hues w.heap.size w1.heap.size w2.heap.size w3.heap.size w4.heap.size u5.heap.size) 6 (.slice A3 b.pend.length c3) := fun q hq => by have := HO3.out.1.lt q hq; exact hues6 z1' z12 this.1 this.2
   have C4 : ColV (hues w.heap.size w1.heap.size w2.heap.size w3.heap.size w4.heap.size u5.heap.size) 3 (.slice A4 b.marks.length c4) := fun q hq => by have := HO4.out.1.lt q hq; exact hues3 z1' z12 z23 this.1 this.2
   have C5 : ColV (hues w.heap.size w1.heap.size w2.heap.size w3.heap.size w4.heap.size u5.heap.size) 4 (.slice A5 b.fls.length c5) := fun q hq => by have := OF.out.1.lt q hq; exact hues4 z1' z12 z23 z34 this.1 this.2
   have hvi : ∀ v ∈ l1, ColR (hues w.heap.size w1.heap.size w2.heap.size w3.heap.size w4.heap.size u5.heap.size) 0 v.A (ints v.xs) := fun v hv q hne hq => by
    have h1 := HNV.out v hv q hne hq
    have h2 := row_lt ((HO1.out.2 v hv).2 (v.A, ints v.xs) (by simp [viewE])).1 hne hq
    simp at h1
    exact hues0 h2 (by omega)
   have hfi : ∀ f ∈ l', ColR (hues w.heap.size w1.heap.size w2.heap.size w3.heap.size w4.heap.size u5.heap.size) 0 f.A (entE.cells f.log) := fun f hf q hne hq => by
    obtain ⟨i, hi, he⟩ := List.mem_iff_getElem.1 hf
    exact huesz z1' z12 z23 z34 z45 (HIN.out i f (by have := HLL.out; omega) (by rw [← he]; exact List.getElem?_eq_getElem hi) q hne hq)
   have hst : (⟨b.self, b.base, b.stable, b.sent, A1, c1, l1, A2, c2, b.log, A3, c3, b.pend, A4, c4, b.marks, A5, c5, l'⟩ : BM).st = b.st := by
    have h1 := HV1.out
    have h2 := HFV.out
    unfold flv at h2
    simp only [BM.st, h1, h2]
   refine ⟨⟨b.self, b.base, b.stable, b.sent, A1, c1, l1, A2, c2, b.log, A3, c3, b.pend, A4, c4, b.marks, A5, c5, l'⟩, hues w.heap.size w1.heap.size w2.heap.size w3.heap.size w4.heap.size u5.heap.size, ?_, hst, HFT.out.of_st hst ⟨h21, h22⟩, ?_, fun k hk => hues8 hk, ?_, C3, ?_⟩
   ·simp only [BM.cells, HLL.out]
   ·refine ⟨⟨O1.row HO1.out.1.row (C1.row HO1.out.1) (by simp), fun v hv => ⟨(HO1.out.2 v hv).1, fun r hr => ?_⟩⟩, C1.row HO1.out.1, hvi, (O2.own HO2.out.1 C2 (by simp)).base (by omega), C2, O3.row HO3.out.1.row (C3.row HO3.out.1) (by simp), C3.row HO3.out.1, (O4.own HO4.out.1 C4 (by simp)).base (by omega), C4, ?_, by simp only [HLL.out]; exact C5, fun f hf => ⟨(HOB.out.2 f hf).1, O9.row ((HOB.out.2 f hf).2 (f.A, entE.cells f.log) (by simp [flE])).1 (hfi f hf) (by simp), hfi f hf⟩⟩
    ·have hr' := hr
     simp only [viewE, List.mem_cons, List.not_mem_nil, or_false] at hr
     subst hr
     exact O1.row ((HO1.out.2 v hv).2 _ hr').1 (hvi v hv) (by simp)
    ·have : flE.Own wF w.heap.size (.slice A5 b.fls.length c5) l' := (HOB.out.1.keep fun k hk hlt => W9.out.blk hlt (by have := HGO.out k hk; omega)).base (by omega)
     simp only [HLL.out]; exact this
   ·exact (O3.own HO3.out.1 C3 (by simp)).base (by omega)
   ·exact W9.out.ext (HW.out.ext (W4U.out.ext (HWX.out.trans Xw4.out) (Nat.le_refl _)) (by omega)) (by omega)
end Go.Proofs.YtponbabbabnaeaaGreat
namespace Go.Proofs.YtponbabbabnaeaaGreat
open Go.RowKit
structure Stp (B : Nat) (cs : List Nat) (col : Nat → Nat) (w : World) (col' : Nat → Nat) (w' : World) : Prop where
 below : Below B w w'
 hue : ∀ k, k < w.heap.size → col' k = col k
 off : ∀ k, k < w.heap.size → col k ∉ cs → w'.heap[k]? = w.heap[k]?
section
variable {B : Nat} {cs : List Nat} {col col' col'' : Nat → Nat} {w w' w'' : World}
theorem Stp.size (s : Stp B cs col w col' w') : w.heap.size ≤ w'.heap.size := s.below.size
theorem Stp.refl (B : Nat) (cs : List Nat) (col : Nat → Nat) (w : World) : Stp B cs col w col w := ⟨Below.refl _ _, fun _ _ => rfl, fun _ _ _ => rfl⟩
theorem Stp.trans (s : Stp B cs col w col' w') (t : Stp B cs col' w' col'' w'') : Stp B cs col w col'' w'' :=
 ⟨s.below.trans t.below, fun k hk => (t.hue k (Nat.lt_of_lt_of_le hk s.size)).trans (s.hue k hk), fun k hk hc => (t.off k (Nat.lt_of_lt_of_le hk s.size) (by rw [s.hue k hk]; exact hc)).trans (s.off k hk hc)⟩
theorem Stp.mono {cs' : List Nat} (s : Stp B cs col w col' w') (h : ∀ c ∈ cs, c ∈ cs') : Stp B cs' col w col' w' := ⟨s.below, s.hue, fun k hk hc => s.off k hk (fun hm => hc (h _ hm))⟩
theorem Stp.ext (hB : B ≤ w.heap.size) (e : Ext w w') (h : ∀ k, k < w.heap.size → col' k = col k) : Stp B cs col w col' w' := ⟨e.mono hB, h, fun k hk _ => e.block k hk⟩
theorem Stp.ext' (hB : B ≤ w.heap.size) (e : Ext w w') : Stp B cs col w col w' := Stp.ext hB e (fun _ _ => rfl)
theorem Stp.wrote {p : Nat} (h : Wrote p w w') (hB : B ≤ p) (hBw : B ≤ w.heap.size) (hp : col p ∈ cs) : Stp B cs col w col w' :=
 ⟨(Below.refl B w).grown h hBw (fun k hk => by cases hk; exact hB), fun _ _ => rfl, fun k hk hc => h.blk hk (fun e => hc (by rw [e]; exact hp))⟩
theorem Stp.grew {v : Value} (g : Grew w w' v) (hBw : B ≤ w.heap.size) (hv : ∀ k, v.ownBlock = some k → B ≤ k) {c : Nat} (hc : ColV col c v) (hcs : c ∈ cs) : Stp B cs col w col w' :=
 ⟨(Below.refl B w).grown g hBw hv, fun _ _ => rfl, fun k hk hn => g.block k hk (fun e => hn (by rw [hc k e.symm]; exact hcs))⟩
theorem Stp.recol (s : Stp B cs col w col' w') (h : ∀ k, k < w.heap.size → col'' k = col k) : Stp B cs col w col'' w' := ⟨s.below, h, s.off⟩
theorem Stp.row {k : Nat} {A : Option Addr} {xs : List Value} (s : Stp B cs col w col' w') (h : Row w A xs) (hc : ColR col k A xs) (hk : k ∉ cs) : Row w' A xs := by
 intro hx
 obtain ⟨b, off, h1, h2, h3⟩ := h hx
 refine ⟨b, off, h1, Nat.lt_of_lt_of_le h2 s.size, fun j u hj => ?_⟩
 have hb : w'.heap[b]? = w.heap[b]? := s.off b h2 (by rw [hc _ hx h1]; exact hk)
 exact (World.cell?_of_block (a := ⟨b, off + j, none⟩) hb).trans (h3 j u hj)
theorem Stp.colR {k : Nat} {A : Option Addr} {xs : List Value} (s : Stp B cs col w col' w') (h : Row w A xs) (hc : ColR col k A xs) : ColR col' k A xs := hc.old h s.hue
theorem Stp.own {α : Type} {E : Elem α} {k : Nat} {v : Value} {l : List α} (s : Stp B cs col w col' w') {B' : Nat} (h : E.Own w B' v l) (hc : ColV col k v) (hk : k ∉ cs) : E.Own w' B' v l :=
 h.keep fun q hq hlt => s.off q hlt (by rw [hc q hq]; exact hk)
theorem Stp.colV {α : Type} {E : Elem α} {k : Nat} {v : Value} {l : List α} (s : Stp B cs col w col' w') {B' : Nat} (h : E.Own w B' v l) (hc : ColV col k v) : ColV col' k v := hc.old h s.hue
theorem Stp.bis {p : Nat} {vals : Array Value} {t : TypeId} (s : Stp B cs col w col' w') (h : BIs w p vals t) (hp : col p ∉ cs) : BIs w' p vals t := h.same (s.off p h.lt hp)
variable {b : BM}
theorem BM.Lies.vsK (h : b.Lies w B col) (s : Stp B cs col w col' w') (h0 : 0 ∉ cs) : viewE.Box w' b.Av b.vs ∧ ColR col' 0 b.Av (viewE.cells b.vs) ∧ ∀ v ∈ b.vs, ColR col' 0 v.A (ints v.xs) := by
 refine ⟨⟨s.row h.vs.1 h.vc h0, fun v hv => ⟨(h.vs.2 v hv).1, fun r hr => ?_⟩⟩, s.colR h.vs.1 h.vc, fun v hv => s.colR ((h.vs.2 v hv).2 (v.A, ints v.xs) (by simp [viewE])) (h.vi v hv)⟩
 have hr' := hr
 simp only [viewE, List.mem_cons, List.not_mem_nil, or_false] at hr
 subst hr
 exact s.row ((h.vs.2 v hv).2 _ hr') (h.vi v hv) h0
theorem BM.Lies.fiK (h : b.Lies w B col) (s : Stp B cs col w col' w') (h0 : 0 ∉ cs) : ∀ f ∈ b.fls, flE.ok f ∧ Row w' f.A (entE.cells f.log) ∧ ColR col' 0 f.A (entE.cells f.log) :=
 fun f hf => ⟨(h.fi f hf).1, s.row (h.fi f hf).2.1 (h.fi f hf).2.2 h0, s.colR (h.fi f hf).2.1 (h.fi f hf).2.2⟩
theorem BM.Lies.keep (h : b.Lies w B col) (s : Stp B cs col w col' w') (h0 : 0 ∉ cs) (h2 : 2 ∉ cs) (h3 : 3 ∉ cs) (h4 : 4 ∉ cs) (h6 : 6 ∉ cs) : b.Lies w' B col' :=
 ⟨(h.vsK s h0).1, (h.vsK s h0).2.1, (h.vsK s h0).2.2, s.own h.log h.lc h2, s.colV h.log h.lc, s.row h.pend h.pc h6, s.colR h.pend h.pc, s.own h.marks h.mc h3, s.colV h.marks h.mc, s.own h.fls h.fc h4, s.colV h.fls h.fc, h.fiK s h0⟩
theorem BM.Lies.relog (h : b.Lies w B col) (s : Stp B cs col w col' w') (h0 : 0 ∉ cs) (h3 : 3 ∉ cs) (h4 : 4 ∉ cs) (h6 : 6 ∉ cs) {A : Option Addr} {c : Nat} {l : List Ent} (ho : entE.Own w' B (.slice A l.length c) l) (hc : ColV col' 2 (.slice A l.length c)) :
  ({ b with Al := A, cl := c, log := l } : BM).Lies w' B col' :=
 ⟨(h.vsK s h0).1, (h.vsK s h0).2.1, (h.vsK s h0).2.2, ho, hc, s.row h.pend h.pc h6, s.colR h.pend h.pc, s.own h.marks h.mc h3, s.colV h.marks h.mc, s.own h.fls h.fc h4, s.colV h.fls h.fc, h.fiK s h0⟩
theorem BM.Lies.remarks (h : b.Lies w B col) (s : Stp B cs col w col' w') (h0 : 0 ∉ cs) (h2 : 2 ∉ cs) (h4 : 4 ∉ cs) (h6 : 6 ∉ cs) {A : Option Addr} {c : Nat} {l : List (Int × Int)} (ho : markE.Own w' B (.slice A l.length c) l) (hc : ColV col' 3 (.slice A l.length c)) :
  ({ b with Am := A, cm := c, marks := l } : BM).Lies w' B col' :=
 ⟨(h.vsK s h0).1, (h.vsK s h0).2.1, (h.vsK s h0).2.2, s.own h.log h.lc h2, s.colV h.log h.lc, s.row h.pend h.pc h6, s.colR h.pend h.pc, ho, hc, s.own h.fls h.fc h4, s.colV h.fls h.fc, h.fiK s h0⟩
theorem BM.Lies.refls (h : b.Lies w B col) (s : Stp B cs col w col' w') (h0 : 0 ∉ cs) (h2 : 2 ∉ cs) (h3 : 3 ∉ cs) (h6 : 6 ∉ cs) {A : Option Addr} {c : Nat} {l : List FlM} (ho : flE.Own w' B (.slice A l.length c) l) (hc : ColV col' 4 (.slice A l.length c)) (hi : ∀ f ∈ l, flE.ok f ∧ Row w' f.A (entE.cells f.log) ∧ ColR col' 0 f.A (entE.cells f.log)) :
  ({ b with Af := A, cf := c, fls := l } : BM).Lies w' B col' :=
 ⟨(h.vsK s h0).1, (h.vsK s h0).2.1, (h.vsK s h0).2.2, s.own h.log h.lc h2, s.colV h.log h.lc, s.row h.pend h.pc h6, s.colR h.pend h.pc, s.own h.marks h.mc h3, s.colV h.marks h.mc, ho, hc, hi⟩
theorem BM.Lies.repend (h : b.Lies w B col) {A : Option Addr} {c : Nat} {l : List (List UInt8)} (hr : Row w A (strE.cells l)) (hc : ColR col 6 A (strE.cells l)) : ({ b with Ap := A, cp := c, pend := l } : BM).Lies w B col :=
 ⟨h.vs, h.vc, h.vi, h.log, h.lc, hr, hc, h.marks, h.mc, h.fls, h.fc, h.fi⟩
theorem colV_stems {n c : Nat} {v v' : Value} (hs : Stems w v v') (hc : ColV col c v) (hn : n ≤ w.heap.size) (ho : ∀ q, v.ownBlock = some q → q < n) : ColV (paint col n c) c v' := by
 intro q hq
 rcases hs with hs | ⟨k, hk, hle⟩
 ·rw [hs] at hq
  rw [paint_old (ho q hq)]; exact hc q hq
 ·rw [hk] at hq; cases hq
  exact paint_new (by omega)
end
structure CM where
 b : BM
 Ak : Option Addr
 ck : Nat
 pk : List PkM
 Ad : Option Addr
 cd : Nat
 dl : List Ent
def pkE : Elem PkM where
 f v := [.int .i64 v.t, .slice v.A v.bs.length v.c]
 k := 2
 ty := 102
 st := 35
 z := .agg #[.int .i64 0, .slice none 0 0]
 bytes := 32
 inn v := [(v.A, bytesV v.bs)]
 ok v := v.bs.length ≤ v.c ∧ v.c ≤ maxLen
 len _ := rfl
 one a := by intro u hu; simp only [List.mem_cons, List.not_mem_nil, or_false] at hu; rcases hu with rfl | rfl <;> rfl
 pos := by decide
 und := Tryz.underlying35
 info := by kernel_rfl
 zk := rfl
 small := by decide
def PkM.v (k : PkM) : Int × List UInt8 := (k.t, k.bs)
abbrev CM.cells (m : CM) : Array Value := #[.int .i64 m.b.self, .slice m.b.Av m.b.vs.length m.b.cv, .int .i64 m.b.base, .slice m.b.Al m.b.log.length m.b.cl, .int .i64 m.b.stable, .int .i64 m.b.sent, .slice m.b.Ap m.b.pend.length m.b.cp, .slice m.b.Am m.b.marks.length m.b.cm, .slice m.b.Af m.b.fls.length m.b.cf, .slice m.Ak m.pk.length m.ck, .slice m.Ad m.dl.length m.cd]
def CM.cs (m : CM) : Cs := ⟨m.b.st, m.pk.map PkM.v, m.dl⟩
structure CS (w : World) (B : Nat) (col : Nat → Nat) (p : Nat) (m : CM) : Prop where
 box : BIs w p m.cells 86
 pc : col p = 1
 bp : B ≤ p
 lies : m.b.Lies w B col
 pk : pkE.Own w B (.slice m.Ak m.pk.length m.ck) m.pk
 kc : ColV col 5 (.slice m.Ak m.pk.length m.ck)
 ki : ∀ k ∈ m.pk, pkE.ok k ∧ Row w k.A (bytesV k.bs) ∧ ColR col 0 k.A (bytesV k.bs)
 dl : entE.Own w B (.slice m.Ad m.dl.length m.cd) m.dl
 dc : ColV col 7 (.slice m.Ad m.dl.length m.cd)
 fits : m.b.Fits
 cp : m.b.pend.length ≤ m.b.cp
section
variable {B p : Nat} {cs : List Nat} {col col' : Nat → Nat} {w w' : World} {m : CM}
theorem CS.keep (h : CS w B col p m) (s : Stp B cs col w col' w') (hcs : ∀ c ∈ cs, c ∉ [0, 1, 2, 3, 4, 5, 6, 7]) : CS w' B col' p m := by
 have n : ∀ c, c ∈ [0, 1, 2, 3, 4, 5, 6, 7] → c ∉ cs := fun c hc hm => hcs c hm hc
 exact ⟨s.bis h.box (by rw [h.pc]; exact n 1 (by simp)), (s.hue p h.box.lt).trans h.pc, h.bp, h.lies.keep s (n 0 (by simp)) (n 2 (by simp)) (n 3 (by simp)) (n 4 (by simp)) (n 6 (by simp)), s.own h.pk h.kc (n 5 (by simp)), s.colV h.pk h.kc,
  fun k hk => ⟨(h.ki k hk).1, s.row (h.ki k hk).2.1 (h.ki k hk).2.2 (n 0 (by simp)), s.colR (h.ki k hk).2.1 (h.ki k hk).2.2⟩, s.own h.dl h.dc (n 7 (by simp)), s.colV h.dl h.dc, h.fits, h.cp⟩
theorem CS.lt (h : CS w B col p m) : p < w.heap.size := h.box.lt
theorem CS.Bsz (h : CS w B col p m) : B ≤ w.heap.size := Nat.le_trans h.bp (Nat.le_of_lt h.lt)
theorem CS.ext (h : CS w B col p m) (e : Ext w w') : CS w' B col p m := h.keep (cs := []) (Stp.ext' h.Bsz e) (by simp)
end
end Go.Proofs.YtponbabbabnaeaaGreat
