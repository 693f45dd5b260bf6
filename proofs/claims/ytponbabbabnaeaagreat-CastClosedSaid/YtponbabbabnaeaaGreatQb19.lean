/- Part 19 of the proof: contracts of functions that the statement reaches. Conditions: as each theorem says. -/
import Derived.Test.YtponbabbabnaeaaGreatQb01
import Derived.Test.YtponbabbabnaeaaGreatQb11
namespace Go.Proofs.YtponbabbabnaeaaGreat
open Go.RowKit
def ReadOut (w : World) (frame : List UInt8) (en : Ending) (w' : World) : Prop :=
 (∃ (k n f s : Int) (q : ByteArray) (A : Option Addr) (m c : Nat), en = .returned (.tuple #[.agg #[.int .i64 k, .int .i64 n, .int .i64 f, .int .i64 s, .string q, .slice A m c], .bool false]) ∧ readF frame = none ∧ Ext w w') ∨
 (∃ (m : Msg) (A : Option Addr) (c : Nat), en = .returned (.tuple #[.agg #[.int .i64 m.kind, .int .i64 m.num, .int .i64 m.first, .int .i64 m.stable, .string (strB m.pay), .slice A m.ents.length c], .bool true]) ∧ readF frame = some m ∧ m.ents.length ≤ c ∧ c ≤ maxLen ∧ entE.OB w' w.heap.size (.slice A m.ents.length c) m.ents ∧ Ext w w')
theorem six {w : World} {p : Nat} {a b c d e f : Value} {t : TypeId} (h : BIs w p #[a, b, c, d, e, f] t) : w.cell? ⟨p, 0, none⟩ = some a ∧ w.cell? ⟨p, 1, none⟩ = some b ∧ w.cell? ⟨p, 2, none⟩ = some c ∧ w.cell? ⟨p, 3, none⟩ = some d ∧ w.cell? ⟨p, 4, none⟩ = some e ∧ w.cell? ⟨p, 5, none⟩ = some f :=
 ⟨h.cell 0, h.cell 1, h.cell 2, h.cell 3, h.cell 4, h.cell 5⟩
theorem six_free {w : World} {p : Nat} {vals : Array Value} {t : TypeId} (h : BIs w p vals t) : w.frozen? ⟨p, 0, none⟩ = false ∧ w.frozen? ⟨p, 1, none⟩ = false ∧ w.frozen? ⟨p, 2, none⟩ = false ∧ w.frozen? ⟨p, 3, none⟩ = false ∧ w.frozen? ⟨p, 4, none⟩ = false ∧ w.frozen? ⟨p, 5, none⟩ = false :=
 ⟨h.free 0, h.free 1, h.free 2, h.free 3, h.free 4, h.free 5⟩
theorem six_set {w : World} {r : Nat} {x0 x1 x2 x3 x4 x5 a b c d e f : Value} {t : TypeId} (h : BIs w r #[x0, x1, x2, x3, x4, x5] t) : BIs ((((((w.setCell ⟨r, 0, none⟩ a).setCell ⟨r, 1, none⟩ b).setCell ⟨r, 2, none⟩ c).setCell ⟨r, 3, none⟩ d).setCell ⟨r, 4, none⟩ e).setCell ⟨r, 5, none⟩ f) r #[a, b, c, d, e, f] t :=
 (((((h.set 0 a).set 1 b).set 2 c).set 3 d).set 4 e).set 5 f
theorem six_far {w : World} {r q i : Nat} {a b c d e f : Value} (h : q ≠ r) : ((((((w.setCell ⟨r, 0, none⟩ a).setCell ⟨r, 1, none⟩ b).setCell ⟨r, 2, none⟩ c).setCell ⟨r, 3, none⟩ d).setCell ⟨r, 4, none⟩ e).setCell ⟨r, 5, none⟩ f).drew.cell? ⟨q, i, none⟩ = w.cell? ⟨q, i, none⟩ := by
 have f : ∀ (W : World) (i' : Nat) (v : Value), (W.setCell ⟨r, i', none⟩ v).cell? ⟨q, i, none⟩ = W.cell? ⟨q, i, none⟩ := fun W i' v => World.cell?_setCell_far W _ _ v (Ne.symm h)
 have g : ∀ W : World, W.drew.cell? ⟨q, i, none⟩ = W.cell? ⟨q, i, none⟩ := fun _ => rfl
 rw [g, f, f, f, f, f, f]
theorem six_ob {w : World} {r B : Nat} {v a b c d e f : Value} {l : List Ent} (h : entE.OB w B v l) (hr : ∀ k, v.ownBlock = some k → k ≠ r) : entE.OB ((((((w.setCell ⟨r, 0, none⟩ a).setCell ⟨r, 1, none⟩ b).setCell ⟨r, 2, none⟩ c).setCell ⟨r, 3, none⟩ d).setCell ⟨r, 4, none⟩ e).setCell ⟨r, 5, none⟩ f) B v l :=
 Wrote.ob ((((((Wrote.set r 0 w a).trans (Wrote.set r 1 _ b)).trans (Wrote.set r 2 _ c)).trans (Wrote.set r 3 _ d)).trans (Wrote.set r 4 _ e)).trans (Wrote.set r 5 _ f)) h hr
theorem Elem.OB.baseOB {α : Type} {E : Elem α} {w : World} {B B' : Nat} {v : Value} {l : List α} (h : E.OB w B v l) (hb : B' ≤ B) : E.OB w B' v l := ⟨h.1.base hb, h.2⟩
theorem openF_body (b : List UInt8) : (openF b).2.1.length ≤ b.length := by
 unfold openF
 split
 ·exact Nat.zero_le _
 split
 ·exact Nat.zero_le _
 simp only
 split
 ·exact Nat.zero_le _
 split
 ·exact Nat.zero_le _
 split
 ·exact Nat.zero_le _
 ·simp only [List.length_drop, List.length_take]; omega
theorem six_ext {w w' : World} {a b c d e f : Value} (h : Ext w w') : Ext w ((((((w'.setCell ⟨w.heap.size, 0, none⟩ a).setCell ⟨w.heap.size, 1, none⟩ b).setCell ⟨w.heap.size, 2, none⟩ c).setCell ⟨w.heap.size, 3, none⟩ d).setCell ⟨w.heap.size, 4, none⟩ e).setCell ⟨w.heap.size, 5, none⟩ f) :=
 (((((h.set (Nat.le_refl _) a).set (Nat.le_refl _) b).set (Nat.le_refl _) c).set (Nat.le_refl _) d).set (Nat.le_refl _) e).set (Nat.le_refl _) f
set_option maxRecDepth 100000 in
set_option maxHeartbeats 2000000 in
theorem read_any (A : Option Addr) (c : Nat) (frame : List UInt8) (w : World) (h : Row w A (bytesV frame)) (hc : frame.length ≤ c) (hl : frame.length ≤ 1000000) :
  Calls Tryz.prog 72 #[.slice A frame.length c] w (ReadOut w frame) := by
 have H := hJ h; clear h
 obtain ⟨⟨kind, body, n, er⟩, ho⟩ : ∃ d, openF frame = d := ⟨_, rfl⟩
 have HOP := hJ ho
 clear ho; have H0 : Hid (Row (w.alloc (.cells #[.int .i64 0, .int .i64 0, .int .i64 0, .int .i64 0, .string ⟨#[]⟩, .slice none 0 0] 110)) A (bytesV frame)) := hJ (H.out.ext (Ext.new _ _))
 have E0 : Hid (Ext w (w.alloc (.cells #[.int .i64 0, .int .i64 0, .int .i64 0, .int .i64 0, .string ⟨#[]⟩, .slice none 0 0] 110))) := hJ (Ext.new _ _)
 by_cases hbad : er ≠ 0 ∨ n ≠ frame.length
 ·have HF : Hid (readF frame = none) := hJ (by unfold readF; rw [HOP.out]; simp only; rw [if_pos hbad])
  by_cases he : er = 0
  ·subst he
   have hn : ((n : Int) != (frame.length : Int)) = true := by
    have : n ≠ frame.length := by rcases hbad with h | h; exact absurd rfl h; exact h
    simp only [bne_iff_ne, ne_eq]; omega
   clear hbad; go_enter Tryz.func72, Tryz.ntmps72
   go_wp2_with fail
   refine (wopen_any A c frame _ H0.out hc hl).mono ?_
   rintro en w1 ⟨A1, c1, rfl, h11, h12, ho1, hx1⟩
   have X1 := hJ hx1
   obtain ⟨z0, z1, z2, z3, z4, z5⟩ := six_free (BIs.ext (BIs.new w _ _) hx1)
   obtain ⟨y0, y1, y2, y3, y4, y5⟩ := six (BIs.ext (BIs.new w _ _) hx1)
   rw [HOP.out] at ho1 h11 ⊢
   simp only at ho1 h11
   have HB1 := hJ ho1.row
   clear ho1 hx1; go_wp2; have BF : Hid (BIs ((((((w1.setCell ⟨w.heap.size, 0, none⟩ (.int .i64 0)).setCell ⟨w.heap.size, 1, none⟩ (.int .i64 0)).setCell ⟨w.heap.size, 2, none⟩ (.int .i64 0)).setCell ⟨w.heap.size, 3, none⟩ (.int .i64 0)).setCell ⟨w.heap.size, 4, none⟩ (.string ⟨#[]⟩)).setCell ⟨w.heap.size, 5, none⟩ (.slice none 0 0)) w.heap.size #[.int .i64 0, .int .i64 0, .int .i64 0, .int .i64 0, .string ⟨#[]⟩, .slice none 0 0] 110) := hJ ((six_set (BIs.ext (BIs.new w _ _) X1.out)))
   have XFF : Hid (Ext w ((((((w1.setCell ⟨w.heap.size, 0, none⟩ (.int .i64 0)).setCell ⟨w.heap.size, 1, none⟩ (.int .i64 0)).setCell ⟨w.heap.size, 2, none⟩ (.int .i64 0)).setCell ⟨w.heap.size, 3, none⟩ (.int .i64 0)).setCell ⟨w.heap.size, 4, none⟩ (.string ⟨#[]⟩)).setCell ⟨w.heap.size, 5, none⟩ (.slice none 0 0))) := hJ ((six_ext (E0.out.trans X1.out)))
   generalize ((((((w1.setCell ⟨w.heap.size, 0, none⟩ (.int .i64 0)).setCell ⟨w.heap.size, 1, none⟩ (.int .i64 0)).setCell ⟨w.heap.size, 2, none⟩ (.int .i64 0)).setCell ⟨w.heap.size, 3, none⟩ (.int .i64 0)).setCell ⟨w.heap.size, 4, none⟩ (.string ⟨#[]⟩)).setCell ⟨w.heap.size, 5, none⟩ (.slice none 0 0)) = W at *
   obtain ⟨g0, g1, g2, g3, g4, g5⟩ := six BF.out
   refine bodyPost_ret (v := .tuple #[.agg #[.int .i64 0, .int .i64 0, .int .i64 0, .int .i64 0, .string ⟨#[]⟩, .slice none 0 0], .bool false]) (by simp [results, Tryz.results72, go_sem, g0, g1, g2, g3, g4, g5]) rfl ?_
   exact .inl ⟨_, _, _, _, _, _, _, _, rfl, HF.out, XFF.out⟩
  ·have hn : (er != 0) = true := by simpa using he
   clear hbad; go_enter Tryz.func72, Tryz.ntmps72
   go_wp2_with fail
   refine (wopen_any A c frame _ H0.out hc hl).mono ?_
   rintro en w1 ⟨A1, c1, rfl, h11, h12, ho1, hx1⟩
   have X1 := hJ hx1
   obtain ⟨z0, z1, z2, z3, z4, z5⟩ := six_free (BIs.ext (BIs.new w _ _) hx1)
   obtain ⟨y0, y1, y2, y3, y4, y5⟩ := six (BIs.ext (BIs.new w _ _) hx1)
   rw [HOP.out] at ho1 h11 ⊢
   simp only at ho1 h11
   have HB1 := hJ ho1.row
   clear ho1 hx1; go_wp2; have BF : Hid (BIs ((((((w1.setCell ⟨w.heap.size, 0, none⟩ (.int .i64 0)).setCell ⟨w.heap.size, 1, none⟩ (.int .i64 0)).setCell ⟨w.heap.size, 2, none⟩ (.int .i64 0)).setCell ⟨w.heap.size, 3, none⟩ (.int .i64 0)).setCell ⟨w.heap.size, 4, none⟩ (.string ⟨#[]⟩)).setCell ⟨w.heap.size, 5, none⟩ (.slice none 0 0)) w.heap.size #[.int .i64 0, .int .i64 0, .int .i64 0, .int .i64 0, .string ⟨#[]⟩, .slice none 0 0] 110) := hJ ((six_set (BIs.ext (BIs.new w _ _) X1.out)))
   have XFF : Hid (Ext w ((((((w1.setCell ⟨w.heap.size, 0, none⟩ (.int .i64 0)).setCell ⟨w.heap.size, 1, none⟩ (.int .i64 0)).setCell ⟨w.heap.size, 2, none⟩ (.int .i64 0)).setCell ⟨w.heap.size, 3, none⟩ (.int .i64 0)).setCell ⟨w.heap.size, 4, none⟩ (.string ⟨#[]⟩)).setCell ⟨w.heap.size, 5, none⟩ (.slice none 0 0))) := hJ ((six_ext (E0.out.trans X1.out)))
   generalize ((((((w1.setCell ⟨w.heap.size, 0, none⟩ (.int .i64 0)).setCell ⟨w.heap.size, 1, none⟩ (.int .i64 0)).setCell ⟨w.heap.size, 2, none⟩ (.int .i64 0)).setCell ⟨w.heap.size, 3, none⟩ (.int .i64 0)).setCell ⟨w.heap.size, 4, none⟩ (.string ⟨#[]⟩)).setCell ⟨w.heap.size, 5, none⟩ (.slice none 0 0)) = W at *
   obtain ⟨g0, g1, g2, g3, g4, g5⟩ := six BF.out
   refine bodyPost_ret (v := .tuple #[.agg #[.int .i64 0, .int .i64 0, .int .i64 0, .int .i64 0, .string ⟨#[]⟩, .slice none 0 0], .bool false]) (by simp [results, Tryz.results72, go_sem, g0, g1, g2, g3, g4, g5]) rfl ?_
   exact .inl ⟨_, _, _, _, _, _, _, _, rfl, HF.out, XFF.out⟩
 ·have hen : er = 0 ∧ n = frame.length := by
   constructor
   ·exact Classical.byContradiction fun h => hbad (.inl h)
   ·exact Classical.byContradiction fun h => hbad (.inr h)
  obtain ⟨rfl, rfl⟩ := hen
  have hbl : Hid (body.length ≤ 1000000) := hJ (by have := openF_body frame; rw [HOP.out] at this; simp only at this; omega)
  by_cases hk11 : kind = 11
  ·subst hk11
   obtain ⟨⟨a, r1⟩, ha⟩ : ∃ d, numR (body, false) = d := ⟨_, rfl⟩
   have HA := hJ ha
   obtain ⟨⟨b, r2⟩, hc0⟩ : ∃ d, numR r1 = d := ⟨_, rfl⟩
   have HC0 := hJ hc0
   obtain ⟨⟨pl, rf⟩, hc1⟩ : ∃ d, payR r2 = d := ⟨_, rfl⟩
   have HC1 := hJ hc1
   have HRF : Hid (readF frame = if rf.2 = false ∧ rf.1.length = 0 then some ⟨11, a, b, 0, pl, []⟩ else none) := hJ (by unfold readF; rw [HOP.out]; simp only; rw [if_neg hbad]; unfold bodyR; simp only [ha, hc0, hc1, if_true, if_false, Int.reduceEq])
   clear hbad ha hc0 hc1; go_enter Tryz.func72, Tryz.ntmps72
   go_wp2_with fail
   refine (wopen_any A c frame _ H0.out hc hl).mono ?_
   rintro en w1 ⟨A1, c1, rfl, h11, h12, ho1, hx1⟩
   have X1 := hJ hx1
   obtain ⟨z0, z1, z2, z3, z4, z5⟩ := six_free (BIs.ext (BIs.new w _ _) hx1)
   obtain ⟨y0, y1, y2, y3, y4, y5⟩ := six (BIs.ext (BIs.new w _ _) hx1)
   rw [HOP.out] at ho1 h11 ⊢
   simp only at ho1 h11
   have HB1 := hJ ho1.row
   clear ho1 hx1; have RS0 : Hid (RS w1 w1.heap.size (w1.alloc (.cells #[.slice A1 body.length c1, .bool false] 175)) (body, false)) := hJ ⟨Nat.le_refl _, Ext.new _ _, hbl.out, A1, c1, BIs.new _ _ _, HB1.out, h11⟩
   go_wp2_with fail
   refine (rnumber_any w1 w1.heap.size (body, false) _ RS0.out).mono ?_
   rintro en w2 ⟨rfl, hr2, hw2⟩
   rw [HA.out] at hr2 ⊢
   simp only at hr2
   have X12 : Hid (Ext w1 w2) := hJ ((hw2.ext (Ext.new w1 _)) (Nat.le_refl _))
   have hp2 : Hid (w1.heap.size < w2.heap.size) := hJ hr2.parts.choose_spec.choose_spec.2.2.2.2.2.2
   have R2 : Hid (RS w1 w1.heap.size (w2.alloc (.cells #[.int .i64 11, .int .i64 a, .int .i64 0, .int .i64 0, .string ⟨#[]⟩, .slice none 0 0] 110)) r1) := hJ (hr2.ext (Ext.new _ _))
   have B2 : Hid (BIs (w2.alloc (.cells #[.int .i64 11, .int .i64 a, .int .i64 0, .int .i64 0, .string ⟨#[]⟩, .slice none 0 0] 110)) w2.heap.size #[.int .i64 11, .int .i64 a, .int .i64 0, .int .i64 0, .string ⟨#[]⟩, .slice none 0 0] 110) := hJ (BIs.new _ _ _)
   have X2 : Hid (Ext w1 (w2.alloc (.cells #[.int .i64 11, .int .i64 a, .int .i64 0, .int .i64 0, .string ⟨#[]⟩, .slice none 0 0] 110))) := hJ (X12.out.trans (Ext.new _ _))
   have hs2 : Hid (w2.heap.size + 1 = (w2.alloc (.cells #[.int .i64 11, .int .i64 a, .int .i64 0, .int .i64 0, .string ⟨#[]⟩, .slice none 0 0] 110)).heap.size) := hJ (by simp)
   clear hr2 hw2; go_wp2_with fail
   generalize hW2 : w2.alloc (.cells #[.int .i64 11, .int .i64 a, .int .i64 0, .int .i64 0, .string ⟨#[]⟩, .slice none 0 0] 110) = u0 at *
   clear hW2; refine (rnumber_any w1 w1.heap.size r1 u0 R2.out).mono ?_
   rintro en u1 ⟨rfl, hr2, hw2⟩
   rw [HC0.out] at hr2 ⊢
   simp only at hr2
   have RC0 := hJ hr2
   have BC0 := hJ (hw2.bis B2.out (by have := hp2.out; omega))
   have XC0 : Hid (Ext w1 u1) := hJ (hw2.ext X2.out (Nat.le_refl _))
   have SC0 : Hid (w2.heap.size < u1.heap.size) := hJ BC0.out.lt
   clear hr2 hw2; go_wp2_with fail
   refine (rpayload_any w1 w1.heap.size r2 u1 RC0.out).mono ?_
   rintro en u2 ⟨rfl, hr2, hw2⟩
   rw [HC1.out] at hr2 ⊢
   simp only at hr2
   have RC1 := hJ hr2
   have BC1 := hJ (hw2.bis BC0.out (by have := hp2.out; omega))
   have XC1 : Hid (Ext w1 u2) := hJ (hw2.ext XC0.out (Nat.le_refl _))
   have SC1 : Hid (w2.heap.size < u2.heap.size) := hJ BC1.out.lt
   clear hr2 hw2; obtain ⟨q0, q1, q2, q3, q4, q5⟩ := six BC1.out
   obtain ⟨v0, v1, v2, v3, v4, v5⟩ := six_free BC1.out
   have WF : Hid (Wrote w2.heap.size u2 ((u2.setCell ⟨w2.heap.size, 2, none⟩ (.int .i64 b)).setCell ⟨w2.heap.size, 4, none⟩ (.string (strB pl)))) := hJ (((Wrote.refl _ _).trans (Wrote.set _ _ _ _)).trans (Wrote.set _ _ _ _))
   have BQ : Hid (BIs ((u2.setCell ⟨w2.heap.size, 2, none⟩ (.int .i64 b)).setCell ⟨w2.heap.size, 4, none⟩ (.string (strB pl))) w2.heap.size #[.int .i64 11, .int .i64 a, .int .i64 b, .int .i64 0, .string (strB pl), .slice none 0 0] 110) := hJ (((BC1.out).set 2 (.int .i64 b)).set 4 (.string (strB pl)))
   have RP : Hid (RS w1 w1.heap.size ((u2.setCell ⟨w2.heap.size, 2, none⟩ (.int .i64 b)).setCell ⟨w2.heap.size, 4, none⟩ (.string (strB pl))) rf) := hJ (RC1.out.wrote WF.out (by have := hp2.out; omega) (by have := hp2.out; omega))
   have XF : Hid (Ext (w.alloc (.cells #[.int .i64 0, .int .i64 0, .int .i64 0, .int .i64 0, .string ⟨#[]⟩, .slice none 0 0] 110)) ((u2.setCell ⟨w2.heap.size, 2, none⟩ (.int .i64 b)).setCell ⟨w2.heap.size, 4, none⟩ (.string (strB pl)))) := hJ (X1.out.trans (WF.out.ext XC1.out (by have := hp2.out; omega)))
   go_wp2; clear WF q0 q1 q2 q3 q4 q5 v0 v1 v2 v3 v4 v5; generalize ((u2.setCell ⟨w2.heap.size, 2, none⟩ (.int .i64 b)).setCell ⟨w2.heap.size, 4, none⟩ (.string (strB pl))) = wf at *
   clear z0 z1 z2 z3 z4 z5 y0 y1 y2 y3 y4 y5; obtain ⟨Ab, cb, k0, k1, _, _, _, _, hpl⟩ := RP.out.parts
   obtain ⟨q0, q1, q2, q3, q4, q5⟩ := six BQ.out
   obtain ⟨z0, z1, z2, z3, z4, z5⟩ := six_free (BIs.ext (BIs.new w _ _) XF.out)
   obtain ⟨y0, y1, y2, y3, y4, y5⟩ := six (BIs.ext (BIs.new w _ _) XF.out)
   have hne1 : w2.heap.size ≠ w.heap.size := by have := hp2.out; have := X1.out.size; simp at this; omega
   have hne2 : w1.heap.size ≠ w.heap.size := by have := X1.out.size; simp at this; omega
   cases hff : rf.2 with
   | true =>
    rw [hff] at k1
    have HF : Hid (readF frame = none) := hJ (by rw [HRF.out, if_neg (by rw [hff]; simp)])
    refine E_begin 16 (fun w' => w'.cell? ⟨w2.heap.size, 0, none⟩ = some (.int .i64 11) ∧ w'.cell? ⟨w2.heap.size, 1, none⟩ = some (.int .i64 a) ∧ w'.cell? ⟨w2.heap.size, 2, none⟩ = some (.int .i64 b) ∧ w'.cell? ⟨w2.heap.size, 3, none⟩ = some (.int .i64 0) ∧ w'.cell? ⟨w2.heap.size, 4, none⟩ = some (.string (strB pl)) ∧ w'.cell? ⟨w2.heap.size, 5, none⟩ = some (.slice none 0 0) ∧ w'.cell? ⟨w1.heap.size, 0, none⟩ = some (.slice Ab rf.1.length cb) ∧ w'.cell? ⟨w1.heap.size, 1, none⟩ = some (.bool true)) (by kernel_rfl) ⟨q0, q1, q2, q3, q4, q5, k0, k1⟩ (fun hHeld => ?_)
    refine E_t 0 72 ?_; refine E_t 1 73 ?_; refine E_t 2 74 ?_; refine E_t 3 75 ?_; refine E_t 4 76 ?_; refine E_t 5 77 ?_; refine E_t 6 78 ?_; refine E_s 7 79 ?_; refine E_s 8 80 ?_; refine E_s 9 81 ?_; refine E_s 10 82 ?_; refine E_s 11 83 ?_; refine E_s 12 84 ?_; refine E_t 13 85 ?_; refine E_ready [14] (by kernel_rfl) (by simp) ?_
    refine AllE.cons (o := ⟨none, _, _, _, _, _⟩) rfl (fun K hK => ?_) AllE.nil
    go_simp; clear hHeld; refine hK.out _ _ ⟨(six_far hne1).trans q0, (six_far hne1).trans q1, (six_far hne1).trans q2, (six_far hne1).trans q3, (six_far hne1).trans q4, (six_far hne1).trans q5, (six_far hne2).trans k0, (six_far hne2).trans k1⟩ (fun hHeld => ?_)
    clear hK K; try simp only [Act.put, aP1, aP2, aP3]
    refine E_t 15 3 ?_; refine E_end (by kernel_rfl) (by rfl) ?_
    go_wp2; have BF : Hid (BIs ((((((wf.setCell ⟨w.heap.size, 0, none⟩ (.int .i64 11)).setCell ⟨w.heap.size, 1, none⟩ (.int .i64 a)).setCell ⟨w.heap.size, 2, none⟩ (.int .i64 b)).setCell ⟨w.heap.size, 3, none⟩ (.int .i64 0)).setCell ⟨w.heap.size, 4, none⟩ (.string (strB pl))).setCell ⟨w.heap.size, 5, none⟩ (.slice none 0 0)).drew w.heap.size #[.int .i64 11, .int .i64 a, .int .i64 b, .int .i64 0, .string (strB pl), .slice none 0 0] 110) := hJ ((six_set (BIs.ext (BIs.new w _ _) XF.out)).ext Ext.drew1)
    have XFF : Hid (Ext w ((((((wf.setCell ⟨w.heap.size, 0, none⟩ (.int .i64 11)).setCell ⟨w.heap.size, 1, none⟩ (.int .i64 a)).setCell ⟨w.heap.size, 2, none⟩ (.int .i64 b)).setCell ⟨w.heap.size, 3, none⟩ (.int .i64 0)).setCell ⟨w.heap.size, 4, none⟩ (.string (strB pl))).setCell ⟨w.heap.size, 5, none⟩ (.slice none 0 0)).drew) := hJ ((six_ext (E0.out.trans XF.out)).trans Ext.drew1)
    generalize ((((((wf.setCell ⟨w.heap.size, 0, none⟩ (.int .i64 11)).setCell ⟨w.heap.size, 1, none⟩ (.int .i64 a)).setCell ⟨w.heap.size, 2, none⟩ (.int .i64 b)).setCell ⟨w.heap.size, 3, none⟩ (.int .i64 0)).setCell ⟨w.heap.size, 4, none⟩ (.string (strB pl))).setCell ⟨w.heap.size, 5, none⟩ (.slice none 0 0)).drew = W at *
    obtain ⟨g0, g1, g2, g3, g4, g5⟩ := six BF.out
    refine bodyPost_ret (v := .tuple #[.agg #[.int .i64 11, .int .i64 a, .int .i64 b, .int .i64 0, .string (strB pl), .slice none 0 0], .bool false]) (by simp [results, Tryz.results72, go_sem, g0, g1, g2, g3, g4, g5]) rfl ?_
    exact .inl ⟨_, _, _, _, _, _, _, _, rfl, HF.out, XFF.out⟩
   | false =>
    rw [hff] at k1
    by_cases hz : rf.1.length = 0
    ·have hzz : ((rf.1.length : Int) == 0) = true := by simp [hz]
     have HF : Hid (readF frame = some ⟨11, a, b, 0, pl, []⟩) := hJ (by rw [HRF.out, if_pos (by rw [hff]; simpa using hz)])
     clear hz; refine E_begin 16 (fun w' => w'.cell? ⟨w2.heap.size, 0, none⟩ = some (.int .i64 11) ∧ w'.cell? ⟨w2.heap.size, 1, none⟩ = some (.int .i64 a) ∧ w'.cell? ⟨w2.heap.size, 2, none⟩ = some (.int .i64 b) ∧ w'.cell? ⟨w2.heap.size, 3, none⟩ = some (.int .i64 0) ∧ w'.cell? ⟨w2.heap.size, 4, none⟩ = some (.string (strB pl)) ∧ w'.cell? ⟨w2.heap.size, 5, none⟩ = some (.slice none 0 0) ∧ w'.cell? ⟨w1.heap.size, 0, none⟩ = some (.slice Ab rf.1.length cb) ∧ w'.cell? ⟨w1.heap.size, 1, none⟩ = some (.bool false)) (by kernel_rfl) ⟨q0, q1, q2, q3, q4, q5, k0, k1⟩ (fun hHeld => ?_)
     refine E_t 0 72 ?_; refine E_t 1 73 ?_; refine E_t 2 74 ?_; refine E_t 3 75 ?_; refine E_t 4 76 ?_; refine E_t 5 77 ?_; refine E_t 6 78 ?_; refine E_t 7 79 ?_; refine E_t 8 80 ?_; refine E_t 9 81 ?_; refine E_t 10 82 ?_; refine E_t 11 83 ?_; refine E_t 12 84 ?_; refine E_t 13 85 ?_; refine E_ready [14] (by kernel_rfl) (by simp) ?_
     refine AllE.cons (o := ⟨none, _, _, _, _, _⟩) rfl (fun K hK => ?_) AllE.nil
     go_simp; clear hHeld; refine hK.out _ _ ⟨(six_far hne1).trans q0, (six_far hne1).trans q1, (six_far hne1).trans q2, (six_far hne1).trans q3, (six_far hne1).trans q4, (six_far hne1).trans q5, (six_far hne2).trans k0, (six_far hne2).trans k1⟩ (fun hHeld => ?_)
     clear hK K; try simp only [Act.put, aP1, aP2, aP3]
     refine E_t 15 3 ?_; refine E_end (by kernel_rfl) (by rfl) ?_
     go_wp2; have BF : Hid (BIs ((((((wf.setCell ⟨w.heap.size, 0, none⟩ (.int .i64 11)).setCell ⟨w.heap.size, 1, none⟩ (.int .i64 a)).setCell ⟨w.heap.size, 2, none⟩ (.int .i64 b)).setCell ⟨w.heap.size, 3, none⟩ (.int .i64 0)).setCell ⟨w.heap.size, 4, none⟩ (.string (strB pl))).setCell ⟨w.heap.size, 5, none⟩ (.slice none 0 0)).drew w.heap.size #[.int .i64 11, .int .i64 a, .int .i64 b, .int .i64 0, .string (strB pl), .slice none 0 0] 110) := hJ ((six_set (BIs.ext (BIs.new w _ _) XF.out)).ext Ext.drew1)
     have XFF : Hid (Ext w ((((((wf.setCell ⟨w.heap.size, 0, none⟩ (.int .i64 11)).setCell ⟨w.heap.size, 1, none⟩ (.int .i64 a)).setCell ⟨w.heap.size, 2, none⟩ (.int .i64 b)).setCell ⟨w.heap.size, 3, none⟩ (.int .i64 0)).setCell ⟨w.heap.size, 4, none⟩ (.string (strB pl))).setCell ⟨w.heap.size, 5, none⟩ (.slice none 0 0)).drew) := hJ ((six_ext (E0.out.trans XF.out)).trans Ext.drew1)
     generalize ((((((wf.setCell ⟨w.heap.size, 0, none⟩ (.int .i64 11)).setCell ⟨w.heap.size, 1, none⟩ (.int .i64 a)).setCell ⟨w.heap.size, 2, none⟩ (.int .i64 b)).setCell ⟨w.heap.size, 3, none⟩ (.int .i64 0)).setCell ⟨w.heap.size, 4, none⟩ (.string (strB pl))).setCell ⟨w.heap.size, 5, none⟩ (.slice none 0 0)).drew = W at *
     obtain ⟨g0, g1, g2, g3, g4, g5⟩ := six BF.out
     refine bodyPost_ret (v := .tuple #[.agg #[.int .i64 11, .int .i64 a, .int .i64 b, .int .i64 0, .string (strB pl), .slice none 0 0], .bool true]) (by simp [results, Tryz.results72, go_sem, g0, g1, g2, g3, g4, g5]) rfl ?_
     exact .inr ⟨⟨11, a, b, 0, pl, []⟩, none, 0, rfl, HF.out, Nat.le_refl _, Nat.zero_le _, Elem.OB.nil _ _, XFF.out⟩
    ·have hzz : ((rf.1.length : Int) == 0) = false := by simp; exact fun e => hz (by simp [e])
     have HF : Hid (readF frame = none) := hJ (by rw [HRF.out, if_neg (by rw [hff]; simpa using hz)])
     clear hz; refine E_begin 16 (fun w' => w'.cell? ⟨w2.heap.size, 0, none⟩ = some (.int .i64 11) ∧ w'.cell? ⟨w2.heap.size, 1, none⟩ = some (.int .i64 a) ∧ w'.cell? ⟨w2.heap.size, 2, none⟩ = some (.int .i64 b) ∧ w'.cell? ⟨w2.heap.size, 3, none⟩ = some (.int .i64 0) ∧ w'.cell? ⟨w2.heap.size, 4, none⟩ = some (.string (strB pl)) ∧ w'.cell? ⟨w2.heap.size, 5, none⟩ = some (.slice none 0 0) ∧ w'.cell? ⟨w1.heap.size, 0, none⟩ = some (.slice Ab rf.1.length cb) ∧ w'.cell? ⟨w1.heap.size, 1, none⟩ = some (.bool false)) (by kernel_rfl) ⟨q0, q1, q2, q3, q4, q5, k0, k1⟩ (fun hHeld => ?_)
     refine E_t 0 72 ?_; refine E_t 1 73 ?_; refine E_t 2 74 ?_; refine E_t 3 75 ?_; refine E_t 4 76 ?_; refine E_t 5 77 ?_; refine E_t 6 78 ?_; refine E_t 7 79 ?_; refine E_t 8 80 ?_; refine E_t 9 81 ?_; refine E_t 10 82 ?_; refine E_t 11 83 ?_; refine E_t 12 84 ?_; refine E_t 13 85 ?_; refine E_ready [14] (by kernel_rfl) (by simp) ?_
     refine AllE.cons (o := ⟨none, _, _, _, _, _⟩) rfl (fun K hK => ?_) AllE.nil
     go_simp; clear hHeld; refine hK.out _ _ ⟨(six_far hne1).trans q0, (six_far hne1).trans q1, (six_far hne1).trans q2, (six_far hne1).trans q3, (six_far hne1).trans q4, (six_far hne1).trans q5, (six_far hne2).trans k0, (six_far hne2).trans k1⟩ (fun hHeld => ?_)
     clear hK K; try simp only [Act.put, aP1, aP2, aP3]
     refine E_t 15 3 ?_; refine E_end (by kernel_rfl) (by rfl) ?_
     go_wp2; have BF : Hid (BIs ((((((wf.setCell ⟨w.heap.size, 0, none⟩ (.int .i64 11)).setCell ⟨w.heap.size, 1, none⟩ (.int .i64 a)).setCell ⟨w.heap.size, 2, none⟩ (.int .i64 b)).setCell ⟨w.heap.size, 3, none⟩ (.int .i64 0)).setCell ⟨w.heap.size, 4, none⟩ (.string (strB pl))).setCell ⟨w.heap.size, 5, none⟩ (.slice none 0 0)).drew w.heap.size #[.int .i64 11, .int .i64 a, .int .i64 b, .int .i64 0, .string (strB pl), .slice none 0 0] 110) := hJ ((six_set (BIs.ext (BIs.new w _ _) XF.out)).ext Ext.drew1)
     have XFF : Hid (Ext w ((((((wf.setCell ⟨w.heap.size, 0, none⟩ (.int .i64 11)).setCell ⟨w.heap.size, 1, none⟩ (.int .i64 a)).setCell ⟨w.heap.size, 2, none⟩ (.int .i64 b)).setCell ⟨w.heap.size, 3, none⟩ (.int .i64 0)).setCell ⟨w.heap.size, 4, none⟩ (.string (strB pl))).setCell ⟨w.heap.size, 5, none⟩ (.slice none 0 0)).drew) := hJ ((six_ext (E0.out.trans XF.out)).trans Ext.drew1)
     generalize ((((((wf.setCell ⟨w.heap.size, 0, none⟩ (.int .i64 11)).setCell ⟨w.heap.size, 1, none⟩ (.int .i64 a)).setCell ⟨w.heap.size, 2, none⟩ (.int .i64 b)).setCell ⟨w.heap.size, 3, none⟩ (.int .i64 0)).setCell ⟨w.heap.size, 4, none⟩ (.string (strB pl))).setCell ⟨w.heap.size, 5, none⟩ (.slice none 0 0)).drew = W at *
     obtain ⟨g0, g1, g2, g3, g4, g5⟩ := six BF.out
     refine bodyPost_ret (v := .tuple #[.agg #[.int .i64 11, .int .i64 a, .int .i64 b, .int .i64 0, .string (strB pl), .slice none 0 0], .bool false]) (by simp [results, Tryz.results72, go_sem, g0, g1, g2, g3, g4, g5]) rfl ?_
     exact .inl ⟨_, _, _, _, _, _, _, _, rfl, HF.out, XFF.out⟩
  ·have hkk11 : (kind == 11) = false := by simpa using hk11
   by_cases hk12 : kind = 12
   ·subst hk12
    obtain ⟨⟨a, r1⟩, ha⟩ : ∃ d, numR (body, false) = d := ⟨_, rfl⟩
    have HA := hJ ha
    obtain ⟨⟨b, r2⟩, hc0⟩ : ∃ d, numR r1 = d := ⟨_, rfl⟩
    have HC0 := hJ hc0
    obtain ⟨⟨st, r3⟩, hc1⟩ : ∃ d, numR r2 = d := ⟨_, rfl⟩
    have HC1 := hJ hc1
    obtain ⟨⟨es, rf⟩, hc2⟩ : ∃ d, entsR r3 = d := ⟨_, rfl⟩
    have HC2 := hJ hc2
    have HRF : Hid (readF frame = if rf.2 = false ∧ rf.1.length = 0 then some ⟨12, a, b, st, [], es⟩ else none) := hJ (by unfold readF; rw [HOP.out]; simp only; rw [if_neg hbad]; unfold bodyR; simp only [ha, hc0, hc1, hc2, if_true, if_false, Int.reduceEq])
    clear hbad ha hc0 hc1 hc2; go_enter Tryz.func72, Tryz.ntmps72
    go_wp2_with fail
    refine (wopen_any A c frame _ H0.out hc hl).mono ?_
    rintro en w1 ⟨A1, c1, rfl, h11, h12, ho1, hx1⟩
    have X1 := hJ hx1
    obtain ⟨z0, z1, z2, z3, z4, z5⟩ := six_free (BIs.ext (BIs.new w _ _) hx1)
    obtain ⟨y0, y1, y2, y3, y4, y5⟩ := six (BIs.ext (BIs.new w _ _) hx1)
    rw [HOP.out] at ho1 h11 ⊢
    simp only at ho1 h11
    have HB1 := hJ ho1.row
    clear ho1 hx1; have RS0 : Hid (RS w1 w1.heap.size (w1.alloc (.cells #[.slice A1 body.length c1, .bool false] 175)) (body, false)) := hJ ⟨Nat.le_refl _, Ext.new _ _, hbl.out, A1, c1, BIs.new _ _ _, HB1.out, h11⟩
    go_wp2_with fail
    refine (rnumber_any w1 w1.heap.size (body, false) _ RS0.out).mono ?_
    rintro en w2 ⟨rfl, hr2, hw2⟩
    rw [HA.out] at hr2 ⊢
    simp only at hr2
    have X12 : Hid (Ext w1 w2) := hJ ((hw2.ext (Ext.new w1 _)) (Nat.le_refl _))
    have hp2 : Hid (w1.heap.size < w2.heap.size) := hJ hr2.parts.choose_spec.choose_spec.2.2.2.2.2.2
    have R2 : Hid (RS w1 w1.heap.size (w2.alloc (.cells #[.int .i64 12, .int .i64 a, .int .i64 0, .int .i64 0, .string ⟨#[]⟩, .slice none 0 0] 110)) r1) := hJ (hr2.ext (Ext.new _ _))
    have B2 : Hid (BIs (w2.alloc (.cells #[.int .i64 12, .int .i64 a, .int .i64 0, .int .i64 0, .string ⟨#[]⟩, .slice none 0 0] 110)) w2.heap.size #[.int .i64 12, .int .i64 a, .int .i64 0, .int .i64 0, .string ⟨#[]⟩, .slice none 0 0] 110) := hJ (BIs.new _ _ _)
    have X2 : Hid (Ext w1 (w2.alloc (.cells #[.int .i64 12, .int .i64 a, .int .i64 0, .int .i64 0, .string ⟨#[]⟩, .slice none 0 0] 110))) := hJ (X12.out.trans (Ext.new _ _))
    have hs2 : Hid (w2.heap.size + 1 = (w2.alloc (.cells #[.int .i64 12, .int .i64 a, .int .i64 0, .int .i64 0, .string ⟨#[]⟩, .slice none 0 0] 110)).heap.size) := hJ (by simp)
    clear hr2 hw2; go_wp2_with fail
    generalize hW2 : w2.alloc (.cells #[.int .i64 12, .int .i64 a, .int .i64 0, .int .i64 0, .string ⟨#[]⟩, .slice none 0 0] 110) = u0 at *
    clear hW2; refine (rnumber_any w1 w1.heap.size r1 u0 R2.out).mono ?_
    rintro en u1 ⟨rfl, hr2, hw2⟩
    rw [HC0.out] at hr2 ⊢
    simp only at hr2
    have RC0 := hJ hr2
    have BC0 := hJ (hw2.bis B2.out (by have := hp2.out; omega))
    have XC0 : Hid (Ext w1 u1) := hJ (hw2.ext X2.out (Nat.le_refl _))
    have SC0 : Hid (w2.heap.size < u1.heap.size) := hJ BC0.out.lt
    clear hr2 hw2; go_wp2_with fail
    refine (rnumber_any w1 w1.heap.size r2 u1 RC0.out).mono ?_
    rintro en u2 ⟨rfl, hr2, hw2⟩
    rw [HC1.out] at hr2 ⊢
    simp only at hr2
    have RC1 := hJ hr2
    have BC1 := hJ (hw2.bis BC0.out (by have := hp2.out; omega))
    have XC1 : Hid (Ext w1 u2) := hJ (hw2.ext XC0.out (Nat.le_refl _))
    have SC1 : Hid (w2.heap.size < u2.heap.size) := hJ BC1.out.lt
    clear hr2 hw2; go_wp2_with fail
    refine (rentries_any w1 w1.heap.size r3 u2 RC1.out).mono ?_
    rintro en u3 ⟨Ae, ce, rfl, he1, he2, hob, hr2, hw2⟩
    rw [HC2.out] at he1 hob hr2 ⊢
    simp only at he1 hob hr2
    have HOB := hJ hob
    clear hob; have RC2 := hJ hr2
    have BC2 := hJ (hw2.bis BC1.out (by have := hp2.out; omega))
    have XC2 : Hid (Ext w1 u3) := hJ (hw2.ext XC1.out (Nat.le_refl _))
    have SC2 : Hid (w2.heap.size < u3.heap.size) := hJ BC2.out.lt
    have hoq : Hid (∀ k, (Value.slice Ae es.length ce).ownBlock = some k → k ≠ w2.heap.size) := hJ (fun k hk => by have := (HOB.out.1.lt k hk).1; have := SC1.out; omega)
    clear hr2 hw2; obtain ⟨q0, q1, q2, q3, q4, q5⟩ := six BC2.out
    obtain ⟨v0, v1, v2, v3, v4, v5⟩ := six_free BC2.out
    have WF : Hid (Wrote w2.heap.size u3 (((u3.setCell ⟨w2.heap.size, 2, none⟩ (.int .i64 b)).setCell ⟨w2.heap.size, 3, none⟩ (.int .i64 st)).setCell ⟨w2.heap.size, 5, none⟩ (.slice Ae es.length ce))) := hJ ((((Wrote.refl _ _).trans (Wrote.set _ _ _ _)).trans (Wrote.set _ _ _ _)).trans (Wrote.set _ _ _ _))
    have BQ : Hid (BIs (((u3.setCell ⟨w2.heap.size, 2, none⟩ (.int .i64 b)).setCell ⟨w2.heap.size, 3, none⟩ (.int .i64 st)).setCell ⟨w2.heap.size, 5, none⟩ (.slice Ae es.length ce)) w2.heap.size #[.int .i64 12, .int .i64 a, .int .i64 b, .int .i64 st, .string ⟨#[]⟩, .slice Ae es.length ce] 110) := hJ ((((BC2.out).set 2 (.int .i64 b)).set 3 (.int .i64 st)).set 5 (.slice Ae es.length ce))
    have RP : Hid (RS w1 w1.heap.size (((u3.setCell ⟨w2.heap.size, 2, none⟩ (.int .i64 b)).setCell ⟨w2.heap.size, 3, none⟩ (.int .i64 st)).setCell ⟨w2.heap.size, 5, none⟩ (.slice Ae es.length ce)) rf) := hJ (RC2.out.wrote WF.out (by have := hp2.out; omega) (by have := hp2.out; omega))
    have XF : Hid (Ext (w.alloc (.cells #[.int .i64 0, .int .i64 0, .int .i64 0, .int .i64 0, .string ⟨#[]⟩, .slice none 0 0] 110)) (((u3.setCell ⟨w2.heap.size, 2, none⟩ (.int .i64 b)).setCell ⟨w2.heap.size, 3, none⟩ (.int .i64 st)).setCell ⟨w2.heap.size, 5, none⟩ (.slice Ae es.length ce))) := hJ (X1.out.trans (WF.out.ext XC2.out (by have := hp2.out; omega)))
    have HOQ : Hid (entE.OB (((u3.setCell ⟨w2.heap.size, 2, none⟩ (.int .i64 b)).setCell ⟨w2.heap.size, 3, none⟩ (.int .i64 st)).setCell ⟨w2.heap.size, 5, none⟩ (.slice Ae es.length ce)) w.heap.size (.slice Ae es.length ce) es) := hJ ((WF.out.ob HOB.out hoq.out).baseOB (by have := X1.out.size; have := XC1.out.size; have := hs2.out; simp at *; omega))
    have hor : Hid (∀ k, (Value.slice Ae es.length ce).ownBlock = some k → k ≠ w.heap.size) := hJ (fun k hk => by have := (HOB.out.1.lt k hk).1; have := X1.out.size; have := hp2.out; have := SC1.out; simp at *; omega)
    go_wp2; clear WF q0 q1 q2 q3 q4 q5 v0 v1 v2 v3 v4 v5; generalize (((u3.setCell ⟨w2.heap.size, 2, none⟩ (.int .i64 b)).setCell ⟨w2.heap.size, 3, none⟩ (.int .i64 st)).setCell ⟨w2.heap.size, 5, none⟩ (.slice Ae es.length ce)) = wf at *
    clear z0 z1 z2 z3 z4 z5 y0 y1 y2 y3 y4 y5; obtain ⟨Ab, cb, k0, k1, _, _, _, _, hpl⟩ := RP.out.parts
    obtain ⟨q0, q1, q2, q3, q4, q5⟩ := six BQ.out
    obtain ⟨z0, z1, z2, z3, z4, z5⟩ := six_free (BIs.ext (BIs.new w _ _) XF.out)
    obtain ⟨y0, y1, y2, y3, y4, y5⟩ := six (BIs.ext (BIs.new w _ _) XF.out)
    have hne1 : w2.heap.size ≠ w.heap.size := by have := hp2.out; have := X1.out.size; simp at this; omega
    have hne2 : w1.heap.size ≠ w.heap.size := by have := X1.out.size; simp at this; omega
    cases hff : rf.2 with
    | true =>
     rw [hff] at k1
     have HF : Hid (readF frame = none) := hJ (by rw [HRF.out, if_neg (by rw [hff]; simp)])
     refine E_begin 16 (fun w' => w'.cell? ⟨w2.heap.size, 0, none⟩ = some (.int .i64 12) ∧ w'.cell? ⟨w2.heap.size, 1, none⟩ = some (.int .i64 a) ∧ w'.cell? ⟨w2.heap.size, 2, none⟩ = some (.int .i64 b) ∧ w'.cell? ⟨w2.heap.size, 3, none⟩ = some (.int .i64 st) ∧ w'.cell? ⟨w2.heap.size, 4, none⟩ = some (.string ⟨#[]⟩) ∧ w'.cell? ⟨w2.heap.size, 5, none⟩ = some (.slice Ae es.length ce) ∧ w'.cell? ⟨w1.heap.size, 0, none⟩ = some (.slice Ab rf.1.length cb) ∧ w'.cell? ⟨w1.heap.size, 1, none⟩ = some (.bool true)) (by kernel_rfl) ⟨q0, q1, q2, q3, q4, q5, k0, k1⟩ (fun hHeld => ?_)
     refine E_t 0 72 ?_; refine E_t 1 73 ?_; refine E_t 2 74 ?_; refine E_t 3 75 ?_; refine E_t 4 76 ?_; refine E_t 5 77 ?_; refine E_t 6 78 ?_; refine E_s 7 79 ?_; refine E_s 8 80 ?_; refine E_s 9 81 ?_; refine E_s 10 82 ?_; refine E_s 11 83 ?_; refine E_s 12 84 ?_; refine E_t 13 85 ?_; refine E_ready [14] (by kernel_rfl) (by simp) ?_
     refine AllE.cons (o := ⟨none, _, _, _, _, _⟩) rfl (fun K hK => ?_) AllE.nil
     go_simp; clear hHeld; refine hK.out _ _ ⟨(six_far hne1).trans q0, (six_far hne1).trans q1, (six_far hne1).trans q2, (six_far hne1).trans q3, (six_far hne1).trans q4, (six_far hne1).trans q5, (six_far hne2).trans k0, (six_far hne2).trans k1⟩ (fun hHeld => ?_)
     clear hK K; try simp only [Act.put, aP1, aP2, aP3]
     refine E_t 15 3 ?_; refine E_end (by kernel_rfl) (by rfl) ?_
     go_wp2; have BF : Hid (BIs ((((((wf.setCell ⟨w.heap.size, 0, none⟩ (.int .i64 12)).setCell ⟨w.heap.size, 1, none⟩ (.int .i64 a)).setCell ⟨w.heap.size, 2, none⟩ (.int .i64 b)).setCell ⟨w.heap.size, 3, none⟩ (.int .i64 st)).setCell ⟨w.heap.size, 4, none⟩ (.string ⟨#[]⟩)).setCell ⟨w.heap.size, 5, none⟩ (.slice Ae es.length ce)).drew w.heap.size #[.int .i64 12, .int .i64 a, .int .i64 b, .int .i64 st, .string ⟨#[]⟩, .slice Ae es.length ce] 110) := hJ ((six_set (BIs.ext (BIs.new w _ _) XF.out)).ext Ext.drew1)
     have XFF : Hid (Ext w ((((((wf.setCell ⟨w.heap.size, 0, none⟩ (.int .i64 12)).setCell ⟨w.heap.size, 1, none⟩ (.int .i64 a)).setCell ⟨w.heap.size, 2, none⟩ (.int .i64 b)).setCell ⟨w.heap.size, 3, none⟩ (.int .i64 st)).setCell ⟨w.heap.size, 4, none⟩ (.string ⟨#[]⟩)).setCell ⟨w.heap.size, 5, none⟩ (.slice Ae es.length ce)).drew) := hJ ((six_ext (E0.out.trans XF.out)).trans Ext.drew1)
     generalize ((((((wf.setCell ⟨w.heap.size, 0, none⟩ (.int .i64 12)).setCell ⟨w.heap.size, 1, none⟩ (.int .i64 a)).setCell ⟨w.heap.size, 2, none⟩ (.int .i64 b)).setCell ⟨w.heap.size, 3, none⟩ (.int .i64 st)).setCell ⟨w.heap.size, 4, none⟩ (.string ⟨#[]⟩)).setCell ⟨w.heap.size, 5, none⟩ (.slice Ae es.length ce)).drew = W at *
     obtain ⟨g0, g1, g2, g3, g4, g5⟩ := six BF.out
     refine bodyPost_ret (v := .tuple #[.agg #[.int .i64 12, .int .i64 a, .int .i64 b, .int .i64 st, .string ⟨#[]⟩, .slice Ae es.length ce], .bool false]) (by simp [results, Tryz.results72, go_sem, g0, g1, g2, g3, g4, g5]) rfl ?_
     exact .inl ⟨_, _, _, _, _, _, _, _, rfl, HF.out, XFF.out⟩
    | false =>
     rw [hff] at k1
     by_cases hz : rf.1.length = 0
     ·have hzz : ((rf.1.length : Int) == 0) = true := by simp [hz]
      have HF : Hid (readF frame = some ⟨12, a, b, st, [], es⟩) := hJ (by rw [HRF.out, if_pos (by rw [hff]; simpa using hz)])
      clear hz; refine E_begin 16 (fun w' => w'.cell? ⟨w2.heap.size, 0, none⟩ = some (.int .i64 12) ∧ w'.cell? ⟨w2.heap.size, 1, none⟩ = some (.int .i64 a) ∧ w'.cell? ⟨w2.heap.size, 2, none⟩ = some (.int .i64 b) ∧ w'.cell? ⟨w2.heap.size, 3, none⟩ = some (.int .i64 st) ∧ w'.cell? ⟨w2.heap.size, 4, none⟩ = some (.string ⟨#[]⟩) ∧ w'.cell? ⟨w2.heap.size, 5, none⟩ = some (.slice Ae es.length ce) ∧ w'.cell? ⟨w1.heap.size, 0, none⟩ = some (.slice Ab rf.1.length cb) ∧ w'.cell? ⟨w1.heap.size, 1, none⟩ = some (.bool false)) (by kernel_rfl) ⟨q0, q1, q2, q3, q4, q5, k0, k1⟩ (fun hHeld => ?_)
      refine E_t 0 72 ?_; refine E_t 1 73 ?_; refine E_t 2 74 ?_; refine E_t 3 75 ?_; refine E_t 4 76 ?_; refine E_t 5 77 ?_; refine E_t 6 78 ?_; refine E_t 7 79 ?_; refine E_t 8 80 ?_; refine E_t 9 81 ?_; refine E_t 10 82 ?_; refine E_t 11 83 ?_; refine E_t 12 84 ?_; refine E_t 13 85 ?_; refine E_ready [14] (by kernel_rfl) (by simp) ?_
      refine AllE.cons (o := ⟨none, _, _, _, _, _⟩) rfl (fun K hK => ?_) AllE.nil
      go_simp; clear hHeld; refine hK.out _ _ ⟨(six_far hne1).trans q0, (six_far hne1).trans q1, (six_far hne1).trans q2, (six_far hne1).trans q3, (six_far hne1).trans q4, (six_far hne1).trans q5, (six_far hne2).trans k0, (six_far hne2).trans k1⟩ (fun hHeld => ?_)
      clear hK K; try simp only [Act.put, aP1, aP2, aP3]
      refine E_t 15 3 ?_; refine E_end (by kernel_rfl) (by rfl) ?_
      go_wp2; have BF : Hid (BIs ((((((wf.setCell ⟨w.heap.size, 0, none⟩ (.int .i64 12)).setCell ⟨w.heap.size, 1, none⟩ (.int .i64 a)).setCell ⟨w.heap.size, 2, none⟩ (.int .i64 b)).setCell ⟨w.heap.size, 3, none⟩ (.int .i64 st)).setCell ⟨w.heap.size, 4, none⟩ (.string ⟨#[]⟩)).setCell ⟨w.heap.size, 5, none⟩ (.slice Ae es.length ce)).drew w.heap.size #[.int .i64 12, .int .i64 a, .int .i64 b, .int .i64 st, .string ⟨#[]⟩, .slice Ae es.length ce] 110) := hJ ((six_set (BIs.ext (BIs.new w _ _) XF.out)).ext Ext.drew1)
      have XFF : Hid (Ext w ((((((wf.setCell ⟨w.heap.size, 0, none⟩ (.int .i64 12)).setCell ⟨w.heap.size, 1, none⟩ (.int .i64 a)).setCell ⟨w.heap.size, 2, none⟩ (.int .i64 b)).setCell ⟨w.heap.size, 3, none⟩ (.int .i64 st)).setCell ⟨w.heap.size, 4, none⟩ (.string ⟨#[]⟩)).setCell ⟨w.heap.size, 5, none⟩ (.slice Ae es.length ce)).drew) := hJ ((six_ext (E0.out.trans XF.out)).trans Ext.drew1)
      have HOF : Hid (entE.OB ((((((wf.setCell ⟨w.heap.size, 0, none⟩ (.int .i64 12)).setCell ⟨w.heap.size, 1, none⟩ (.int .i64 a)).setCell ⟨w.heap.size, 2, none⟩ (.int .i64 b)).setCell ⟨w.heap.size, 3, none⟩ (.int .i64 st)).setCell ⟨w.heap.size, 4, none⟩ (.string ⟨#[]⟩)).setCell ⟨w.heap.size, 5, none⟩ (.slice Ae es.length ce)).drew w.heap.size (.slice Ae es.length ce) es) := hJ ((six_ob HOQ.out hor.out).ext Ext.drew1)
      generalize ((((((wf.setCell ⟨w.heap.size, 0, none⟩ (.int .i64 12)).setCell ⟨w.heap.size, 1, none⟩ (.int .i64 a)).setCell ⟨w.heap.size, 2, none⟩ (.int .i64 b)).setCell ⟨w.heap.size, 3, none⟩ (.int .i64 st)).setCell ⟨w.heap.size, 4, none⟩ (.string ⟨#[]⟩)).setCell ⟨w.heap.size, 5, none⟩ (.slice Ae es.length ce)).drew = W at *
      obtain ⟨g0, g1, g2, g3, g4, g5⟩ := six BF.out
      refine bodyPost_ret (v := .tuple #[.agg #[.int .i64 12, .int .i64 a, .int .i64 b, .int .i64 st, .string ⟨#[]⟩, .slice Ae es.length ce], .bool true]) (by simp [results, Tryz.results72, go_sem, g0, g1, g2, g3, g4, g5]) rfl ?_
      exact .inr ⟨⟨12, a, b, st, [], es⟩, Ae, ce, rfl, HF.out, he1, he2, HOF.out, XFF.out⟩
     ·have hzz : ((rf.1.length : Int) == 0) = false := by simp; exact fun e => hz (by simp [e])
      have HF : Hid (readF frame = none) := hJ (by rw [HRF.out, if_neg (by rw [hff]; simpa using hz)])
      clear hz; refine E_begin 16 (fun w' => w'.cell? ⟨w2.heap.size, 0, none⟩ = some (.int .i64 12) ∧ w'.cell? ⟨w2.heap.size, 1, none⟩ = some (.int .i64 a) ∧ w'.cell? ⟨w2.heap.size, 2, none⟩ = some (.int .i64 b) ∧ w'.cell? ⟨w2.heap.size, 3, none⟩ = some (.int .i64 st) ∧ w'.cell? ⟨w2.heap.size, 4, none⟩ = some (.string ⟨#[]⟩) ∧ w'.cell? ⟨w2.heap.size, 5, none⟩ = some (.slice Ae es.length ce) ∧ w'.cell? ⟨w1.heap.size, 0, none⟩ = some (.slice Ab rf.1.length cb) ∧ w'.cell? ⟨w1.heap.size, 1, none⟩ = some (.bool false)) (by kernel_rfl) ⟨q0, q1, q2, q3, q4, q5, k0, k1⟩ (fun hHeld => ?_)
      refine E_t 0 72 ?_; refine E_t 1 73 ?_; refine E_t 2 74 ?_; refine E_t 3 75 ?_; refine E_t 4 76 ?_; refine E_t 5 77 ?_; refine E_t 6 78 ?_; refine E_t 7 79 ?_; refine E_t 8 80 ?_; refine E_t 9 81 ?_; refine E_t 10 82 ?_; refine E_t 11 83 ?_; refine E_t 12 84 ?_; refine E_t 13 85 ?_; refine E_ready [14] (by kernel_rfl) (by simp) ?_
      refine AllE.cons (o := ⟨none, _, _, _, _, _⟩) rfl (fun K hK => ?_) AllE.nil
      go_simp; clear hHeld; refine hK.out _ _ ⟨(six_far hne1).trans q0, (six_far hne1).trans q1, (six_far hne1).trans q2, (six_far hne1).trans q3, (six_far hne1).trans q4, (six_far hne1).trans q5, (six_far hne2).trans k0, (six_far hne2).trans k1⟩ (fun hHeld => ?_)
      clear hK K; try simp only [Act.put, aP1, aP2, aP3]
      refine E_t 15 3 ?_; refine E_end (by kernel_rfl) (by rfl) ?_
      go_wp2; have BF : Hid (BIs ((((((wf.setCell ⟨w.heap.size, 0, none⟩ (.int .i64 12)).setCell ⟨w.heap.size, 1, none⟩ (.int .i64 a)).setCell ⟨w.heap.size, 2, none⟩ (.int .i64 b)).setCell ⟨w.heap.size, 3, none⟩ (.int .i64 st)).setCell ⟨w.heap.size, 4, none⟩ (.string ⟨#[]⟩)).setCell ⟨w.heap.size, 5, none⟩ (.slice Ae es.length ce)).drew w.heap.size #[.int .i64 12, .int .i64 a, .int .i64 b, .int .i64 st, .string ⟨#[]⟩, .slice Ae es.length ce] 110) := hJ ((six_set (BIs.ext (BIs.new w _ _) XF.out)).ext Ext.drew1)
      have XFF : Hid (Ext w ((((((wf.setCell ⟨w.heap.size, 0, none⟩ (.int .i64 12)).setCell ⟨w.heap.size, 1, none⟩ (.int .i64 a)).setCell ⟨w.heap.size, 2, none⟩ (.int .i64 b)).setCell ⟨w.heap.size, 3, none⟩ (.int .i64 st)).setCell ⟨w.heap.size, 4, none⟩ (.string ⟨#[]⟩)).setCell ⟨w.heap.size, 5, none⟩ (.slice Ae es.length ce)).drew) := hJ ((six_ext (E0.out.trans XF.out)).trans Ext.drew1)
      generalize ((((((wf.setCell ⟨w.heap.size, 0, none⟩ (.int .i64 12)).setCell ⟨w.heap.size, 1, none⟩ (.int .i64 a)).setCell ⟨w.heap.size, 2, none⟩ (.int .i64 b)).setCell ⟨w.heap.size, 3, none⟩ (.int .i64 st)).setCell ⟨w.heap.size, 4, none⟩ (.string ⟨#[]⟩)).setCell ⟨w.heap.size, 5, none⟩ (.slice Ae es.length ce)).drew = W at *
      obtain ⟨g0, g1, g2, g3, g4, g5⟩ := six BF.out
      refine bodyPost_ret (v := .tuple #[.agg #[.int .i64 12, .int .i64 a, .int .i64 b, .int .i64 st, .string ⟨#[]⟩, .slice Ae es.length ce], .bool false]) (by simp [results, Tryz.results72, go_sem, g0, g1, g2, g3, g4, g5]) rfl ?_
      exact .inl ⟨_, _, _, _, _, _, _, _, rfl, HF.out, XFF.out⟩
   ·have hkk12 : (kind == 12) = false := by simpa using hk12
    by_cases hk13 : kind = 13
    ·subst hk13
     obtain ⟨⟨a, r1⟩, ha⟩ : ∃ d, numR (body, false) = d := ⟨_, rfl⟩
     have HA := hJ ha
     obtain ⟨⟨b, rf⟩, hc0⟩ : ∃ d, numR r1 = d := ⟨_, rfl⟩
     have HC0 := hJ hc0
     have HRF : Hid (readF frame = if rf.2 = false ∧ rf.1.length = 0 then some ⟨13, a, b, 0, [], []⟩ else none) := hJ (by unfold readF; rw [HOP.out]; simp only; rw [if_neg hbad]; unfold bodyR; simp only [ha, hc0, if_true, if_false, Int.reduceEq])
     clear hbad ha hc0; go_enter Tryz.func72, Tryz.ntmps72
     go_wp2_with fail
     refine (wopen_any A c frame _ H0.out hc hl).mono ?_
     rintro en w1 ⟨A1, c1, rfl, h11, h12, ho1, hx1⟩
     have X1 := hJ hx1
     obtain ⟨z0, z1, z2, z3, z4, z5⟩ := six_free (BIs.ext (BIs.new w _ _) hx1)
     obtain ⟨y0, y1, y2, y3, y4, y5⟩ := six (BIs.ext (BIs.new w _ _) hx1)
     rw [HOP.out] at ho1 h11 ⊢
     simp only at ho1 h11
     have HB1 := hJ ho1.row
     clear ho1 hx1; have RS0 : Hid (RS w1 w1.heap.size (w1.alloc (.cells #[.slice A1 body.length c1, .bool false] 175)) (body, false)) := hJ ⟨Nat.le_refl _, Ext.new _ _, hbl.out, A1, c1, BIs.new _ _ _, HB1.out, h11⟩
     go_wp2_with fail
     refine (rnumber_any w1 w1.heap.size (body, false) _ RS0.out).mono ?_
     rintro en w2 ⟨rfl, hr2, hw2⟩
     rw [HA.out] at hr2 ⊢
     simp only at hr2
     have X12 : Hid (Ext w1 w2) := hJ ((hw2.ext (Ext.new w1 _)) (Nat.le_refl _))
     have hp2 : Hid (w1.heap.size < w2.heap.size) := hJ hr2.parts.choose_spec.choose_spec.2.2.2.2.2.2
     have R2 : Hid (RS w1 w1.heap.size (w2.alloc (.cells #[.int .i64 13, .int .i64 a, .int .i64 0, .int .i64 0, .string ⟨#[]⟩, .slice none 0 0] 110)) r1) := hJ (hr2.ext (Ext.new _ _))
     have B2 : Hid (BIs (w2.alloc (.cells #[.int .i64 13, .int .i64 a, .int .i64 0, .int .i64 0, .string ⟨#[]⟩, .slice none 0 0] 110)) w2.heap.size #[.int .i64 13, .int .i64 a, .int .i64 0, .int .i64 0, .string ⟨#[]⟩, .slice none 0 0] 110) := hJ (BIs.new _ _ _)
     have X2 : Hid (Ext w1 (w2.alloc (.cells #[.int .i64 13, .int .i64 a, .int .i64 0, .int .i64 0, .string ⟨#[]⟩, .slice none 0 0] 110))) := hJ (X12.out.trans (Ext.new _ _))
     have hs2 : Hid (w2.heap.size + 1 = (w2.alloc (.cells #[.int .i64 13, .int .i64 a, .int .i64 0, .int .i64 0, .string ⟨#[]⟩, .slice none 0 0] 110)).heap.size) := hJ (by simp)
     clear hr2 hw2; go_wp2_with fail
     generalize hW2 : w2.alloc (.cells #[.int .i64 13, .int .i64 a, .int .i64 0, .int .i64 0, .string ⟨#[]⟩, .slice none 0 0] 110) = u0 at *
     clear hW2; refine (rnumber_any w1 w1.heap.size r1 u0 R2.out).mono ?_
     rintro en u1 ⟨rfl, hr2, hw2⟩
     rw [HC0.out] at hr2 ⊢
     simp only at hr2
     have RC0 := hJ hr2
     have BC0 := hJ (hw2.bis B2.out (by have := hp2.out; omega))
     have XC0 : Hid (Ext w1 u1) := hJ (hw2.ext X2.out (Nat.le_refl _))
     have SC0 : Hid (w2.heap.size < u1.heap.size) := hJ BC0.out.lt
     clear hr2 hw2; obtain ⟨q0, q1, q2, q3, q4, q5⟩ := six BC0.out
     obtain ⟨v0, v1, v2, v3, v4, v5⟩ := six_free BC0.out
     have WF : Hid (Wrote w2.heap.size u1 (u1.setCell ⟨w2.heap.size, 2, none⟩ (.int .i64 b))) := hJ ((Wrote.refl _ _).trans (Wrote.set _ _ _ _))
     have BQ : Hid (BIs (u1.setCell ⟨w2.heap.size, 2, none⟩ (.int .i64 b)) w2.heap.size #[.int .i64 13, .int .i64 a, .int .i64 b, .int .i64 0, .string ⟨#[]⟩, .slice none 0 0] 110) := hJ ((BC0.out).set 2 (.int .i64 b))
     have RP : Hid (RS w1 w1.heap.size (u1.setCell ⟨w2.heap.size, 2, none⟩ (.int .i64 b)) rf) := hJ (RC0.out.wrote WF.out (by have := hp2.out; omega) (by have := hp2.out; omega))
     have XF : Hid (Ext (w.alloc (.cells #[.int .i64 0, .int .i64 0, .int .i64 0, .int .i64 0, .string ⟨#[]⟩, .slice none 0 0] 110)) (u1.setCell ⟨w2.heap.size, 2, none⟩ (.int .i64 b))) := hJ (X1.out.trans (WF.out.ext XC0.out (by have := hp2.out; omega)))
     go_wp2; clear WF q0 q1 q2 q3 q4 q5 v0 v1 v2 v3 v4 v5; generalize (u1.setCell ⟨w2.heap.size, 2, none⟩ (.int .i64 b)) = wf at *
     clear z0 z1 z2 z3 z4 z5 y0 y1 y2 y3 y4 y5; obtain ⟨Ab, cb, k0, k1, _, _, _, _, hpl⟩ := RP.out.parts
     obtain ⟨q0, q1, q2, q3, q4, q5⟩ := six BQ.out
     obtain ⟨z0, z1, z2, z3, z4, z5⟩ := six_free (BIs.ext (BIs.new w _ _) XF.out)
     obtain ⟨y0, y1, y2, y3, y4, y5⟩ := six (BIs.ext (BIs.new w _ _) XF.out)
     have hne1 : w2.heap.size ≠ w.heap.size := by have := hp2.out; have := X1.out.size; simp at this; omega
     have hne2 : w1.heap.size ≠ w.heap.size := by have := X1.out.size; simp at this; omega
     cases hff : rf.2 with
     | true =>
      rw [hff] at k1
      have HF : Hid (readF frame = none) := hJ (by rw [HRF.out, if_neg (by rw [hff]; simp)])
      refine E_begin 16 (fun w' => w'.cell? ⟨w2.heap.size, 0, none⟩ = some (.int .i64 13) ∧ w'.cell? ⟨w2.heap.size, 1, none⟩ = some (.int .i64 a) ∧ w'.cell? ⟨w2.heap.size, 2, none⟩ = some (.int .i64 b) ∧ w'.cell? ⟨w2.heap.size, 3, none⟩ = some (.int .i64 0) ∧ w'.cell? ⟨w2.heap.size, 4, none⟩ = some (.string ⟨#[]⟩) ∧ w'.cell? ⟨w2.heap.size, 5, none⟩ = some (.slice none 0 0) ∧ w'.cell? ⟨w1.heap.size, 0, none⟩ = some (.slice Ab rf.1.length cb) ∧ w'.cell? ⟨w1.heap.size, 1, none⟩ = some (.bool true)) (by kernel_rfl) ⟨q0, q1, q2, q3, q4, q5, k0, k1⟩ (fun hHeld => ?_)
      refine E_t 0 72 ?_; refine E_t 1 73 ?_; refine E_t 2 74 ?_; refine E_t 3 75 ?_; refine E_t 4 76 ?_; refine E_t 5 77 ?_; refine E_t 6 78 ?_; refine E_s 7 79 ?_; refine E_s 8 80 ?_; refine E_s 9 81 ?_; refine E_s 10 82 ?_; refine E_s 11 83 ?_; refine E_s 12 84 ?_; refine E_t 13 85 ?_; refine E_ready [14] (by kernel_rfl) (by simp) ?_
      refine AllE.cons (o := ⟨none, _, _, _, _, _⟩) rfl (fun K hK => ?_) AllE.nil
      go_simp; clear hHeld; refine hK.out _ _ ⟨(six_far hne1).trans q0, (six_far hne1).trans q1, (six_far hne1).trans q2, (six_far hne1).trans q3, (six_far hne1).trans q4, (six_far hne1).trans q5, (six_far hne2).trans k0, (six_far hne2).trans k1⟩ (fun hHeld => ?_)
      clear hK K; try simp only [Act.put, aP1, aP2, aP3]
      refine E_t 15 3 ?_; refine E_end (by kernel_rfl) (by rfl) ?_
      go_wp2; have BF : Hid (BIs ((((((wf.setCell ⟨w.heap.size, 0, none⟩ (.int .i64 13)).setCell ⟨w.heap.size, 1, none⟩ (.int .i64 a)).setCell ⟨w.heap.size, 2, none⟩ (.int .i64 b)).setCell ⟨w.heap.size, 3, none⟩ (.int .i64 0)).setCell ⟨w.heap.size, 4, none⟩ (.string ⟨#[]⟩)).setCell ⟨w.heap.size, 5, none⟩ (.slice none 0 0)).drew w.heap.size #[.int .i64 13, .int .i64 a, .int .i64 b, .int .i64 0, .string ⟨#[]⟩, .slice none 0 0] 110) := hJ ((six_set (BIs.ext (BIs.new w _ _) XF.out)).ext Ext.drew1)
      have XFF : Hid (Ext w ((((((wf.setCell ⟨w.heap.size, 0, none⟩ (.int .i64 13)).setCell ⟨w.heap.size, 1, none⟩ (.int .i64 a)).setCell ⟨w.heap.size, 2, none⟩ (.int .i64 b)).setCell ⟨w.heap.size, 3, none⟩ (.int .i64 0)).setCell ⟨w.heap.size, 4, none⟩ (.string ⟨#[]⟩)).setCell ⟨w.heap.size, 5, none⟩ (.slice none 0 0)).drew) := hJ ((six_ext (E0.out.trans XF.out)).trans Ext.drew1)
      generalize ((((((wf.setCell ⟨w.heap.size, 0, none⟩ (.int .i64 13)).setCell ⟨w.heap.size, 1, none⟩ (.int .i64 a)).setCell ⟨w.heap.size, 2, none⟩ (.int .i64 b)).setCell ⟨w.heap.size, 3, none⟩ (.int .i64 0)).setCell ⟨w.heap.size, 4, none⟩ (.string ⟨#[]⟩)).setCell ⟨w.heap.size, 5, none⟩ (.slice none 0 0)).drew = W at *
      obtain ⟨g0, g1, g2, g3, g4, g5⟩ := six BF.out
      refine bodyPost_ret (v := .tuple #[.agg #[.int .i64 13, .int .i64 a, .int .i64 b, .int .i64 0, .string ⟨#[]⟩, .slice none 0 0], .bool false]) (by simp [results, Tryz.results72, go_sem, g0, g1, g2, g3, g4, g5]) rfl ?_
      exact .inl ⟨_, _, _, _, _, _, _, _, rfl, HF.out, XFF.out⟩
     | false =>
      rw [hff] at k1
      by_cases hz : rf.1.length = 0
      ·have hzz : ((rf.1.length : Int) == 0) = true := by simp [hz]
       have HF : Hid (readF frame = some ⟨13, a, b, 0, [], []⟩) := hJ (by rw [HRF.out, if_pos (by rw [hff]; simpa using hz)])
       clear hz; refine E_begin 16 (fun w' => w'.cell? ⟨w2.heap.size, 0, none⟩ = some (.int .i64 13) ∧ w'.cell? ⟨w2.heap.size, 1, none⟩ = some (.int .i64 a) ∧ w'.cell? ⟨w2.heap.size, 2, none⟩ = some (.int .i64 b) ∧ w'.cell? ⟨w2.heap.size, 3, none⟩ = some (.int .i64 0) ∧ w'.cell? ⟨w2.heap.size, 4, none⟩ = some (.string ⟨#[]⟩) ∧ w'.cell? ⟨w2.heap.size, 5, none⟩ = some (.slice none 0 0) ∧ w'.cell? ⟨w1.heap.size, 0, none⟩ = some (.slice Ab rf.1.length cb) ∧ w'.cell? ⟨w1.heap.size, 1, none⟩ = some (.bool false)) (by kernel_rfl) ⟨q0, q1, q2, q3, q4, q5, k0, k1⟩ (fun hHeld => ?_)
       refine E_t 0 72 ?_; refine E_t 1 73 ?_; refine E_t 2 74 ?_; refine E_t 3 75 ?_; refine E_t 4 76 ?_; refine E_t 5 77 ?_; refine E_t 6 78 ?_; refine E_t 7 79 ?_; refine E_t 8 80 ?_; refine E_t 9 81 ?_; refine E_t 10 82 ?_; refine E_t 11 83 ?_; refine E_t 12 84 ?_; refine E_t 13 85 ?_; refine E_ready [14] (by kernel_rfl) (by simp) ?_
       refine AllE.cons (o := ⟨none, _, _, _, _, _⟩) rfl (fun K hK => ?_) AllE.nil
       go_simp; clear hHeld; refine hK.out _ _ ⟨(six_far hne1).trans q0, (six_far hne1).trans q1, (six_far hne1).trans q2, (six_far hne1).trans q3, (six_far hne1).trans q4, (six_far hne1).trans q5, (six_far hne2).trans k0, (six_far hne2).trans k1⟩ (fun hHeld => ?_)
       clear hK K; try simp only [Act.put, aP1, aP2, aP3]
       refine E_t 15 3 ?_; refine E_end (by kernel_rfl) (by rfl) ?_
       go_wp2; have BF : Hid (BIs ((((((wf.setCell ⟨w.heap.size, 0, none⟩ (.int .i64 13)).setCell ⟨w.heap.size, 1, none⟩ (.int .i64 a)).setCell ⟨w.heap.size, 2, none⟩ (.int .i64 b)).setCell ⟨w.heap.size, 3, none⟩ (.int .i64 0)).setCell ⟨w.heap.size, 4, none⟩ (.string ⟨#[]⟩)).setCell ⟨w.heap.size, 5, none⟩ (.slice none 0 0)).drew w.heap.size #[.int .i64 13, .int .i64 a, .int .i64 b, .int .i64 0, .string ⟨#[]⟩, .slice none 0 0] 110) := hJ ((six_set (BIs.ext (BIs.new w _ _) XF.out)).ext Ext.drew1)
       have XFF : Hid (Ext w ((((((wf.setCell ⟨w.heap.size, 0, none⟩ (.int .i64 13)).setCell ⟨w.heap.size, 1, none⟩ (.int .i64 a)).setCell ⟨w.heap.size, 2, none⟩ (.int .i64 b)).setCell ⟨w.heap.size, 3, none⟩ (.int .i64 0)).setCell ⟨w.heap.size, 4, none⟩ (.string ⟨#[]⟩)).setCell ⟨w.heap.size, 5, none⟩ (.slice none 0 0)).drew) := hJ ((six_ext (E0.out.trans XF.out)).trans Ext.drew1)
       generalize ((((((wf.setCell ⟨w.heap.size, 0, none⟩ (.int .i64 13)).setCell ⟨w.heap.size, 1, none⟩ (.int .i64 a)).setCell ⟨w.heap.size, 2, none⟩ (.int .i64 b)).setCell ⟨w.heap.size, 3, none⟩ (.int .i64 0)).setCell ⟨w.heap.size, 4, none⟩ (.string ⟨#[]⟩)).setCell ⟨w.heap.size, 5, none⟩ (.slice none 0 0)).drew = W at *
       obtain ⟨g0, g1, g2, g3, g4, g5⟩ := six BF.out
       refine bodyPost_ret (v := .tuple #[.agg #[.int .i64 13, .int .i64 a, .int .i64 b, .int .i64 0, .string ⟨#[]⟩, .slice none 0 0], .bool true]) (by simp [results, Tryz.results72, go_sem, g0, g1, g2, g3, g4, g5]) rfl ?_
       exact .inr ⟨⟨13, a, b, 0, [], []⟩, none, 0, rfl, HF.out, Nat.le_refl _, Nat.zero_le _, Elem.OB.nil _ _, XFF.out⟩
      ·have hzz : ((rf.1.length : Int) == 0) = false := by simp; exact fun e => hz (by simp [e])
       have HF : Hid (readF frame = none) := hJ (by rw [HRF.out, if_neg (by rw [hff]; simpa using hz)])
       clear hz; refine E_begin 16 (fun w' => w'.cell? ⟨w2.heap.size, 0, none⟩ = some (.int .i64 13) ∧ w'.cell? ⟨w2.heap.size, 1, none⟩ = some (.int .i64 a) ∧ w'.cell? ⟨w2.heap.size, 2, none⟩ = some (.int .i64 b) ∧ w'.cell? ⟨w2.heap.size, 3, none⟩ = some (.int .i64 0) ∧ w'.cell? ⟨w2.heap.size, 4, none⟩ = some (.string ⟨#[]⟩) ∧ w'.cell? ⟨w2.heap.size, 5, none⟩ = some (.slice none 0 0) ∧ w'.cell? ⟨w1.heap.size, 0, none⟩ = some (.slice Ab rf.1.length cb) ∧ w'.cell? ⟨w1.heap.size, 1, none⟩ = some (.bool false)) (by kernel_rfl) ⟨q0, q1, q2, q3, q4, q5, k0, k1⟩ (fun hHeld => ?_)
       refine E_t 0 72 ?_; refine E_t 1 73 ?_; refine E_t 2 74 ?_; refine E_t 3 75 ?_; refine E_t 4 76 ?_; refine E_t 5 77 ?_; refine E_t 6 78 ?_; refine E_t 7 79 ?_; refine E_t 8 80 ?_; refine E_t 9 81 ?_; refine E_t 10 82 ?_; refine E_t 11 83 ?_; refine E_t 12 84 ?_; refine E_t 13 85 ?_; refine E_ready [14] (by kernel_rfl) (by simp) ?_
       refine AllE.cons (o := ⟨none, _, _, _, _, _⟩) rfl (fun K hK => ?_) AllE.nil
       go_simp; clear hHeld; refine hK.out _ _ ⟨(six_far hne1).trans q0, (six_far hne1).trans q1, (six_far hne1).trans q2, (six_far hne1).trans q3, (six_far hne1).trans q4, (six_far hne1).trans q5, (six_far hne2).trans k0, (six_far hne2).trans k1⟩ (fun hHeld => ?_)
       clear hK K; try simp only [Act.put, aP1, aP2, aP3]
       refine E_t 15 3 ?_; refine E_end (by kernel_rfl) (by rfl) ?_
       go_wp2; have BF : Hid (BIs ((((((wf.setCell ⟨w.heap.size, 0, none⟩ (.int .i64 13)).setCell ⟨w.heap.size, 1, none⟩ (.int .i64 a)).setCell ⟨w.heap.size, 2, none⟩ (.int .i64 b)).setCell ⟨w.heap.size, 3, none⟩ (.int .i64 0)).setCell ⟨w.heap.size, 4, none⟩ (.string ⟨#[]⟩)).setCell ⟨w.heap.size, 5, none⟩ (.slice none 0 0)).drew w.heap.size #[.int .i64 13, .int .i64 a, .int .i64 b, .int .i64 0, .string ⟨#[]⟩, .slice none 0 0] 110) := hJ ((six_set (BIs.ext (BIs.new w _ _) XF.out)).ext Ext.drew1)
       have XFF : Hid (Ext w ((((((wf.setCell ⟨w.heap.size, 0, none⟩ (.int .i64 13)).setCell ⟨w.heap.size, 1, none⟩ (.int .i64 a)).setCell ⟨w.heap.size, 2, none⟩ (.int .i64 b)).setCell ⟨w.heap.size, 3, none⟩ (.int .i64 0)).setCell ⟨w.heap.size, 4, none⟩ (.string ⟨#[]⟩)).setCell ⟨w.heap.size, 5, none⟩ (.slice none 0 0)).drew) := hJ ((six_ext (E0.out.trans XF.out)).trans Ext.drew1)
       generalize ((((((wf.setCell ⟨w.heap.size, 0, none⟩ (.int .i64 13)).setCell ⟨w.heap.size, 1, none⟩ (.int .i64 a)).setCell ⟨w.heap.size, 2, none⟩ (.int .i64 b)).setCell ⟨w.heap.size, 3, none⟩ (.int .i64 0)).setCell ⟨w.heap.size, 4, none⟩ (.string ⟨#[]⟩)).setCell ⟨w.heap.size, 5, none⟩ (.slice none 0 0)).drew = W at *
       obtain ⟨g0, g1, g2, g3, g4, g5⟩ := six BF.out
       refine bodyPost_ret (v := .tuple #[.agg #[.int .i64 13, .int .i64 a, .int .i64 b, .int .i64 0, .string ⟨#[]⟩, .slice none 0 0], .bool false]) (by simp [results, Tryz.results72, go_sem, g0, g1, g2, g3, g4, g5]) rfl ?_
       exact .inl ⟨_, _, _, _, _, _, _, _, rfl, HF.out, XFF.out⟩
    ·have hkk13 : (kind == 13) = false := by simpa using hk13
     by_cases hk14 : kind = 14
     ·subst hk14
      obtain ⟨⟨a, r1⟩, ha⟩ : ∃ d, numR (body, false) = d := ⟨_, rfl⟩
      have HA := hJ ha
      obtain ⟨⟨b, r2⟩, hc0⟩ : ∃ d, baseR r1 = d := ⟨_, rfl⟩
      have HC0 := hJ hc0
      obtain ⟨⟨es, rf⟩, hc1⟩ : ∃ d, entsR r2 = d := ⟨_, rfl⟩
      have HC1 := hJ hc1
      have HRF : Hid (readF frame = if rf.2 = false ∧ rf.1.length = 0 then some ⟨14, a, b, 0, [], es⟩ else none) := hJ (by unfold readF; rw [HOP.out]; simp only; rw [if_neg hbad]; unfold bodyR; simp only [ha, hc0, hc1, if_true, if_false, Int.reduceEq])
      clear hbad ha hc0 hc1; go_enter Tryz.func72, Tryz.ntmps72
      go_wp2_with fail
      refine (wopen_any A c frame _ H0.out hc hl).mono ?_
      rintro en w1 ⟨A1, c1, rfl, h11, h12, ho1, hx1⟩
      have X1 := hJ hx1
      obtain ⟨z0, z1, z2, z3, z4, z5⟩ := six_free (BIs.ext (BIs.new w _ _) hx1)
      obtain ⟨y0, y1, y2, y3, y4, y5⟩ := six (BIs.ext (BIs.new w _ _) hx1)
      rw [HOP.out] at ho1 h11 ⊢
      simp only at ho1 h11
      have HB1 := hJ ho1.row
      clear ho1 hx1; have RS0 : Hid (RS w1 w1.heap.size (w1.alloc (.cells #[.slice A1 body.length c1, .bool false] 175)) (body, false)) := hJ ⟨Nat.le_refl _, Ext.new _ _, hbl.out, A1, c1, BIs.new _ _ _, HB1.out, h11⟩
      go_wp2_with fail
      refine (rnumber_any w1 w1.heap.size (body, false) _ RS0.out).mono ?_
      rintro en w2 ⟨rfl, hr2, hw2⟩
      rw [HA.out] at hr2 ⊢
      simp only at hr2
      have X12 : Hid (Ext w1 w2) := hJ ((hw2.ext (Ext.new w1 _)) (Nat.le_refl _))
      have hp2 : Hid (w1.heap.size < w2.heap.size) := hJ hr2.parts.choose_spec.choose_spec.2.2.2.2.2.2
      have R2 : Hid (RS w1 w1.heap.size (w2.alloc (.cells #[.int .i64 14, .int .i64 a, .int .i64 0, .int .i64 0, .string ⟨#[]⟩, .slice none 0 0] 110)) r1) := hJ (hr2.ext (Ext.new _ _))
      have B2 : Hid (BIs (w2.alloc (.cells #[.int .i64 14, .int .i64 a, .int .i64 0, .int .i64 0, .string ⟨#[]⟩, .slice none 0 0] 110)) w2.heap.size #[.int .i64 14, .int .i64 a, .int .i64 0, .int .i64 0, .string ⟨#[]⟩, .slice none 0 0] 110) := hJ (BIs.new _ _ _)
      have X2 : Hid (Ext w1 (w2.alloc (.cells #[.int .i64 14, .int .i64 a, .int .i64 0, .int .i64 0, .string ⟨#[]⟩, .slice none 0 0] 110))) := hJ (X12.out.trans (Ext.new _ _))
      have hs2 : Hid (w2.heap.size + 1 = (w2.alloc (.cells #[.int .i64 14, .int .i64 a, .int .i64 0, .int .i64 0, .string ⟨#[]⟩, .slice none 0 0] 110)).heap.size) := hJ (by simp)
      clear hr2 hw2; go_wp2_with fail
      generalize hW2 : w2.alloc (.cells #[.int .i64 14, .int .i64 a, .int .i64 0, .int .i64 0, .string ⟨#[]⟩, .slice none 0 0] 110) = u0 at *
      clear hW2; refine (rbase_any w1 w1.heap.size r1 u0 R2.out).mono ?_
      rintro en u1 ⟨rfl, hr2, hw2⟩
      rw [HC0.out] at hr2 ⊢
      simp only at hr2
      have RC0 := hJ hr2
      have BC0 := hJ (hw2.bis B2.out (by have := hp2.out; omega))
      have XC0 : Hid (Ext w1 u1) := hJ (hw2.ext X2.out (Nat.le_refl _))
      have SC0 : Hid (w2.heap.size < u1.heap.size) := hJ BC0.out.lt
      clear hr2 hw2; go_wp2_with fail
      refine (rentries_any w1 w1.heap.size r2 u1 RC0.out).mono ?_
      rintro en u2 ⟨Ae, ce, rfl, he1, he2, hob, hr2, hw2⟩
      rw [HC1.out] at he1 hob hr2 ⊢
      simp only at he1 hob hr2
      have HOB := hJ hob
      clear hob; have RC1 := hJ hr2
      have BC1 := hJ (hw2.bis BC0.out (by have := hp2.out; omega))
      have XC1 : Hid (Ext w1 u2) := hJ (hw2.ext XC0.out (Nat.le_refl _))
      have SC1 : Hid (w2.heap.size < u2.heap.size) := hJ BC1.out.lt
      have hoq : Hid (∀ k, (Value.slice Ae es.length ce).ownBlock = some k → k ≠ w2.heap.size) := hJ (fun k hk => by have := (HOB.out.1.lt k hk).1; have := SC0.out; omega)
      clear hr2 hw2; obtain ⟨q0, q1, q2, q3, q4, q5⟩ := six BC1.out
      obtain ⟨v0, v1, v2, v3, v4, v5⟩ := six_free BC1.out
      have WF : Hid (Wrote w2.heap.size u2 ((u2.setCell ⟨w2.heap.size, 2, none⟩ (.int .i64 b)).setCell ⟨w2.heap.size, 5, none⟩ (.slice Ae es.length ce))) := hJ (((Wrote.refl _ _).trans (Wrote.set _ _ _ _)).trans (Wrote.set _ _ _ _))
      have BQ : Hid (BIs ((u2.setCell ⟨w2.heap.size, 2, none⟩ (.int .i64 b)).setCell ⟨w2.heap.size, 5, none⟩ (.slice Ae es.length ce)) w2.heap.size #[.int .i64 14, .int .i64 a, .int .i64 b, .int .i64 0, .string ⟨#[]⟩, .slice Ae es.length ce] 110) := hJ (((BC1.out).set 2 (.int .i64 b)).set 5 (.slice Ae es.length ce))
      have RP : Hid (RS w1 w1.heap.size ((u2.setCell ⟨w2.heap.size, 2, none⟩ (.int .i64 b)).setCell ⟨w2.heap.size, 5, none⟩ (.slice Ae es.length ce)) rf) := hJ (RC1.out.wrote WF.out (by have := hp2.out; omega) (by have := hp2.out; omega))
      have XF : Hid (Ext (w.alloc (.cells #[.int .i64 0, .int .i64 0, .int .i64 0, .int .i64 0, .string ⟨#[]⟩, .slice none 0 0] 110)) ((u2.setCell ⟨w2.heap.size, 2, none⟩ (.int .i64 b)).setCell ⟨w2.heap.size, 5, none⟩ (.slice Ae es.length ce))) := hJ (X1.out.trans (WF.out.ext XC1.out (by have := hp2.out; omega)))
      have HOQ : Hid (entE.OB ((u2.setCell ⟨w2.heap.size, 2, none⟩ (.int .i64 b)).setCell ⟨w2.heap.size, 5, none⟩ (.slice Ae es.length ce)) w.heap.size (.slice Ae es.length ce) es) := hJ ((WF.out.ob HOB.out hoq.out).baseOB (by have := X1.out.size; have := XC0.out.size; have := hs2.out; simp at *; omega))
      have hor : Hid (∀ k, (Value.slice Ae es.length ce).ownBlock = some k → k ≠ w.heap.size) := hJ (fun k hk => by have := (HOB.out.1.lt k hk).1; have := X1.out.size; have := hp2.out; have := SC0.out; simp at *; omega)
      go_wp2; clear WF q0 q1 q2 q3 q4 q5 v0 v1 v2 v3 v4 v5; generalize ((u2.setCell ⟨w2.heap.size, 2, none⟩ (.int .i64 b)).setCell ⟨w2.heap.size, 5, none⟩ (.slice Ae es.length ce)) = wf at *
      clear z0 z1 z2 z3 z4 z5 y0 y1 y2 y3 y4 y5; obtain ⟨Ab, cb, k0, k1, _, _, _, _, hpl⟩ := RP.out.parts
      obtain ⟨q0, q1, q2, q3, q4, q5⟩ := six BQ.out
      obtain ⟨z0, z1, z2, z3, z4, z5⟩ := six_free (BIs.ext (BIs.new w _ _) XF.out)
      obtain ⟨y0, y1, y2, y3, y4, y5⟩ := six (BIs.ext (BIs.new w _ _) XF.out)
      have hne1 : w2.heap.size ≠ w.heap.size := by have := hp2.out; have := X1.out.size; simp at this; omega
      have hne2 : w1.heap.size ≠ w.heap.size := by have := X1.out.size; simp at this; omega
      cases hff : rf.2 with
      | true =>
       rw [hff] at k1
       have HF : Hid (readF frame = none) := hJ (by rw [HRF.out, if_neg (by rw [hff]; simp)])
       refine E_begin 16 (fun w' => w'.cell? ⟨w2.heap.size, 0, none⟩ = some (.int .i64 14) ∧ w'.cell? ⟨w2.heap.size, 1, none⟩ = some (.int .i64 a) ∧ w'.cell? ⟨w2.heap.size, 2, none⟩ = some (.int .i64 b) ∧ w'.cell? ⟨w2.heap.size, 3, none⟩ = some (.int .i64 0) ∧ w'.cell? ⟨w2.heap.size, 4, none⟩ = some (.string ⟨#[]⟩) ∧ w'.cell? ⟨w2.heap.size, 5, none⟩ = some (.slice Ae es.length ce) ∧ w'.cell? ⟨w1.heap.size, 0, none⟩ = some (.slice Ab rf.1.length cb) ∧ w'.cell? ⟨w1.heap.size, 1, none⟩ = some (.bool true)) (by kernel_rfl) ⟨q0, q1, q2, q3, q4, q5, k0, k1⟩ (fun hHeld => ?_)
       refine E_t 0 72 ?_; refine E_t 1 73 ?_; refine E_t 2 74 ?_; refine E_t 3 75 ?_; refine E_t 4 76 ?_; refine E_t 5 77 ?_; refine E_t 6 78 ?_; refine E_s 7 79 ?_; refine E_s 8 80 ?_; refine E_s 9 81 ?_; refine E_s 10 82 ?_; refine E_s 11 83 ?_; refine E_s 12 84 ?_; refine E_t 13 85 ?_; refine E_ready [14] (by kernel_rfl) (by simp) ?_
       refine AllE.cons (o := ⟨none, _, _, _, _, _⟩) rfl (fun K hK => ?_) AllE.nil
       go_simp; clear hHeld; refine hK.out _ _ ⟨(six_far hne1).trans q0, (six_far hne1).trans q1, (six_far hne1).trans q2, (six_far hne1).trans q3, (six_far hne1).trans q4, (six_far hne1).trans q5, (six_far hne2).trans k0, (six_far hne2).trans k1⟩ (fun hHeld => ?_)
       clear hK K; try simp only [Act.put, aP1, aP2, aP3]
       refine E_t 15 3 ?_; refine E_end (by kernel_rfl) (by rfl) ?_
       go_wp2; have BF : Hid (BIs ((((((wf.setCell ⟨w.heap.size, 0, none⟩ (.int .i64 14)).setCell ⟨w.heap.size, 1, none⟩ (.int .i64 a)).setCell ⟨w.heap.size, 2, none⟩ (.int .i64 b)).setCell ⟨w.heap.size, 3, none⟩ (.int .i64 0)).setCell ⟨w.heap.size, 4, none⟩ (.string ⟨#[]⟩)).setCell ⟨w.heap.size, 5, none⟩ (.slice Ae es.length ce)).drew w.heap.size #[.int .i64 14, .int .i64 a, .int .i64 b, .int .i64 0, .string ⟨#[]⟩, .slice Ae es.length ce] 110) := hJ ((six_set (BIs.ext (BIs.new w _ _) XF.out)).ext Ext.drew1)
       have XFF : Hid (Ext w ((((((wf.setCell ⟨w.heap.size, 0, none⟩ (.int .i64 14)).setCell ⟨w.heap.size, 1, none⟩ (.int .i64 a)).setCell ⟨w.heap.size, 2, none⟩ (.int .i64 b)).setCell ⟨w.heap.size, 3, none⟩ (.int .i64 0)).setCell ⟨w.heap.size, 4, none⟩ (.string ⟨#[]⟩)).setCell ⟨w.heap.size, 5, none⟩ (.slice Ae es.length ce)).drew) := hJ ((six_ext (E0.out.trans XF.out)).trans Ext.drew1)
       generalize ((((((wf.setCell ⟨w.heap.size, 0, none⟩ (.int .i64 14)).setCell ⟨w.heap.size, 1, none⟩ (.int .i64 a)).setCell ⟨w.heap.size, 2, none⟩ (.int .i64 b)).setCell ⟨w.heap.size, 3, none⟩ (.int .i64 0)).setCell ⟨w.heap.size, 4, none⟩ (.string ⟨#[]⟩)).setCell ⟨w.heap.size, 5, none⟩ (.slice Ae es.length ce)).drew = W at *
       obtain ⟨g0, g1, g2, g3, g4, g5⟩ := six BF.out
       refine bodyPost_ret (v := .tuple #[.agg #[.int .i64 14, .int .i64 a, .int .i64 b, .int .i64 0, .string ⟨#[]⟩, .slice Ae es.length ce], .bool false]) (by simp [results, Tryz.results72, go_sem, g0, g1, g2, g3, g4, g5]) rfl ?_
       exact .inl ⟨_, _, _, _, _, _, _, _, rfl, HF.out, XFF.out⟩
      | false =>
       rw [hff] at k1
       by_cases hz : rf.1.length = 0
       ·have hzz : ((rf.1.length : Int) == 0) = true := by simp [hz]
        have HF : Hid (readF frame = some ⟨14, a, b, 0, [], es⟩) := hJ (by rw [HRF.out, if_pos (by rw [hff]; simpa using hz)])
        clear hz; refine E_begin 16 (fun w' => w'.cell? ⟨w2.heap.size, 0, none⟩ = some (.int .i64 14) ∧ w'.cell? ⟨w2.heap.size, 1, none⟩ = some (.int .i64 a) ∧ w'.cell? ⟨w2.heap.size, 2, none⟩ = some (.int .i64 b) ∧ w'.cell? ⟨w2.heap.size, 3, none⟩ = some (.int .i64 0) ∧ w'.cell? ⟨w2.heap.size, 4, none⟩ = some (.string ⟨#[]⟩) ∧ w'.cell? ⟨w2.heap.size, 5, none⟩ = some (.slice Ae es.length ce) ∧ w'.cell? ⟨w1.heap.size, 0, none⟩ = some (.slice Ab rf.1.length cb) ∧ w'.cell? ⟨w1.heap.size, 1, none⟩ = some (.bool false)) (by kernel_rfl) ⟨q0, q1, q2, q3, q4, q5, k0, k1⟩ (fun hHeld => ?_)
        refine E_t 0 72 ?_; refine E_t 1 73 ?_; refine E_t 2 74 ?_; refine E_t 3 75 ?_; refine E_t 4 76 ?_; refine E_t 5 77 ?_; refine E_t 6 78 ?_; refine E_t 7 79 ?_; refine E_t 8 80 ?_; refine E_t 9 81 ?_; refine E_t 10 82 ?_; refine E_t 11 83 ?_; refine E_t 12 84 ?_; refine E_t 13 85 ?_; refine E_ready [14] (by kernel_rfl) (by simp) ?_
        refine AllE.cons (o := ⟨none, _, _, _, _, _⟩) rfl (fun K hK => ?_) AllE.nil
        go_simp; clear hHeld; refine hK.out _ _ ⟨(six_far hne1).trans q0, (six_far hne1).trans q1, (six_far hne1).trans q2, (six_far hne1).trans q3, (six_far hne1).trans q4, (six_far hne1).trans q5, (six_far hne2).trans k0, (six_far hne2).trans k1⟩ (fun hHeld => ?_)
        clear hK K; try simp only [Act.put, aP1, aP2, aP3]
        refine E_t 15 3 ?_; refine E_end (by kernel_rfl) (by rfl) ?_
        go_wp2; have BF : Hid (BIs ((((((wf.setCell ⟨w.heap.size, 0, none⟩ (.int .i64 14)).setCell ⟨w.heap.size, 1, none⟩ (.int .i64 a)).setCell ⟨w.heap.size, 2, none⟩ (.int .i64 b)).setCell ⟨w.heap.size, 3, none⟩ (.int .i64 0)).setCell ⟨w.heap.size, 4, none⟩ (.string ⟨#[]⟩)).setCell ⟨w.heap.size, 5, none⟩ (.slice Ae es.length ce)).drew w.heap.size #[.int .i64 14, .int .i64 a, .int .i64 b, .int .i64 0, .string ⟨#[]⟩, .slice Ae es.length ce] 110) := hJ ((six_set (BIs.ext (BIs.new w _ _) XF.out)).ext Ext.drew1)
        have XFF : Hid (Ext w ((((((wf.setCell ⟨w.heap.size, 0, none⟩ (.int .i64 14)).setCell ⟨w.heap.size, 1, none⟩ (.int .i64 a)).setCell ⟨w.heap.size, 2, none⟩ (.int .i64 b)).setCell ⟨w.heap.size, 3, none⟩ (.int .i64 0)).setCell ⟨w.heap.size, 4, none⟩ (.string ⟨#[]⟩)).setCell ⟨w.heap.size, 5, none⟩ (.slice Ae es.length ce)).drew) := hJ ((six_ext (E0.out.trans XF.out)).trans Ext.drew1)
        have HOF : Hid (entE.OB ((((((wf.setCell ⟨w.heap.size, 0, none⟩ (.int .i64 14)).setCell ⟨w.heap.size, 1, none⟩ (.int .i64 a)).setCell ⟨w.heap.size, 2, none⟩ (.int .i64 b)).setCell ⟨w.heap.size, 3, none⟩ (.int .i64 0)).setCell ⟨w.heap.size, 4, none⟩ (.string ⟨#[]⟩)).setCell ⟨w.heap.size, 5, none⟩ (.slice Ae es.length ce)).drew w.heap.size (.slice Ae es.length ce) es) := hJ ((six_ob HOQ.out hor.out).ext Ext.drew1)
        generalize ((((((wf.setCell ⟨w.heap.size, 0, none⟩ (.int .i64 14)).setCell ⟨w.heap.size, 1, none⟩ (.int .i64 a)).setCell ⟨w.heap.size, 2, none⟩ (.int .i64 b)).setCell ⟨w.heap.size, 3, none⟩ (.int .i64 0)).setCell ⟨w.heap.size, 4, none⟩ (.string ⟨#[]⟩)).setCell ⟨w.heap.size, 5, none⟩ (.slice Ae es.length ce)).drew = W at *
        obtain ⟨g0, g1, g2, g3, g4, g5⟩ := six BF.out
        refine bodyPost_ret (v := .tuple #[.agg #[.int .i64 14, .int .i64 a, .int .i64 b, .int .i64 0, .string ⟨#[]⟩, .slice Ae es.length ce], .bool true]) (by simp [results, Tryz.results72, go_sem, g0, g1, g2, g3, g4, g5]) rfl ?_
        exact .inr ⟨⟨14, a, b, 0, [], es⟩, Ae, ce, rfl, HF.out, he1, he2, HOF.out, XFF.out⟩
       ·have hzz : ((rf.1.length : Int) == 0) = false := by simp; exact fun e => hz (by simp [e])
        have HF : Hid (readF frame = none) := hJ (by rw [HRF.out, if_neg (by rw [hff]; simpa using hz)])
        clear hz; refine E_begin 16 (fun w' => w'.cell? ⟨w2.heap.size, 0, none⟩ = some (.int .i64 14) ∧ w'.cell? ⟨w2.heap.size, 1, none⟩ = some (.int .i64 a) ∧ w'.cell? ⟨w2.heap.size, 2, none⟩ = some (.int .i64 b) ∧ w'.cell? ⟨w2.heap.size, 3, none⟩ = some (.int .i64 0) ∧ w'.cell? ⟨w2.heap.size, 4, none⟩ = some (.string ⟨#[]⟩) ∧ w'.cell? ⟨w2.heap.size, 5, none⟩ = some (.slice Ae es.length ce) ∧ w'.cell? ⟨w1.heap.size, 0, none⟩ = some (.slice Ab rf.1.length cb) ∧ w'.cell? ⟨w1.heap.size, 1, none⟩ = some (.bool false)) (by kernel_rfl) ⟨q0, q1, q2, q3, q4, q5, k0, k1⟩ (fun hHeld => ?_)
        refine E_t 0 72 ?_; refine E_t 1 73 ?_; refine E_t 2 74 ?_; refine E_t 3 75 ?_; refine E_t 4 76 ?_; refine E_t 5 77 ?_; refine E_t 6 78 ?_; refine E_t 7 79 ?_; refine E_t 8 80 ?_; refine E_t 9 81 ?_; refine E_t 10 82 ?_; refine E_t 11 83 ?_; refine E_t 12 84 ?_; refine E_t 13 85 ?_; refine E_ready [14] (by kernel_rfl) (by simp) ?_
        refine AllE.cons (o := ⟨none, _, _, _, _, _⟩) rfl (fun K hK => ?_) AllE.nil
        go_simp; clear hHeld; refine hK.out _ _ ⟨(six_far hne1).trans q0, (six_far hne1).trans q1, (six_far hne1).trans q2, (six_far hne1).trans q3, (six_far hne1).trans q4, (six_far hne1).trans q5, (six_far hne2).trans k0, (six_far hne2).trans k1⟩ (fun hHeld => ?_)
        clear hK K; try simp only [Act.put, aP1, aP2, aP3]
        refine E_t 15 3 ?_; refine E_end (by kernel_rfl) (by rfl) ?_
        go_wp2; have BF : Hid (BIs ((((((wf.setCell ⟨w.heap.size, 0, none⟩ (.int .i64 14)).setCell ⟨w.heap.size, 1, none⟩ (.int .i64 a)).setCell ⟨w.heap.size, 2, none⟩ (.int .i64 b)).setCell ⟨w.heap.size, 3, none⟩ (.int .i64 0)).setCell ⟨w.heap.size, 4, none⟩ (.string ⟨#[]⟩)).setCell ⟨w.heap.size, 5, none⟩ (.slice Ae es.length ce)).drew w.heap.size #[.int .i64 14, .int .i64 a, .int .i64 b, .int .i64 0, .string ⟨#[]⟩, .slice Ae es.length ce] 110) := hJ ((six_set (BIs.ext (BIs.new w _ _) XF.out)).ext Ext.drew1)
        have XFF : Hid (Ext w ((((((wf.setCell ⟨w.heap.size, 0, none⟩ (.int .i64 14)).setCell ⟨w.heap.size, 1, none⟩ (.int .i64 a)).setCell ⟨w.heap.size, 2, none⟩ (.int .i64 b)).setCell ⟨w.heap.size, 3, none⟩ (.int .i64 0)).setCell ⟨w.heap.size, 4, none⟩ (.string ⟨#[]⟩)).setCell ⟨w.heap.size, 5, none⟩ (.slice Ae es.length ce)).drew) := hJ ((six_ext (E0.out.trans XF.out)).trans Ext.drew1)
        generalize ((((((wf.setCell ⟨w.heap.size, 0, none⟩ (.int .i64 14)).setCell ⟨w.heap.size, 1, none⟩ (.int .i64 a)).setCell ⟨w.heap.size, 2, none⟩ (.int .i64 b)).setCell ⟨w.heap.size, 3, none⟩ (.int .i64 0)).setCell ⟨w.heap.size, 4, none⟩ (.string ⟨#[]⟩)).setCell ⟨w.heap.size, 5, none⟩ (.slice Ae es.length ce)).drew = W at *
        obtain ⟨g0, g1, g2, g3, g4, g5⟩ := six BF.out
        refine bodyPost_ret (v := .tuple #[.agg #[.int .i64 14, .int .i64 a, .int .i64 b, .int .i64 0, .string ⟨#[]⟩, .slice Ae es.length ce], .bool false]) (by simp [results, Tryz.results72, go_sem, g0, g1, g2, g3, g4, g5]) rfl ?_
        exact .inl ⟨_, _, _, _, _, _, _, _, rfl, HF.out, XFF.out⟩
     ·have hkk14 : (kind == 14) = false := by simpa using hk14
      by_cases hk15 : kind = 15
      ·subst hk15
       obtain ⟨⟨a, r1⟩, ha⟩ : ∃ d, numR (body, false) = d := ⟨_, rfl⟩
       have HA := hJ ha
       obtain ⟨⟨es, rf⟩, hc0⟩ : ∃ d, entsR r1 = d := ⟨_, rfl⟩
       have HC0 := hJ hc0
       have HRF : Hid (readF frame = if rf.2 = false ∧ rf.1.length = 0 then some ⟨15, a, 0, 0, [], es⟩ else none) := hJ (by unfold readF; rw [HOP.out]; simp only; rw [if_neg hbad]; unfold bodyR; simp only [ha, hc0, if_true, if_false, Int.reduceEq])
       clear hbad ha hc0; go_enter Tryz.func72, Tryz.ntmps72
       go_wp2_with fail
       refine (wopen_any A c frame _ H0.out hc hl).mono ?_
       rintro en w1 ⟨A1, c1, rfl, h11, h12, ho1, hx1⟩
       have X1 := hJ hx1
       obtain ⟨z0, z1, z2, z3, z4, z5⟩ := six_free (BIs.ext (BIs.new w _ _) hx1)
       obtain ⟨y0, y1, y2, y3, y4, y5⟩ := six (BIs.ext (BIs.new w _ _) hx1)
       rw [HOP.out] at ho1 h11 ⊢
       simp only at ho1 h11
       have HB1 := hJ ho1.row
       clear ho1 hx1; have RS0 : Hid (RS w1 w1.heap.size (w1.alloc (.cells #[.slice A1 body.length c1, .bool false] 175)) (body, false)) := hJ ⟨Nat.le_refl _, Ext.new _ _, hbl.out, A1, c1, BIs.new _ _ _, HB1.out, h11⟩
       go_wp2_with fail
       refine (rnumber_any w1 w1.heap.size (body, false) _ RS0.out).mono ?_
       rintro en w2 ⟨rfl, hr2, hw2⟩
       rw [HA.out] at hr2 ⊢
       simp only at hr2
       have X12 : Hid (Ext w1 w2) := hJ ((hw2.ext (Ext.new w1 _)) (Nat.le_refl _))
       have hp2 : Hid (w1.heap.size < w2.heap.size) := hJ hr2.parts.choose_spec.choose_spec.2.2.2.2.2.2
       have R2 : Hid (RS w1 w1.heap.size (w2.alloc (.cells #[.int .i64 15, .int .i64 a, .int .i64 0, .int .i64 0, .string ⟨#[]⟩, .slice none 0 0] 110)) r1) := hJ (hr2.ext (Ext.new _ _))
       have B2 : Hid (BIs (w2.alloc (.cells #[.int .i64 15, .int .i64 a, .int .i64 0, .int .i64 0, .string ⟨#[]⟩, .slice none 0 0] 110)) w2.heap.size #[.int .i64 15, .int .i64 a, .int .i64 0, .int .i64 0, .string ⟨#[]⟩, .slice none 0 0] 110) := hJ (BIs.new _ _ _)
       have X2 : Hid (Ext w1 (w2.alloc (.cells #[.int .i64 15, .int .i64 a, .int .i64 0, .int .i64 0, .string ⟨#[]⟩, .slice none 0 0] 110))) := hJ (X12.out.trans (Ext.new _ _))
       have hs2 : Hid (w2.heap.size + 1 = (w2.alloc (.cells #[.int .i64 15, .int .i64 a, .int .i64 0, .int .i64 0, .string ⟨#[]⟩, .slice none 0 0] 110)).heap.size) := hJ (by simp)
       clear hr2 hw2; go_wp2_with fail
       generalize hW2 : w2.alloc (.cells #[.int .i64 15, .int .i64 a, .int .i64 0, .int .i64 0, .string ⟨#[]⟩, .slice none 0 0] 110) = u0 at *
       clear hW2; refine (rentries_any w1 w1.heap.size r1 u0 R2.out).mono ?_
       rintro en u1 ⟨Ae, ce, rfl, he1, he2, hob, hr2, hw2⟩
       rw [HC0.out] at he1 hob hr2 ⊢
       simp only at he1 hob hr2
       have HOB := hJ hob
       clear hob; have RC0 := hJ hr2
       have BC0 := hJ (hw2.bis B2.out (by have := hp2.out; omega))
       have XC0 : Hid (Ext w1 u1) := hJ (hw2.ext X2.out (Nat.le_refl _))
       have SC0 : Hid (w2.heap.size < u1.heap.size) := hJ BC0.out.lt
       have hoq : Hid (∀ k, (Value.slice Ae es.length ce).ownBlock = some k → k ≠ w2.heap.size) := hJ (fun k hk => by have := (HOB.out.1.lt k hk).1; have := hs2.out; omega)
       clear hr2 hw2; obtain ⟨q0, q1, q2, q3, q4, q5⟩ := six BC0.out
       obtain ⟨v0, v1, v2, v3, v4, v5⟩ := six_free BC0.out
       have WF : Hid (Wrote w2.heap.size u1 (u1.setCell ⟨w2.heap.size, 5, none⟩ (.slice Ae es.length ce))) := hJ ((Wrote.refl _ _).trans (Wrote.set _ _ _ _))
       have BQ : Hid (BIs (u1.setCell ⟨w2.heap.size, 5, none⟩ (.slice Ae es.length ce)) w2.heap.size #[.int .i64 15, .int .i64 a, .int .i64 0, .int .i64 0, .string ⟨#[]⟩, .slice Ae es.length ce] 110) := hJ ((BC0.out).set 5 (.slice Ae es.length ce))
       have RP : Hid (RS w1 w1.heap.size (u1.setCell ⟨w2.heap.size, 5, none⟩ (.slice Ae es.length ce)) rf) := hJ (RC0.out.wrote WF.out (by have := hp2.out; omega) (by have := hp2.out; omega))
       have XF : Hid (Ext (w.alloc (.cells #[.int .i64 0, .int .i64 0, .int .i64 0, .int .i64 0, .string ⟨#[]⟩, .slice none 0 0] 110)) (u1.setCell ⟨w2.heap.size, 5, none⟩ (.slice Ae es.length ce))) := hJ (X1.out.trans (WF.out.ext XC0.out (by have := hp2.out; omega)))
       have HOQ : Hid (entE.OB (u1.setCell ⟨w2.heap.size, 5, none⟩ (.slice Ae es.length ce)) w.heap.size (.slice Ae es.length ce) es) := hJ ((WF.out.ob HOB.out hoq.out).baseOB (by have := X1.out.size; have := X2.out.size; have := hs2.out; simp at *; omega))
       have hor : Hid (∀ k, (Value.slice Ae es.length ce).ownBlock = some k → k ≠ w.heap.size) := hJ (fun k hk => by have := (HOB.out.1.lt k hk).1; have := X1.out.size; have := hp2.out; have := hs2.out; simp at *; omega)
       go_wp2; clear WF q0 q1 q2 q3 q4 q5 v0 v1 v2 v3 v4 v5; generalize (u1.setCell ⟨w2.heap.size, 5, none⟩ (.slice Ae es.length ce)) = wf at *
       clear z0 z1 z2 z3 z4 z5 y0 y1 y2 y3 y4 y5; obtain ⟨Ab, cb, k0, k1, _, _, _, _, hpl⟩ := RP.out.parts
       obtain ⟨q0, q1, q2, q3, q4, q5⟩ := six BQ.out
       obtain ⟨z0, z1, z2, z3, z4, z5⟩ := six_free (BIs.ext (BIs.new w _ _) XF.out)
       obtain ⟨y0, y1, y2, y3, y4, y5⟩ := six (BIs.ext (BIs.new w _ _) XF.out)
       have hne1 : w2.heap.size ≠ w.heap.size := by have := hp2.out; have := X1.out.size; simp at this; omega
       have hne2 : w1.heap.size ≠ w.heap.size := by have := X1.out.size; simp at this; omega
       cases hff : rf.2 with
       | true =>
        rw [hff] at k1
        have HF : Hid (readF frame = none) := hJ (by rw [HRF.out, if_neg (by rw [hff]; simp)])
        refine E_begin 16 (fun w' => w'.cell? ⟨w2.heap.size, 0, none⟩ = some (.int .i64 15) ∧ w'.cell? ⟨w2.heap.size, 1, none⟩ = some (.int .i64 a) ∧ w'.cell? ⟨w2.heap.size, 2, none⟩ = some (.int .i64 0) ∧ w'.cell? ⟨w2.heap.size, 3, none⟩ = some (.int .i64 0) ∧ w'.cell? ⟨w2.heap.size, 4, none⟩ = some (.string ⟨#[]⟩) ∧ w'.cell? ⟨w2.heap.size, 5, none⟩ = some (.slice Ae es.length ce) ∧ w'.cell? ⟨w1.heap.size, 0, none⟩ = some (.slice Ab rf.1.length cb) ∧ w'.cell? ⟨w1.heap.size, 1, none⟩ = some (.bool true)) (by kernel_rfl) ⟨q0, q1, q2, q3, q4, q5, k0, k1⟩ (fun hHeld => ?_)
        refine E_t 0 72 ?_; refine E_t 1 73 ?_; refine E_t 2 74 ?_; refine E_t 3 75 ?_; refine E_t 4 76 ?_; refine E_t 5 77 ?_; refine E_t 6 78 ?_; refine E_s 7 79 ?_; refine E_s 8 80 ?_; refine E_s 9 81 ?_; refine E_s 10 82 ?_; refine E_s 11 83 ?_; refine E_s 12 84 ?_; refine E_t 13 85 ?_; refine E_ready [14] (by kernel_rfl) (by simp) ?_
        refine AllE.cons (o := ⟨none, _, _, _, _, _⟩) rfl (fun K hK => ?_) AllE.nil
        go_simp; clear hHeld; refine hK.out _ _ ⟨(six_far hne1).trans q0, (six_far hne1).trans q1, (six_far hne1).trans q2, (six_far hne1).trans q3, (six_far hne1).trans q4, (six_far hne1).trans q5, (six_far hne2).trans k0, (six_far hne2).trans k1⟩ (fun hHeld => ?_)
        clear hK K; try simp only [Act.put, aP1, aP2, aP3]
        refine E_t 15 3 ?_; refine E_end (by kernel_rfl) (by rfl) ?_
        go_wp2; have BF : Hid (BIs ((((((wf.setCell ⟨w.heap.size, 0, none⟩ (.int .i64 15)).setCell ⟨w.heap.size, 1, none⟩ (.int .i64 a)).setCell ⟨w.heap.size, 2, none⟩ (.int .i64 0)).setCell ⟨w.heap.size, 3, none⟩ (.int .i64 0)).setCell ⟨w.heap.size, 4, none⟩ (.string ⟨#[]⟩)).setCell ⟨w.heap.size, 5, none⟩ (.slice Ae es.length ce)).drew w.heap.size #[.int .i64 15, .int .i64 a, .int .i64 0, .int .i64 0, .string ⟨#[]⟩, .slice Ae es.length ce] 110) := hJ ((six_set (BIs.ext (BIs.new w _ _) XF.out)).ext Ext.drew1)
        have XFF : Hid (Ext w ((((((wf.setCell ⟨w.heap.size, 0, none⟩ (.int .i64 15)).setCell ⟨w.heap.size, 1, none⟩ (.int .i64 a)).setCell ⟨w.heap.size, 2, none⟩ (.int .i64 0)).setCell ⟨w.heap.size, 3, none⟩ (.int .i64 0)).setCell ⟨w.heap.size, 4, none⟩ (.string ⟨#[]⟩)).setCell ⟨w.heap.size, 5, none⟩ (.slice Ae es.length ce)).drew) := hJ ((six_ext (E0.out.trans XF.out)).trans Ext.drew1)
        generalize ((((((wf.setCell ⟨w.heap.size, 0, none⟩ (.int .i64 15)).setCell ⟨w.heap.size, 1, none⟩ (.int .i64 a)).setCell ⟨w.heap.size, 2, none⟩ (.int .i64 0)).setCell ⟨w.heap.size, 3, none⟩ (.int .i64 0)).setCell ⟨w.heap.size, 4, none⟩ (.string ⟨#[]⟩)).setCell ⟨w.heap.size, 5, none⟩ (.slice Ae es.length ce)).drew = W at *
        obtain ⟨g0, g1, g2, g3, g4, g5⟩ := six BF.out
        refine bodyPost_ret (v := .tuple #[.agg #[.int .i64 15, .int .i64 a, .int .i64 0, .int .i64 0, .string ⟨#[]⟩, .slice Ae es.length ce], .bool false]) (by simp [results, Tryz.results72, go_sem, g0, g1, g2, g3, g4, g5]) rfl ?_
        exact .inl ⟨_, _, _, _, _, _, _, _, rfl, HF.out, XFF.out⟩
       | false =>
        rw [hff] at k1
        by_cases hz : rf.1.length = 0
        ·have hzz : ((rf.1.length : Int) == 0) = true := by simp [hz]
         have HF : Hid (readF frame = some ⟨15, a, 0, 0, [], es⟩) := hJ (by rw [HRF.out, if_pos (by rw [hff]; simpa using hz)])
         clear hz; refine E_begin 16 (fun w' => w'.cell? ⟨w2.heap.size, 0, none⟩ = some (.int .i64 15) ∧ w'.cell? ⟨w2.heap.size, 1, none⟩ = some (.int .i64 a) ∧ w'.cell? ⟨w2.heap.size, 2, none⟩ = some (.int .i64 0) ∧ w'.cell? ⟨w2.heap.size, 3, none⟩ = some (.int .i64 0) ∧ w'.cell? ⟨w2.heap.size, 4, none⟩ = some (.string ⟨#[]⟩) ∧ w'.cell? ⟨w2.heap.size, 5, none⟩ = some (.slice Ae es.length ce) ∧ w'.cell? ⟨w1.heap.size, 0, none⟩ = some (.slice Ab rf.1.length cb) ∧ w'.cell? ⟨w1.heap.size, 1, none⟩ = some (.bool false)) (by kernel_rfl) ⟨q0, q1, q2, q3, q4, q5, k0, k1⟩ (fun hHeld => ?_)
         refine E_t 0 72 ?_; refine E_t 1 73 ?_; refine E_t 2 74 ?_; refine E_t 3 75 ?_; refine E_t 4 76 ?_; refine E_t 5 77 ?_; refine E_t 6 78 ?_; refine E_t 7 79 ?_; refine E_t 8 80 ?_; refine E_t 9 81 ?_; refine E_t 10 82 ?_; refine E_t 11 83 ?_; refine E_t 12 84 ?_; refine E_t 13 85 ?_; refine E_ready [14] (by kernel_rfl) (by simp) ?_
         refine AllE.cons (o := ⟨none, _, _, _, _, _⟩) rfl (fun K hK => ?_) AllE.nil
         go_simp; clear hHeld; refine hK.out _ _ ⟨(six_far hne1).trans q0, (six_far hne1).trans q1, (six_far hne1).trans q2, (six_far hne1).trans q3, (six_far hne1).trans q4, (six_far hne1).trans q5, (six_far hne2).trans k0, (six_far hne2).trans k1⟩ (fun hHeld => ?_)
         clear hK K; try simp only [Act.put, aP1, aP2, aP3]
         refine E_t 15 3 ?_; refine E_end (by kernel_rfl) (by rfl) ?_
         go_wp2; have BF : Hid (BIs ((((((wf.setCell ⟨w.heap.size, 0, none⟩ (.int .i64 15)).setCell ⟨w.heap.size, 1, none⟩ (.int .i64 a)).setCell ⟨w.heap.size, 2, none⟩ (.int .i64 0)).setCell ⟨w.heap.size, 3, none⟩ (.int .i64 0)).setCell ⟨w.heap.size, 4, none⟩ (.string ⟨#[]⟩)).setCell ⟨w.heap.size, 5, none⟩ (.slice Ae es.length ce)).drew w.heap.size #[.int .i64 15, .int .i64 a, .int .i64 0, .int .i64 0, .string ⟨#[]⟩, .slice Ae es.length ce] 110) := hJ ((six_set (BIs.ext (BIs.new w _ _) XF.out)).ext Ext.drew1)
         have XFF : Hid (Ext w ((((((wf.setCell ⟨w.heap.size, 0, none⟩ (.int .i64 15)).setCell ⟨w.heap.size, 1, none⟩ (.int .i64 a)).setCell ⟨w.heap.size, 2, none⟩ (.int .i64 0)).setCell ⟨w.heap.size, 3, none⟩ (.int .i64 0)).setCell ⟨w.heap.size, 4, none⟩ (.string ⟨#[]⟩)).setCell ⟨w.heap.size, 5, none⟩ (.slice Ae es.length ce)).drew) := hJ ((six_ext (E0.out.trans XF.out)).trans Ext.drew1)
         have HOF : Hid (entE.OB ((((((wf.setCell ⟨w.heap.size, 0, none⟩ (.int .i64 15)).setCell ⟨w.heap.size, 1, none⟩ (.int .i64 a)).setCell ⟨w.heap.size, 2, none⟩ (.int .i64 0)).setCell ⟨w.heap.size, 3, none⟩ (.int .i64 0)).setCell ⟨w.heap.size, 4, none⟩ (.string ⟨#[]⟩)).setCell ⟨w.heap.size, 5, none⟩ (.slice Ae es.length ce)).drew w.heap.size (.slice Ae es.length ce) es) := hJ ((six_ob HOQ.out hor.out).ext Ext.drew1)
         generalize ((((((wf.setCell ⟨w.heap.size, 0, none⟩ (.int .i64 15)).setCell ⟨w.heap.size, 1, none⟩ (.int .i64 a)).setCell ⟨w.heap.size, 2, none⟩ (.int .i64 0)).setCell ⟨w.heap.size, 3, none⟩ (.int .i64 0)).setCell ⟨w.heap.size, 4, none⟩ (.string ⟨#[]⟩)).setCell ⟨w.heap.size, 5, none⟩ (.slice Ae es.length ce)).drew = W at *
         obtain ⟨g0, g1, g2, g3, g4, g5⟩ := six BF.out
         refine bodyPost_ret (v := .tuple #[.agg #[.int .i64 15, .int .i64 a, .int .i64 0, .int .i64 0, .string ⟨#[]⟩, .slice Ae es.length ce], .bool true]) (by simp [results, Tryz.results72, go_sem, g0, g1, g2, g3, g4, g5]) rfl ?_
         exact .inr ⟨⟨15, a, 0, 0, [], es⟩, Ae, ce, rfl, HF.out, he1, he2, HOF.out, XFF.out⟩
        ·have hzz : ((rf.1.length : Int) == 0) = false := by simp; exact fun e => hz (by simp [e])
         have HF : Hid (readF frame = none) := hJ (by rw [HRF.out, if_neg (by rw [hff]; simpa using hz)])
         clear hz; refine E_begin 16 (fun w' => w'.cell? ⟨w2.heap.size, 0, none⟩ = some (.int .i64 15) ∧ w'.cell? ⟨w2.heap.size, 1, none⟩ = some (.int .i64 a) ∧ w'.cell? ⟨w2.heap.size, 2, none⟩ = some (.int .i64 0) ∧ w'.cell? ⟨w2.heap.size, 3, none⟩ = some (.int .i64 0) ∧ w'.cell? ⟨w2.heap.size, 4, none⟩ = some (.string ⟨#[]⟩) ∧ w'.cell? ⟨w2.heap.size, 5, none⟩ = some (.slice Ae es.length ce) ∧ w'.cell? ⟨w1.heap.size, 0, none⟩ = some (.slice Ab rf.1.length cb) ∧ w'.cell? ⟨w1.heap.size, 1, none⟩ = some (.bool false)) (by kernel_rfl) ⟨q0, q1, q2, q3, q4, q5, k0, k1⟩ (fun hHeld => ?_)
         refine E_t 0 72 ?_; refine E_t 1 73 ?_; refine E_t 2 74 ?_; refine E_t 3 75 ?_; refine E_t 4 76 ?_; refine E_t 5 77 ?_; refine E_t 6 78 ?_; refine E_t 7 79 ?_; refine E_t 8 80 ?_; refine E_t 9 81 ?_; refine E_t 10 82 ?_; refine E_t 11 83 ?_; refine E_t 12 84 ?_; refine E_t 13 85 ?_; refine E_ready [14] (by kernel_rfl) (by simp) ?_
         refine AllE.cons (o := ⟨none, _, _, _, _, _⟩) rfl (fun K hK => ?_) AllE.nil
         go_simp; clear hHeld; refine hK.out _ _ ⟨(six_far hne1).trans q0, (six_far hne1).trans q1, (six_far hne1).trans q2, (six_far hne1).trans q3, (six_far hne1).trans q4, (six_far hne1).trans q5, (six_far hne2).trans k0, (six_far hne2).trans k1⟩ (fun hHeld => ?_)
         clear hK K; try simp only [Act.put, aP1, aP2, aP3]
         refine E_t 15 3 ?_; refine E_end (by kernel_rfl) (by rfl) ?_
         go_wp2; have BF : Hid (BIs ((((((wf.setCell ⟨w.heap.size, 0, none⟩ (.int .i64 15)).setCell ⟨w.heap.size, 1, none⟩ (.int .i64 a)).setCell ⟨w.heap.size, 2, none⟩ (.int .i64 0)).setCell ⟨w.heap.size, 3, none⟩ (.int .i64 0)).setCell ⟨w.heap.size, 4, none⟩ (.string ⟨#[]⟩)).setCell ⟨w.heap.size, 5, none⟩ (.slice Ae es.length ce)).drew w.heap.size #[.int .i64 15, .int .i64 a, .int .i64 0, .int .i64 0, .string ⟨#[]⟩, .slice Ae es.length ce] 110) := hJ ((six_set (BIs.ext (BIs.new w _ _) XF.out)).ext Ext.drew1)
         have XFF : Hid (Ext w ((((((wf.setCell ⟨w.heap.size, 0, none⟩ (.int .i64 15)).setCell ⟨w.heap.size, 1, none⟩ (.int .i64 a)).setCell ⟨w.heap.size, 2, none⟩ (.int .i64 0)).setCell ⟨w.heap.size, 3, none⟩ (.int .i64 0)).setCell ⟨w.heap.size, 4, none⟩ (.string ⟨#[]⟩)).setCell ⟨w.heap.size, 5, none⟩ (.slice Ae es.length ce)).drew) := hJ ((six_ext (E0.out.trans XF.out)).trans Ext.drew1)
         generalize ((((((wf.setCell ⟨w.heap.size, 0, none⟩ (.int .i64 15)).setCell ⟨w.heap.size, 1, none⟩ (.int .i64 a)).setCell ⟨w.heap.size, 2, none⟩ (.int .i64 0)).setCell ⟨w.heap.size, 3, none⟩ (.int .i64 0)).setCell ⟨w.heap.size, 4, none⟩ (.string ⟨#[]⟩)).setCell ⟨w.heap.size, 5, none⟩ (.slice Ae es.length ce)).drew = W at *
         obtain ⟨g0, g1, g2, g3, g4, g5⟩ := six BF.out
         refine bodyPost_ret (v := .tuple #[.agg #[.int .i64 15, .int .i64 a, .int .i64 0, .int .i64 0, .string ⟨#[]⟩, .slice Ae es.length ce], .bool false]) (by simp [results, Tryz.results72, go_sem, g0, g1, g2, g3, g4, g5]) rfl ?_
         exact .inl ⟨_, _, _, _, _, _, _, _, rfl, HF.out, XFF.out⟩
      ·have hkk15 : (kind == 15) = false := by simpa using hk15
       have HF : Hid (readF frame = none) := hJ (by unfold readF; rw [HOP.out]; simp only; rw [if_neg hbad]; unfold bodyR; simp only [hk11, hk12, hk13, hk14, hk15, if_false])
       clear hbad hk11 hk12 hk13 hk14 hk15; go_enter Tryz.func72, Tryz.ntmps72
       go_wp2_with fail
       refine (wopen_any A c frame _ H0.out hc hl).mono ?_
       rintro en w1 ⟨A1, c1, rfl, h11, h12, ho1, hx1⟩
       have X1 := hJ hx1
       obtain ⟨z0, z1, z2, z3, z4, z5⟩ := six_free (BIs.ext (BIs.new w _ _) hx1)
       obtain ⟨y0, y1, y2, y3, y4, y5⟩ := six (BIs.ext (BIs.new w _ _) hx1)
       rw [HOP.out] at ho1 h11 ⊢
       simp only at ho1 h11
       have HB1 := hJ ho1.row
       clear ho1 hx1; have RS0 : Hid (RS w1 w1.heap.size (w1.alloc (.cells #[.slice A1 body.length c1, .bool false] 175)) (body, false)) := hJ ⟨Nat.le_refl _, Ext.new _ _, hbl.out, A1, c1, BIs.new _ _ _, HB1.out, h11⟩
       obtain ⟨⟨a, r1⟩, ha⟩ : ∃ d, numR (body, false) = d := ⟨_, rfl⟩
       have HA := hJ ha
       clear ha; go_wp2_with fail
       refine (rnumber_any w1 w1.heap.size (body, false) _ RS0.out).mono ?_
       rintro en w2 ⟨rfl, hr2, hw2⟩
       rw [HA.out] at hr2 ⊢
       simp only at hr2
       have X12 : Hid (Ext w1 w2) := hJ ((hw2.ext (Ext.new w1 _)) (Nat.le_refl _))
       have hp2 : Hid (w1.heap.size < w2.heap.size) := hJ hr2.parts.choose_spec.choose_spec.2.2.2.2.2.2
       have R2 : Hid (RS w1 w1.heap.size (w2.alloc (.cells #[.int .i64 kind, .int .i64 a, .int .i64 0, .int .i64 0, .string ⟨#[]⟩, .slice none 0 0] 110)) r1) := hJ (hr2.ext (Ext.new _ _))
       have B2 : Hid (BIs (w2.alloc (.cells #[.int .i64 kind, .int .i64 a, .int .i64 0, .int .i64 0, .string ⟨#[]⟩, .slice none 0 0] 110)) w2.heap.size #[.int .i64 kind, .int .i64 a, .int .i64 0, .int .i64 0, .string ⟨#[]⟩, .slice none 0 0] 110) := hJ (BIs.new _ _ _)
       have X2 : Hid (Ext w1 (w2.alloc (.cells #[.int .i64 kind, .int .i64 a, .int .i64 0, .int .i64 0, .string ⟨#[]⟩, .slice none 0 0] 110))) := hJ (X12.out.trans (Ext.new _ _))
       have hs2 : Hid (w2.heap.size + 1 = (w2.alloc (.cells #[.int .i64 kind, .int .i64 a, .int .i64 0, .int .i64 0, .string ⟨#[]⟩, .slice none 0 0] 110)).heap.size) := hJ (by simp)
       clear hr2 hw2; have XF : Hid (Ext (w.alloc (.cells #[.int .i64 0, .int .i64 0, .int .i64 0, .int .i64 0, .string ⟨#[]⟩, .slice none 0 0] 110)) w2) := hJ (X1.out.trans X12.out)
       clear y0 y1 y2 y3 y4 y5 z0 z1 z2 z3 z4 z5; obtain ⟨y0, y1, y2, y3, y4, y5⟩ := six (BIs.ext (BIs.new w _ _) XF.out)
       obtain ⟨z0, z1, z2, z3, z4, z5⟩ := six_free (BIs.ext (BIs.new w _ _) XF.out)
       have hlt : w.heap.size < w2.heap.size := by have := XF.out.size; simp at this; omega
       go_wp2; have BF : Hid (BIs (((((((w2.setCell ⟨w.heap.size, 0, none⟩ (.int .i64 0)).setCell ⟨w.heap.size, 1, none⟩ (.int .i64 0)).setCell ⟨w.heap.size, 2, none⟩ (.int .i64 0)).setCell ⟨w.heap.size, 3, none⟩ (.int .i64 0)).setCell ⟨w.heap.size, 4, none⟩ (.string ⟨#[]⟩)).setCell ⟨w.heap.size, 5, none⟩ (.slice none 0 0)).alloc (.cells #[.int .i64 kind, .int .i64 a, .int .i64 0, .int .i64 0, .string ⟨#[]⟩, .slice none 0 0] 110)) w.heap.size #[.int .i64 0, .int .i64 0, .int .i64 0, .int .i64 0, .string ⟨#[]⟩, .slice none 0 0] 110) := hJ ((six_set (BIs.ext (BIs.new w _ _) XF.out)).ext (Ext.new _ _))
       have XFF : Hid (Ext w (((((((w2.setCell ⟨w.heap.size, 0, none⟩ (.int .i64 0)).setCell ⟨w.heap.size, 1, none⟩ (.int .i64 0)).setCell ⟨w.heap.size, 2, none⟩ (.int .i64 0)).setCell ⟨w.heap.size, 3, none⟩ (.int .i64 0)).setCell ⟨w.heap.size, 4, none⟩ (.string ⟨#[]⟩)).setCell ⟨w.heap.size, 5, none⟩ (.slice none 0 0)).alloc (.cells #[.int .i64 kind, .int .i64 a, .int .i64 0, .int .i64 0, .string ⟨#[]⟩, .slice none 0 0] 110))) := hJ ((six_ext (E0.out.trans XF.out)).trans (Ext.new _ _))
       generalize ((((((w2.setCell ⟨w.heap.size, 0, none⟩ (.int .i64 0)).setCell ⟨w.heap.size, 1, none⟩ (.int .i64 0)).setCell ⟨w.heap.size, 2, none⟩ (.int .i64 0)).setCell ⟨w.heap.size, 3, none⟩ (.int .i64 0)).setCell ⟨w.heap.size, 4, none⟩ (.string ⟨#[]⟩)).setCell ⟨w.heap.size, 5, none⟩ (.slice none 0 0)).alloc (.cells #[.int .i64 kind, .int .i64 a, .int .i64 0, .int .i64 0, .string ⟨#[]⟩, .slice none 0 0] 110) = W at *
       obtain ⟨g0, g1, g2, g3, g4, g5⟩ := six BF.out
       refine bodyPost_ret (v := .tuple #[.agg #[.int .i64 0, .int .i64 0, .int .i64 0, .int .i64 0, .string ⟨#[]⟩, .slice none 0 0], .bool false]) (by simp [results, Tryz.results72, go_sem, g0, g1, g2, g3, g4, g5]) rfl ?_
       exact .inl ⟨_, _, _, _, _, _, _, _, rfl, HF.out, XFF.out⟩
end Go.Proofs.YtponbabbabnaeaaGreat
