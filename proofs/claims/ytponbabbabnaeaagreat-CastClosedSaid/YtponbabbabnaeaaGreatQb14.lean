/- Part 14 of the proof: contracts of functions that the statement reaches. Conditions: as each theorem says. -/
import Derived.Test.YtponbabbabnaeaaGreatQb01
import Derived.Test.YtponbabbabnaeaaGreatQb13
namespace Go.Proofs.YtponbabbabnaeaaGreat
open Go.RowKit
def NewAt (B : Nat) (A : Option Addr) (xs : List Value) : Prop := ∀ p, xs ≠ [] → A = some p → B ≤ p.block
structure BM.New (b : BM) (B : Nat) : Prop where
 vs : NewAt B b.Av (viewE.cells b.vs)
 vi : ∀ v ∈ b.vs, NewAt B v.A (ints v.xs)
 log : NewAt B b.Al (entE.cells b.log)
 pend : NewAt B b.Ap (strE.cells b.pend)
 marks : NewAt B b.Am (markE.cells b.marks)
 fls : NewAt B b.Af (flE.cells b.fls)
 fi : ∀ f ∈ b.fls, NewAt B f.A (entE.cells f.log)
theorem ColR.new {col : Nat → Nat} {N k : Nat} {A : Option Addr} {xs : List Value} (h : ColR col k A xs) (hc : ∀ q, q < N → col q = 8) (hk : k ≠ 8) : NewAt N A xs := by
 intro p hx hp
 rcases Nat.lt_or_ge p.block N with hl | hl
 ·exact absurd ((h p hx hp).symm.trans (hc _ hl)) hk
 ·exact hl
theorem BM.Lies.new {w : World} {B N : Nat} {col : Nat → Nat} {b : BM} (h : b.Lies w B col) (hc : ∀ q, q < N → col q = 8) : b.New N :=
 ⟨h.vc.new hc (by decide), fun v hv => (h.vi v hv).new hc (by decide), (h.lc.row h.log).new hc (by decide), h.pc.new hc (by decide), (h.mc.row h.marks).new hc (by decide), (h.fc.row h.fls).new hc (by decide), fun f hf => (h.fi f hf).2.2.new hc (by decide)⟩
def GivesS (w : World) (r : St × Int) (en : Ending) (w' : World) : Prop :=
 ∃ b : BM, en = .returned (.tuple #[.agg b.cells, .int .i64 r.2]) ∧ b.st = r.1 ∧ b.Reads w' ∧ b.Fits ∧ Ext w w' ∧ b.New w.heap.size
def zeroB : BM := ⟨0, 0, 0, 0, none, 0, [], none, 0, [], none, 0, [], none, 0, [], none, 0, []⟩
theorem zeroB_reads (w : World) : zeroB.Reads w := ⟨Elem.Box.nil _ _, Row.nil _ _, Row.nil _ _, Row.nil _ _, Elem.Box.nil _ _⟩
theorem zeroB_fits : zeroB.Fits := ⟨by decide, fun _ h => by simp [zeroB] at h, by decide, fun _ h => by simp [zeroB] at h, by decide, fun _ h => by simp [zeroB] at h, by decide, by decide, fun _ h => by simp [zeroB] at h, by unfold maxLen; decide⟩
theorem gives_zero {w w' : World} {r : St × Int} {e : Int} (h : r = (zeroS, e)) (hx : Ext w w') : GivesS w r (.returned (.tuple #[.agg #[.int .i64 0, .slice none 0 0, .int .i64 0, .slice none 0 0, .int .i64 0, .int .i64 0, .slice none 0 0, .slice none 0 0, .slice none 0 0], .int .i64 e])) w' := by
 subst h; exact ⟨zeroB, rfl, rfl, zeroB_reads _, zeroB_fits, hx, ⟨fun _ h => by simp [zeroB, Elem.cells] at h, fun _ h => by simp [zeroB] at h, fun _ h => by simp [zeroB, Elem.cells] at h, fun _ h => by simp [zeroB, Elem.cells] at h, fun _ h => by simp [zeroB, Elem.cells] at h, fun _ h => by simp [zeroB, Elem.cells] at h, fun _ h => by simp [zeroB] at h⟩⟩
theorem validS_inv {s : St} (h : validS s = true) : isId s.self = true ∧ validVs s.views = true ∧ 0 ≤ s.sent ∧ s.sent ≤ 1099511627776 ∧ basedB s.log s.base = true ∧ (s.base = -1 ∨ ∃ v, knownV s.views s.base = some v ∧ hasB v.2 s.self = true) ∧ (ownN s.log s.self : Int) ≤ s.sent ∧ 0 ≤ s.stable ∧ s.stable ≤ s.log.length ∧ s.pend.length ≤ 32 ∧ (s.pend.length : Int) = s.sent - ownN (s.log.take s.stable.toNat) s.self ∧ (∀ p ∈ s.pend, p.length ≤ 6000) ∧ listsB s = true := by
 unfold validS at h
 simp only [Bool.and_eq_true, decide_eq_true_eq, Bool.or_eq_true, List.all_eq_true] at h
 obtain ⟨h1, h2, h3, h4, h5, h6, h7, h8, h9, h10, h11, h12, h13⟩ := h
 refine ⟨h1, h2, h3, h4, h5, ?_, h7, h8, h9, h10, h11, h12, h13⟩
 rcases h6 with h6 | h6
 ·exact .inl h6
 ·right
  cases hk : knownV s.views s.base with
  | none => rw [hk] at h6; cases h6
  | some v => rw [hk] at h6; exact ⟨v, rfl, h6⟩
theorem validVs_len {l : List Vw} (h : validVs l = true) : 0 < l.length ∧ l.length ≤ 2000 := by
 unfold validVs at h
 simp only [Bool.and_eq_true, decide_eq_true_eq] at h
 exact ⟨by omega, h.2.1⟩
theorem ownN_take (l : List Ent) (n : Nat) (o : Int) : ownN (l.take n) o ≤ ownN l o := by
 unfold ownN
 exact List.Sublist.countP_le (List.take_sublist n l)
theorem basedB_len {l : List Ent} {b : Int} (h : basedB l b = true) : l.length ≤ 2000 := by
 unfold basedB at h
 split at h
 ·simp at h; simp [h]
 ·simp only [Bool.and_eq_true] at h
  exact (vlog_inv h.2.1).1
-- SUBMIT
theorem BM.Lies.repend2 {B : Nat} {cs : List Nat} {col col' : Nat → Nat} {w w' : World} {b : BM} (h : b.Lies w B col) (s : Stp B cs col w col' w') (h0 : 0 ∉ cs) (h2 : 2 ∉ cs) (h3 : 3 ∉ cs) (h4 : 4 ∉ cs) {A : Option Addr} {c : Nat} {l : List (List UInt8)} (hr : Row w' A (strE.cells l)) (hc : ColR col' 6 A (strE.cells l)) (n : Int) :
  ({ b with sent := n, Ap := A, cp := c, pend := l } : BM).Lies w' B col' :=
 ⟨(h.vsK s h0).1, (h.vsK s h0).2.1, (h.vsK s h0).2.2, s.own h.log h.lc h2, s.colV h.log h.lc, hr, hc, s.own h.marks h.mc h3, s.colV h.marks h.mc, s.own h.fls h.fc h4, s.colV h.fls h.fc, h.fiK s h0⟩
theorem str1_row (p : List UInt8) (w : World) : Row (w.alloc (.cells #[.string (strB p)] 9)) (some ⟨w.heap.size, 0, none⟩) (strE.cells [p]) := by
 intro _
 refine ⟨w.heap.size, 0, rfl, by simp, fun j q hj => ?_⟩
 simp only [Elem.cells, strE, List.flatMap_cons, List.flatMap_nil, List.append_nil] at hj
 match j, hj with
 | 0, hj => simpa using hj
theorem rowe {w : World} {n m off : Nat} {xs : List Value} (h : Row w (some ⟨m, off, none⟩) xs) (hn : n = m) : Row w (some ⟨n, off, none⟩) xs := by subst hn; exact h
theorem takeL_pay {s : St} {m : Nat} (hl : ∀ e ∈ s.log, e.p.length ≤ m) (hp : ∀ q ∈ s.pend, q.length ≤ m) (j : Nat) : ∀ e ∈ takeL s j, e.p.length ≤ m := by
 intro e he
 unfold takeL at he
 rcases List.mem_append.1 he with he | he
 ·exact hl e he
 ·obtain ⟨i, _, rfl⟩ := List.mem_map.1 he
  simp only [pendAt]
  cases hq : s.pend[((s.pend.length : Int) - 1 - (s.sent - ((ownN s.log s.self : Int) + 1 + (i : Int)))).toNat]? with
  | none => simp
  | some q => exact hp q (List.mem_of_getElem? hq)
theorem str_good {W : World} {v : Value} {l : List (List UInt8)} : ∀ q ∈ l, strE.ok q ∧ ∀ r ∈ strE.inn q, Row W r.1 r.2 ∧ Apt v r := fun _ _ => ⟨trivial, fun r hr => by simp [strE] at hr⟩
set_option maxRecDepth 100000 in
set_option maxHeartbeats 2000000 in
theorem submit_any (b : BM) (pl : List UInt8) (w : World) (h : b.Reads w) (hf : b.Fits) (hpl : pl.length ≤ 1000000) :
  Calls Tryz.prog 12 #[.agg b.cells, .string (strB pl)] w (GivesS w (submitF b.st pl)) := by
 have E0 : Hid (Ext w ((w.alloc (.cells #[.int .i64 b.self, .slice b.Av b.vs.length b.cv, .int .i64 b.base, .slice b.Al b.log.length b.cl, .int .i64 b.stable, .int .i64 b.sent, .slice b.Ap b.pend.length b.cp, .slice b.Am b.marks.length b.cm, .slice b.Af b.fls.length b.cf] 28)).alloc (.cells #[.int .i64 0, .slice none 0 0, .int .i64 0, .slice none 0 0, .int .i64 0, .int .i64 0, .slice none 0 0, .slice none 0 0, .slice none 0 0] 28))) := hJ ((Ext.new _ _).trans (Ext.new _ _))
 have R0 := hJ (h.ext E0.out); have HFT := hJ hf; have HRD := hJ h
 have hsz := strB_size pl
 clear h hf; unfold BM.cells
 by_cases hv : validS b.st = true
 ·obtain ⟨_, hv2, hv3, hv4, hv5, _, hv7, hv8, hv9, hv10, hv11, hv12, _⟩ := validS_inv hv
  by_cases hlim : 6000 < pl.length ∨ b.pend.length = 32 ∨ b.sent = 1099511627776
  ·have HF : Hid (submitF b.st pl = (zeroS, 5)) := hJ (by unfold submitF; rw [if_neg (by rw [hv]; simp)]; exact if_pos hlim)
   have HV := hJ hv
   by_cases h1 : 6000 < pl.length
   ·clear hv hlim hv2 hv3 hv4 hv5 hv7 hv8 hv9 hv10 hv11 hv12
    go_enter Tryz.func12, Tryz.ntmps12
    go_wp2_with fail
    refine (valid12_any b _ R0.out HFT.out).mono ?_
    rintro en w1 ⟨rfl, hx1⟩
    have X1 := hJ hx1
    have BR1 : Hid (BIs w1 (w.heap.size + 1) #[.int .i64 0, .slice none 0 0, .int .i64 0, .slice none 0 0, .int .i64 0, .int .i64 0, .slice none 0 0, .slice none 0 0, .slice none 0 0] 28) := hJ (by have := BIs.ext (BIs.new (w.alloc (.cells #[.int .i64 b.self, .slice b.Av b.vs.length b.cv, .int .i64 b.base, .slice b.Al b.log.length b.cl, .int .i64 b.stable, .int .i64 b.sent, .slice b.Ap b.pend.length b.cp, .slice b.Am b.marks.length b.cm, .slice b.Af b.fls.length b.cf] 28)) #[.int .i64 0, .slice none 0 0, .int .i64 0, .slice none 0 0, .int .i64 0, .int .i64 0, .slice none 0 0, .slice none 0 0, .slice none 0 0] 28) hx1; simpa using this)
    have BP1 : Hid (BIs w1 w.heap.size #[.int .i64 b.self, .slice b.Av b.vs.length b.cv, .int .i64 b.base, .slice b.Al b.log.length b.cl, .int .i64 b.stable, .int .i64 b.sent, .slice b.Ap b.pend.length b.cp, .slice b.Am b.marks.length b.cm, .slice b.Af b.fls.length b.cf] 28) := hJ (((BIs.new w #[.int .i64 b.self, .slice b.Av b.vs.length b.cv, .int .i64 b.base, .slice b.Al b.log.length b.cl, .int .i64 b.stable, .int .i64 b.sent, .slice b.Ap b.pend.length b.cp, .slice b.Am b.marks.length b.cm, .slice b.Af b.fls.length b.cf] 28).ext (Ext.new _ _)).ext hx1)
    clear hx1; obtain ⟨q0, q1, q2, q3, q4, q5, q6, q7, q8⟩ := nine BP1.out
    obtain ⟨y0, y1, y2, y3, y4, y5, y6, y7, y8⟩ := nine BR1.out
    obtain ⟨z0, z1, z2, z3, z4, z5, z6, z7, z8⟩ := BR1.out.free9
    rw [HV.out]
    go_wp2; have BF : Hid (BIs (((((((((w1.setCell ⟨w.heap.size + 1, 0, none⟩ (.int .i64 0)).setCell ⟨w.heap.size + 1, 1, none⟩ (.slice none 0 0)).setCell ⟨w.heap.size + 1, 2, none⟩ (.int .i64 0)).setCell ⟨w.heap.size + 1, 3, none⟩ (.slice none 0 0)).setCell ⟨w.heap.size + 1, 4, none⟩ (.int .i64 0)).setCell ⟨w.heap.size + 1, 5, none⟩ (.int .i64 0)).setCell ⟨w.heap.size + 1, 6, none⟩ (.slice none 0 0)).setCell ⟨w.heap.size + 1, 7, none⟩ (.slice none 0 0)).setCell ⟨w.heap.size + 1, 8, none⟩ (.slice none 0 0)) (w.heap.size + 1) #[.int .i64 0, .slice none 0 0, .int .i64 0, .slice none 0 0, .int .i64 0, .int .i64 0, .slice none 0 0, .slice none 0 0, .slice none 0 0] 28) := hJ (nine_set BR1.out)
    have XFF : Hid (Ext w (((((((((w1.setCell ⟨w.heap.size + 1, 0, none⟩ (.int .i64 0)).setCell ⟨w.heap.size + 1, 1, none⟩ (.slice none 0 0)).setCell ⟨w.heap.size + 1, 2, none⟩ (.int .i64 0)).setCell ⟨w.heap.size + 1, 3, none⟩ (.slice none 0 0)).setCell ⟨w.heap.size + 1, 4, none⟩ (.int .i64 0)).setCell ⟨w.heap.size + 1, 5, none⟩ (.int .i64 0)).setCell ⟨w.heap.size + 1, 6, none⟩ (.slice none 0 0)).setCell ⟨w.heap.size + 1, 7, none⟩ (.slice none 0 0)).setCell ⟨w.heap.size + 1, 8, none⟩ (.slice none 0 0))) := hJ (nine_wrote.ext (E0.out.trans X1.out) (by omega))
    generalize (((((((((w1.setCell ⟨w.heap.size + 1, 0, none⟩ (.int .i64 0)).setCell ⟨w.heap.size + 1, 1, none⟩ (.slice none 0 0)).setCell ⟨w.heap.size + 1, 2, none⟩ (.int .i64 0)).setCell ⟨w.heap.size + 1, 3, none⟩ (.slice none 0 0)).setCell ⟨w.heap.size + 1, 4, none⟩ (.int .i64 0)).setCell ⟨w.heap.size + 1, 5, none⟩ (.int .i64 0)).setCell ⟨w.heap.size + 1, 6, none⟩ (.slice none 0 0)).setCell ⟨w.heap.size + 1, 7, none⟩ (.slice none 0 0)).setCell ⟨w.heap.size + 1, 8, none⟩ (.slice none 0 0)) = W at *
    obtain ⟨e0, e1, e2, e3, e4, e5, e6, e7, e8⟩ := nine BF.out
    refine bodyPost_ret (v := .tuple #[.agg #[.int .i64 0, .slice none 0 0, .int .i64 0, .slice none 0 0, .int .i64 0, .int .i64 0, .slice none 0 0, .slice none 0 0, .slice none 0 0], .int .i64 5]) (by simp [results, Tryz.results12, go_sem, e0, e1, e2, e3, e4, e5, e6, e7, e8]) rfl ?_
    exact gives_zero HF.out XFF.out
   ·by_cases h2 : b.pend.length = 32
    ·have h2' : ((b.pend.length : Int) == 32) = true := by simp [h2]
     have h1' : decide ((6000 : Int) < (pl.length : Int)) = false := by simp; omega
     clear hv hlim hv2 hv3 hv4 hv5 hv7 hv8 hv9 hv10 hv11 hv12 h2; go_enter Tryz.func12, Tryz.ntmps12
     go_wp2_with fail
     refine (valid12_any b _ R0.out HFT.out).mono ?_
     rintro en w1 ⟨rfl, hx1⟩
     have X1 := hJ hx1
     have BR1 : Hid (BIs w1 (w.heap.size + 1) #[.int .i64 0, .slice none 0 0, .int .i64 0, .slice none 0 0, .int .i64 0, .int .i64 0, .slice none 0 0, .slice none 0 0, .slice none 0 0] 28) := hJ (by have := BIs.ext (BIs.new (w.alloc (.cells #[.int .i64 b.self, .slice b.Av b.vs.length b.cv, .int .i64 b.base, .slice b.Al b.log.length b.cl, .int .i64 b.stable, .int .i64 b.sent, .slice b.Ap b.pend.length b.cp, .slice b.Am b.marks.length b.cm, .slice b.Af b.fls.length b.cf] 28)) #[.int .i64 0, .slice none 0 0, .int .i64 0, .slice none 0 0, .int .i64 0, .int .i64 0, .slice none 0 0, .slice none 0 0, .slice none 0 0] 28) hx1; simpa using this)
     have BP1 : Hid (BIs w1 w.heap.size #[.int .i64 b.self, .slice b.Av b.vs.length b.cv, .int .i64 b.base, .slice b.Al b.log.length b.cl, .int .i64 b.stable, .int .i64 b.sent, .slice b.Ap b.pend.length b.cp, .slice b.Am b.marks.length b.cm, .slice b.Af b.fls.length b.cf] 28) := hJ (((BIs.new w #[.int .i64 b.self, .slice b.Av b.vs.length b.cv, .int .i64 b.base, .slice b.Al b.log.length b.cl, .int .i64 b.stable, .int .i64 b.sent, .slice b.Ap b.pend.length b.cp, .slice b.Am b.marks.length b.cm, .slice b.Af b.fls.length b.cf] 28).ext (Ext.new _ _)).ext hx1)
     clear hx1; obtain ⟨q0, q1, q2, q3, q4, q5, q6, q7, q8⟩ := nine BP1.out
     obtain ⟨y0, y1, y2, y3, y4, y5, y6, y7, y8⟩ := nine BR1.out
     obtain ⟨z0, z1, z2, z3, z4, z5, z6, z7, z8⟩ := BR1.out.free9
     rw [HV.out]
     go_wp2; have BF : Hid (BIs (((((((((w1.setCell ⟨w.heap.size + 1, 0, none⟩ (.int .i64 0)).setCell ⟨w.heap.size + 1, 1, none⟩ (.slice none 0 0)).setCell ⟨w.heap.size + 1, 2, none⟩ (.int .i64 0)).setCell ⟨w.heap.size + 1, 3, none⟩ (.slice none 0 0)).setCell ⟨w.heap.size + 1, 4, none⟩ (.int .i64 0)).setCell ⟨w.heap.size + 1, 5, none⟩ (.int .i64 0)).setCell ⟨w.heap.size + 1, 6, none⟩ (.slice none 0 0)).setCell ⟨w.heap.size + 1, 7, none⟩ (.slice none 0 0)).setCell ⟨w.heap.size + 1, 8, none⟩ (.slice none 0 0)) (w.heap.size + 1) #[.int .i64 0, .slice none 0 0, .int .i64 0, .slice none 0 0, .int .i64 0, .int .i64 0, .slice none 0 0, .slice none 0 0, .slice none 0 0] 28) := hJ (nine_set BR1.out)
     have XFF : Hid (Ext w (((((((((w1.setCell ⟨w.heap.size + 1, 0, none⟩ (.int .i64 0)).setCell ⟨w.heap.size + 1, 1, none⟩ (.slice none 0 0)).setCell ⟨w.heap.size + 1, 2, none⟩ (.int .i64 0)).setCell ⟨w.heap.size + 1, 3, none⟩ (.slice none 0 0)).setCell ⟨w.heap.size + 1, 4, none⟩ (.int .i64 0)).setCell ⟨w.heap.size + 1, 5, none⟩ (.int .i64 0)).setCell ⟨w.heap.size + 1, 6, none⟩ (.slice none 0 0)).setCell ⟨w.heap.size + 1, 7, none⟩ (.slice none 0 0)).setCell ⟨w.heap.size + 1, 8, none⟩ (.slice none 0 0))) := hJ (nine_wrote.ext (E0.out.trans X1.out) (by omega))
     generalize (((((((((w1.setCell ⟨w.heap.size + 1, 0, none⟩ (.int .i64 0)).setCell ⟨w.heap.size + 1, 1, none⟩ (.slice none 0 0)).setCell ⟨w.heap.size + 1, 2, none⟩ (.int .i64 0)).setCell ⟨w.heap.size + 1, 3, none⟩ (.slice none 0 0)).setCell ⟨w.heap.size + 1, 4, none⟩ (.int .i64 0)).setCell ⟨w.heap.size + 1, 5, none⟩ (.int .i64 0)).setCell ⟨w.heap.size + 1, 6, none⟩ (.slice none 0 0)).setCell ⟨w.heap.size + 1, 7, none⟩ (.slice none 0 0)).setCell ⟨w.heap.size + 1, 8, none⟩ (.slice none 0 0)) = W at *
     obtain ⟨e0, e1, e2, e3, e4, e5, e6, e7, e8⟩ := nine BF.out
     refine bodyPost_ret (v := .tuple #[.agg #[.int .i64 0, .slice none 0 0, .int .i64 0, .slice none 0 0, .int .i64 0, .int .i64 0, .slice none 0 0, .slice none 0 0, .slice none 0 0], .int .i64 5]) (by simp [results, Tryz.results12, go_sem, e0, e1, e2, e3, e4, e5, e6, e7, e8]) rfl ?_
     exact gives_zero HF.out XFF.out
    ·have h3 : b.sent = 1099511627776 := by rcases hlim with h | h | h; exact absurd h h1; exact absurd h h2; exact h
     have h2' : ((b.pend.length : Int) == 32) = false := by simp; omega
     have h1' : decide ((6000 : Int) < (pl.length : Int)) = false := by simp; omega
     have h3' : (b.sent == 1099511627776) = true := by simpa using h3
     clear hv hlim hv2 hv3 hv4 hv5 hv7 hv8 hv9 hv10 hv11 hv12 h2 h3; go_enter Tryz.func12, Tryz.ntmps12
     go_wp2_with fail
     refine (valid12_any b _ R0.out HFT.out).mono ?_
     rintro en w1 ⟨rfl, hx1⟩
     have X1 := hJ hx1
     have BR1 : Hid (BIs w1 (w.heap.size + 1) #[.int .i64 0, .slice none 0 0, .int .i64 0, .slice none 0 0, .int .i64 0, .int .i64 0, .slice none 0 0, .slice none 0 0, .slice none 0 0] 28) := hJ (by have := BIs.ext (BIs.new (w.alloc (.cells #[.int .i64 b.self, .slice b.Av b.vs.length b.cv, .int .i64 b.base, .slice b.Al b.log.length b.cl, .int .i64 b.stable, .int .i64 b.sent, .slice b.Ap b.pend.length b.cp, .slice b.Am b.marks.length b.cm, .slice b.Af b.fls.length b.cf] 28)) #[.int .i64 0, .slice none 0 0, .int .i64 0, .slice none 0 0, .int .i64 0, .int .i64 0, .slice none 0 0, .slice none 0 0, .slice none 0 0] 28) hx1; simpa using this)
     have BP1 : Hid (BIs w1 w.heap.size #[.int .i64 b.self, .slice b.Av b.vs.length b.cv, .int .i64 b.base, .slice b.Al b.log.length b.cl, .int .i64 b.stable, .int .i64 b.sent, .slice b.Ap b.pend.length b.cp, .slice b.Am b.marks.length b.cm, .slice b.Af b.fls.length b.cf] 28) := hJ (((BIs.new w #[.int .i64 b.self, .slice b.Av b.vs.length b.cv, .int .i64 b.base, .slice b.Al b.log.length b.cl, .int .i64 b.stable, .int .i64 b.sent, .slice b.Ap b.pend.length b.cp, .slice b.Am b.marks.length b.cm, .slice b.Af b.fls.length b.cf] 28).ext (Ext.new _ _)).ext hx1)
     clear hx1; obtain ⟨q0, q1, q2, q3, q4, q5, q6, q7, q8⟩ := nine BP1.out
     obtain ⟨y0, y1, y2, y3, y4, y5, y6, y7, y8⟩ := nine BR1.out
     obtain ⟨z0, z1, z2, z3, z4, z5, z6, z7, z8⟩ := BR1.out.free9
     rw [HV.out]
     go_wp2; have BF : Hid (BIs (((((((((w1.setCell ⟨w.heap.size + 1, 0, none⟩ (.int .i64 0)).setCell ⟨w.heap.size + 1, 1, none⟩ (.slice none 0 0)).setCell ⟨w.heap.size + 1, 2, none⟩ (.int .i64 0)).setCell ⟨w.heap.size + 1, 3, none⟩ (.slice none 0 0)).setCell ⟨w.heap.size + 1, 4, none⟩ (.int .i64 0)).setCell ⟨w.heap.size + 1, 5, none⟩ (.int .i64 0)).setCell ⟨w.heap.size + 1, 6, none⟩ (.slice none 0 0)).setCell ⟨w.heap.size + 1, 7, none⟩ (.slice none 0 0)).setCell ⟨w.heap.size + 1, 8, none⟩ (.slice none 0 0)) (w.heap.size + 1) #[.int .i64 0, .slice none 0 0, .int .i64 0, .slice none 0 0, .int .i64 0, .int .i64 0, .slice none 0 0, .slice none 0 0, .slice none 0 0] 28) := hJ (nine_set BR1.out)
     have XFF : Hid (Ext w (((((((((w1.setCell ⟨w.heap.size + 1, 0, none⟩ (.int .i64 0)).setCell ⟨w.heap.size + 1, 1, none⟩ (.slice none 0 0)).setCell ⟨w.heap.size + 1, 2, none⟩ (.int .i64 0)).setCell ⟨w.heap.size + 1, 3, none⟩ (.slice none 0 0)).setCell ⟨w.heap.size + 1, 4, none⟩ (.int .i64 0)).setCell ⟨w.heap.size + 1, 5, none⟩ (.int .i64 0)).setCell ⟨w.heap.size + 1, 6, none⟩ (.slice none 0 0)).setCell ⟨w.heap.size + 1, 7, none⟩ (.slice none 0 0)).setCell ⟨w.heap.size + 1, 8, none⟩ (.slice none 0 0))) := hJ (nine_wrote.ext (E0.out.trans X1.out) (by omega))
     generalize (((((((((w1.setCell ⟨w.heap.size + 1, 0, none⟩ (.int .i64 0)).setCell ⟨w.heap.size + 1, 1, none⟩ (.slice none 0 0)).setCell ⟨w.heap.size + 1, 2, none⟩ (.int .i64 0)).setCell ⟨w.heap.size + 1, 3, none⟩ (.slice none 0 0)).setCell ⟨w.heap.size + 1, 4, none⟩ (.int .i64 0)).setCell ⟨w.heap.size + 1, 5, none⟩ (.int .i64 0)).setCell ⟨w.heap.size + 1, 6, none⟩ (.slice none 0 0)).setCell ⟨w.heap.size + 1, 7, none⟩ (.slice none 0 0)).setCell ⟨w.heap.size + 1, 8, none⟩ (.slice none 0 0)) = W at *
     obtain ⟨e0, e1, e2, e3, e4, e5, e6, e7, e8⟩ := nine BF.out
     refine bodyPost_ret (v := .tuple #[.agg #[.int .i64 0, .slice none 0 0, .int .i64 0, .slice none 0 0, .int .i64 0, .int .i64 0, .slice none 0 0, .slice none 0 0, .slice none 0 0], .int .i64 5]) (by simp [results, Tryz.results12, go_sem, e0, e1, e2, e3, e4, e5, e6, e7, e8]) rfl ?_
     exact gives_zero HF.out XFF.out
  ·have h1 : ¬ 6000 < pl.length := fun h => hlim (.inl h)
   have h2 : ¬ b.pend.length = 32 := fun h => hlim (.inr (.inl h))
   have h3 : ¬ b.sent = 1099511627776 := fun h => hlim (.inr (.inr h))
   have HV := hJ hv
   have HS : Hid (submitF b.st pl = (if openB { b.st with sent := b.sent + 1, pend := b.pend ++ [pl] } && leadB { b.st with sent := b.sent + 1, pend := b.pend ++ [pl] } then takeF { b.st with sent := b.sent + 1, pend := b.pend ++ [pl] } else { b.st with sent := b.sent + 1, pend := b.pend ++ [pl] }, 0)) := hJ (by unfold submitF; rw [if_neg (by rw [hv]; simp)]; exact if_neg hlim)
   have h1' : decide ((6000 : Int) < (pl.length : Int)) = false := by simp; omega
   have h2' : ((b.pend.length : Int) == 32) = false := by simp; omega
   have h3' : (b.sent == 1099511627776) = false := by simpa using h3
   have hvl : 0 < b.vs.length := by have := (validVs_len hv2).1; simpa [BM.st, vws_len] using this
   have hlg : b.log.length ≤ 2000 := basedB_len hv5
   have hot := ownN_take b.st.log b.st.stable.toNat b.st.self
   simp only [BM.st] at hv3 hv4 hv7 hv8 hv9 hv10 hv11 hv12 hot
   have HN3 := hJ h3
   have HALL := hJ (And.intro hv3 (And.intro hv4 (And.intro hv7 (And.intro hv8 (And.intro hv9 (And.intro hv10 (And.intro hv11 (And.intro hv12 hot))))))))
   clear hv hlim hv2 hv5 h2 h3 hv3 hv4 hv7 hv8 hv9 hv10 hv11 hv12 hot; go_enter Tryz.func12, Tryz.ntmps12
   go_wp2_with fail
   refine (valid12_any b _ R0.out HFT.out).mono ?_
   rintro en w1 ⟨rfl, hx1⟩
   have X1 := hJ hx1
   have BR1 : Hid (BIs w1 (w.heap.size + 1) #[.int .i64 0, .slice none 0 0, .int .i64 0, .slice none 0 0, .int .i64 0, .int .i64 0, .slice none 0 0, .slice none 0 0, .slice none 0 0] 28) := hJ (by have := BIs.ext (BIs.new (w.alloc (.cells #[.int .i64 b.self, .slice b.Av b.vs.length b.cv, .int .i64 b.base, .slice b.Al b.log.length b.cl, .int .i64 b.stable, .int .i64 b.sent, .slice b.Ap b.pend.length b.cp, .slice b.Am b.marks.length b.cm, .slice b.Af b.fls.length b.cf] 28)) #[.int .i64 0, .slice none 0 0, .int .i64 0, .slice none 0 0, .int .i64 0, .int .i64 0, .slice none 0 0, .slice none 0 0, .slice none 0 0] 28) hx1; simpa using this)
   have BP1 : Hid (BIs w1 w.heap.size #[.int .i64 b.self, .slice b.Av b.vs.length b.cv, .int .i64 b.base, .slice b.Al b.log.length b.cl, .int .i64 b.stable, .int .i64 b.sent, .slice b.Ap b.pend.length b.cp, .slice b.Am b.marks.length b.cm, .slice b.Af b.fls.length b.cf] 28) := hJ (((BIs.new w #[.int .i64 b.self, .slice b.Av b.vs.length b.cv, .int .i64 b.base, .slice b.Al b.log.length b.cl, .int .i64 b.stable, .int .i64 b.sent, .slice b.Ap b.pend.length b.cp, .slice b.Am b.marks.length b.cm, .slice b.Af b.fls.length b.cf] 28).ext (Ext.new _ _)).ext hx1)
   clear hx1; obtain ⟨q0, q1, q2, q3, q4, q5, q6, q7, q8⟩ := nine BP1.out
   obtain ⟨y0, y1, y2, y3, y4, y5, y6, y7, y8⟩ := nine BR1.out
   obtain ⟨z0, z1, z2, z3, z4, z5, z6, z7, z8⟩ := BR1.out.free9
   rw [HV.out]
   have hp12 : Hid (w.heap.size + 1 < w1.heap.size) := hJ BR1.out.lt
   go_wp2_with fail
   refine (clone_any b w1 (R0.out.ext X1.out) HFT.out).mono ?_
   rintro en w2 ⟨b', col, rfl, hst', hft', hli, hc8, hpo, hpc, hx2⟩
   have L2 := hJ hli; have X2 := hJ hx2; have HC8 := hJ hc8; have HPO := hJ hpo; have HPC := hJ hpc; have HST := hJ hst'; have HFT' := hJ hft'
   obtain ⟨self, base, stable, sent, Av, cv, vs, Al, cl, log, Ap, cp, pend, Am, cm, marks, Af, cf, fls⟩ := b'
   have HEQ : Hid (self = b.self ∧ sent = b.sent ∧ pend = b.pend ∧ log = b.log ∧ vs.length = b.vs.length ∧ stable = b.stable) := hJ (by
    have h := hst'
    simp only [BM.st, St.mk.injEq] at h
    obtain ⟨e1, e2, e3, e4, e5, e6, e7, e8, e9⟩ := h
    exact ⟨e1, e6, e7, e4, by rw [← vws_len, e2, vws_len], e5⟩)
   clear hli hx2 hc8 hpo hpc hst' hft'; have hws : IntKind.i64.wrap (sent + 1) = sent + 1 := IntWalk.i64_in _ (by have := HALL.out; have := HEQ.out; omega)
   unfold BM.cells
   simp only at HPO HPC
   go_wp2_with (first
    | (at_builtin; refine push_e strE rfl (.tmp 35) (.tmp 37) rfl _ w1.heap.size _ pend (by rfl) _ 1 1 [pl] (by rfl) rfl (by exact rowe (str1_row pl _) (by simp)) (by exact ⟨HPO.out.ext ((Ext.new _ _).trans (Ext.new _ _)), fun _ _ => ⟨trivial, fun r hr => by simp [strE] at hr⟩⟩) str_good (by have := HALL.out; have := HEQ.out; have h9 := congrArg List.length this.2.2.1; omega) (by have := X2.out.size; simp; omega) ?_; intro v5 w5 ho5 hg5 hs5; obtain ⟨ND, hnd⟩ : ∃ l, l = pend ++ [pl] := ⟨_, rfl⟩; rw [← hnd] at ho5; have HND := hJ hnd; clear hnd; obtain ⟨A5, c5, rfl, h51, h52, _⟩ := ho5.slice; have BX5 : Hid (BIs w5 w2.heap.size #[.int .i64 self, .slice Av vs.length cv, .int .i64 base, .slice Al log.length cl, .int .i64 stable, .int .i64 (sent + 1), .slice Ap pend.length cp, .slice Am marks.length cm, .slice Af fls.length cf] 28) := hJ (((BIs.new w2 _ _).ext (Ext.new _ _)).same (hg5.block w2.heap.size (by simp; omega) (fun e => by have := (HPO.out.lt _ e.symm).2; omega))); obtain ⟨u0, u1, u2, u3, u4, u5, u6, u7, u8⟩ := nine BX5.out; have f6 := BX5.out.free 6))
   have hlt2 : Hid (w1.heap.size ≤ w2.heap.size) := hJ X2.out.size
   have W56 : Hid (Wrote w2.heap.size w5 (w5.setCell ⟨w2.heap.size, 6, none⟩ (.slice A5 ND.length c5))) := hJ (Wrote.set _ _ _ _)
   have BX6 : Hid (BIs (w5.setCell ⟨w2.heap.size, 6, none⟩ (.slice A5 ND.length c5)) w2.heap.size (⟨self, base, stable, sent + 1, Av, cv, vs, Al, cl, log, A5, c5, ND, Am, cm, marks, Af, cf, fls⟩ : BM).cells 28) := hJ (BX5.out.set 6 _)
   have HCV : Hid (ColV (paint (paint col w2.heap.size 1) (w2.heap.size + 1) 6) 6 (.slice A5 ND.length c5)) := hJ (by
    intro q hq
    rcases hs5 with h | ⟨k, hk, hle⟩
    ·rw [h] at hq
     have hlt := (HPO.out.lt q hq).2
     rw [paint_old (by omega), paint_old hlt]; exact HPC.out q hq
    ·rw [hk] at hq; cases hq
     simp at hle
     exact paint_new (by omega))
   have hq1 : Hid ((paint (paint col w2.heap.size 1) (w2.heap.size + 1) 6) w2.heap.size = 1) := hJ (by rw [paint_old (by omega), paint_new (Nat.le_refl _)])
   have S5 : Hid (Stp w1.heap.size [1, 6] col w2 (paint (paint col w2.heap.size 1) (w2.heap.size + 1) 6) w5) := hJ (by
    refine (Stp.ext (cs := [1, 6]) hlt2.out ((Ext.new _ _).trans (Ext.new _ _)) (fun k hk => by rw [paint_old (by omega), paint_old hk])).trans (Stp.grew hg5 (by simp; have := hlt2.out; omega) (fun k hk => (HPO.out.lt k hk).1) (c := 6) (fun q hq => ?_) (by simp))
    have hlt := (HPO.out.lt q hq).2
    rw [paint_old (by omega), paint_old hlt]; exact HPC.out q hq)
   have HO5 := hJ ho5
   clear u0 u1 u2 u3 u4 u5 u6 u7 u8 f6 hs5 hg5 ho5; generalize w5.setCell ⟨w2.heap.size, 6, none⟩ (.slice A5 ND.length c5) = w6 at *
   have S6 : Hid (Stp w1.heap.size [1, 6] col w2 (paint (paint col w2.heap.size 1) (w2.heap.size + 1) 6) w6) := hJ (S5.out.trans (Stp.wrote W56.out hlt2.out (Nat.le_trans hlt2.out S5.out.size) (by rw [hq1.out]; simp)))
   have HO6 : Hid (strE.Own w6 w1.heap.size (.slice A5 ND.length c5) ND) := hJ (HO5.out.1.keep fun q hq hlt => W56.out.blk hlt (fun e => by subst e; have := HCV.out _ hq; rw [hq1.out] at this; cases this))
   have L6 : Hid ((⟨self, base, stable, sent + 1, Av, cv, vs, Al, cl, log, A5, c5, ND, Am, cm, marks, Af, cf, fls⟩ : BM).Lies w6 w1.heap.size (paint (paint col w2.heap.size 1) (w2.heap.size + 1) 6)) := hJ (L2.out.repend2 S6.out (by simp) (by simp) (by simp) (by simp) HO6.out.row (HCV.out.row HO6.out) (sent + 1))
   have HF6 : Hid ((⟨self, base, stable, sent + 1, Av, cv, vs, Al, cl, log, A5, c5, ND, Am, cm, marks, Af, cf, fls⟩ : BM).Fits) := hJ (by
    have hf := HFT'.out
    refine ⟨hf.vs, hf.vx, hf.log, hf.lp, ?_, fun q hq => ?_, hf.marks, hf.fls, hf.fl, hf.cl⟩
    ·have := hf.pend; rw [HND.out]; simp at this ⊢; have := HALL.out; have := HEQ.out; have h9 := congrArg List.length this.2.2.1; omega
    ·simp only at hq
     rw [HND.out] at hq
     rcases List.mem_append.1 hq with hq | hq
     ·exact hf.pp q hq
     ·simp only [List.mem_cons, List.not_mem_nil, or_false] at hq; subst hq; exact hpl)
   have HST6 : Hid ((⟨self, base, stable, sent + 1, Av, cv, vs, Al, cl, log, A5, c5, ND, Am, cm, marks, Af, cf, fls⟩ : BM).st = { b.st with sent := b.sent + 1, pend := b.pend ++ [pl] }) := hJ (by
    have h := HST.out
    simp only [BM.st, St.mk.injEq] at h ⊢
    obtain ⟨e1, e2, e3, e4, e5, e6, e7, e8, e9⟩ := h
    exact ⟨e1, e2, e3, e4, e5, by rw [e6], by rw [HND.out, e7], e8, e9⟩)
   have BR6 : Hid (BIs w6 (w.heap.size + 1) #[.int .i64 0, .slice none 0 0, .int .i64 0, .slice none 0 0, .int .i64 0, .int .i64 0, .slice none 0 0, .slice none 0 0, .slice none 0 0] 28) := hJ (S6.out.bis (BR1.out.ext X2.out) (by rw [HC8.out _ hp12.out]; simp))
   have hvs6 : 0 < vs.length := by have := HEQ.out.2.2.2.2.1; omega
   refine (open_any ⟨self, base, stable, sent + 1, Av, cv, vs, Al, cl, log, A5, c5, ND, Am, cm, marks, Af, cf, fls⟩ w6 L6.out.reads hvs6 HF6.out).mono ?_
   rintro en w7 ⟨rfl, hx7⟩
   rw [HST6.out]
   have X7 := hJ hx7
   have BX7 := hJ (BX6.out.ext hx7)
   have L7 : Hid ((⟨self, base, stable, sent + 1, Av, cv, vs, Al, cl, log, A5, c5, ND, Am, cm, marks, Af, cf, fls⟩ : BM).Lies w7 w1.heap.size (paint (paint col w2.heap.size 1) (w2.heap.size + 1) 6)) := hJ (L6.out.ext hx7 (fun _ _ => rfl))
   have BR7 := hJ (BR6.out.ext hx7)
   have XW7 : Hid (Ext w w7) := hJ (Ext.trans (show Ext w w6 from Below.trans ((E0.out.trans X1.out).trans X2.out) (S6.out.below.mono (by have := hp12.out; omega))) hx7)
   clear hx7; cases hop : openB { b.st with sent := b.sent + 1, pend := b.pend ++ [pl] } with
   | false =>
    have HR : Hid (submitF b.st pl = ({ b.st with sent := b.sent + 1, pend := b.pend ++ [pl] }, 0)) := hJ (by rw [HS.out, hop]; rfl)
    obtain ⟨u0, u1, u2, u3, u4, u5, u6, u7, u8⟩ := nine BX7.out
    obtain ⟨y0, y1, y2, y3, y4, y5, y6, y7, y8⟩ := nine BR7.out
    obtain ⟨z0, z1, z2, z3, z4, z5, z6, z7, z8⟩ := BR7.out.free9
    go_wp2; have BF : Hid (BIs (((((((((w7.setCell ⟨w.heap.size + 1, 0, none⟩ (.int .i64 self)).setCell ⟨w.heap.size + 1, 1, none⟩ (.slice Av vs.length cv)).setCell ⟨w.heap.size + 1, 2, none⟩ (.int .i64 base)).setCell ⟨w.heap.size + 1, 3, none⟩ (.slice Al log.length cl)).setCell ⟨w.heap.size + 1, 4, none⟩ (.int .i64 stable)).setCell ⟨w.heap.size + 1, 5, none⟩ (.int .i64 (sent + 1))).setCell ⟨w.heap.size + 1, 6, none⟩ (.slice A5 ND.length c5)).setCell ⟨w.heap.size + 1, 7, none⟩ (.slice Am marks.length cm)).setCell ⟨w.heap.size + 1, 8, none⟩ (.slice Af fls.length cf)) (w.heap.size + 1) #[.int .i64 self, .slice Av vs.length cv, .int .i64 base, .slice Al log.length cl, .int .i64 stable, .int .i64 (sent + 1), .slice A5 ND.length c5, .slice Am marks.length cm, .slice Af fls.length cf] 28) := hJ (nine_set BR7.out)
    have XFF : Hid (Ext w (((((((((w7.setCell ⟨w.heap.size + 1, 0, none⟩ (.int .i64 self)).setCell ⟨w.heap.size + 1, 1, none⟩ (.slice Av vs.length cv)).setCell ⟨w.heap.size + 1, 2, none⟩ (.int .i64 base)).setCell ⟨w.heap.size + 1, 3, none⟩ (.slice Al log.length cl)).setCell ⟨w.heap.size + 1, 4, none⟩ (.int .i64 stable)).setCell ⟨w.heap.size + 1, 5, none⟩ (.int .i64 (sent + 1))).setCell ⟨w.heap.size + 1, 6, none⟩ (.slice A5 ND.length c5)).setCell ⟨w.heap.size + 1, 7, none⟩ (.slice Am marks.length cm)).setCell ⟨w.heap.size + 1, 8, none⟩ (.slice Af fls.length cf))) := hJ (nine_wrote.ext XW7.out (by omega))
    have LF : Hid ((⟨self, base, stable, sent + 1, Av, cv, vs, Al, cl, log, A5, c5, ND, Am, cm, marks, Af, cf, fls⟩ : BM).Lies (((((((((w7.setCell ⟨w.heap.size + 1, 0, none⟩ (.int .i64 self)).setCell ⟨w.heap.size + 1, 1, none⟩ (.slice Av vs.length cv)).setCell ⟨w.heap.size + 1, 2, none⟩ (.int .i64 base)).setCell ⟨w.heap.size + 1, 3, none⟩ (.slice Al log.length cl)).setCell ⟨w.heap.size + 1, 4, none⟩ (.int .i64 stable)).setCell ⟨w.heap.size + 1, 5, none⟩ (.int .i64 (sent + 1))).setCell ⟨w.heap.size + 1, 6, none⟩ (.slice A5 ND.length c5)).setCell ⟨w.heap.size + 1, 7, none⟩ (.slice Am marks.length cm)).setCell ⟨w.heap.size + 1, 8, none⟩ (.slice Af fls.length cf)) w.heap.size (paint (paint col w2.heap.size 1) (w2.heap.size + 1) 6)) := hJ ((L7.out.base (by have := hp12.out; omega)).keep (cs := [8]) (Stp.wrote nine_wrote (by omega) (by have := XW7.out.size; omega) (by have h1 := hp12.out; have h2 := hlt2.out; rw [paint_old (by omega), paint_old (by omega), HC8.out _ h1]; simp)) (by simp) (by simp) (by simp) (by simp) (by simp))
    generalize (((((((((w7.setCell ⟨w.heap.size + 1, 0, none⟩ (.int .i64 self)).setCell ⟨w.heap.size + 1, 1, none⟩ (.slice Av vs.length cv)).setCell ⟨w.heap.size + 1, 2, none⟩ (.int .i64 base)).setCell ⟨w.heap.size + 1, 3, none⟩ (.slice Al log.length cl)).setCell ⟨w.heap.size + 1, 4, none⟩ (.int .i64 stable)).setCell ⟨w.heap.size + 1, 5, none⟩ (.int .i64 (sent + 1))).setCell ⟨w.heap.size + 1, 6, none⟩ (.slice A5 ND.length c5)).setCell ⟨w.heap.size + 1, 7, none⟩ (.slice Am marks.length cm)).setCell ⟨w.heap.size + 1, 8, none⟩ (.slice Af fls.length cf)) = W at *
    obtain ⟨e0, e1, e2, e3, e4, e5, e6, e7, e8⟩ := nine BF.out
    refine bodyPost_ret (v := .tuple #[.agg #[.int .i64 self, .slice Av vs.length cv, .int .i64 base, .slice Al log.length cl, .int .i64 stable, .int .i64 (sent + 1), .slice A5 ND.length c5, .slice Am marks.length cm, .slice Af fls.length cf], .int .i64 0]) (by simp [results, Tryz.results12, go_sem, e0, e1, e2, e3, e4, e5, e6, e7, e8]) rfl ?_
    rw [HR.out]
    exact ⟨⟨self, base, stable, sent + 1, Av, cv, vs, Al, cl, log, A5, c5, ND, Am, cm, marks, Af, cf, fls⟩, rfl, HST6.out, LF.out.reads, HF6.out, XFF.out, LF.out.new (fun k hk => by have h1 := hp12.out; have h2 := hlt2.out; rw [paint_old (by omega), paint_old (by omega)]; exact HC8.out k (by omega))⟩
   | true =>
    obtain ⟨u0, u1, u2, u3, u4, u5, u6, u7, u8⟩ := nine BX7.out
    go_wp2_with fail
    refine (leads_any ⟨self, base, stable, sent + 1, Av, cv, vs, Al, cl, log, A5, c5, ND, Am, cm, marks, Af, cf, fls⟩ w7 L7.out.reads hvs6 HF6.out).mono ?_
    rintro en w8 ⟨rfl, hx8⟩
    rw [HST6.out]
    have BX8 := hJ (BX7.out.ext hx8)
    have L8 : Hid ((⟨self, base, stable, sent + 1, Av, cv, vs, Al, cl, log, A5, c5, ND, Am, cm, marks, Af, cf, fls⟩ : BM).Lies w8 w1.heap.size (paint (paint col w2.heap.size 1) (w2.heap.size + 1) 6)) := hJ (L7.out.ext hx8 (fun _ _ => rfl))
    have BR8 := hJ (BR7.out.ext hx8)
    have XW8 : Hid (Ext w w8) := hJ (XW7.out.trans hx8)
    clear hx8 u0 u1 u2 u3 u4 u5 u6 u7 u8; cases hle : leadB { b.st with sent := b.sent + 1, pend := b.pend ++ [pl] } with
    | false =>
     have HR : Hid (submitF b.st pl = ({ b.st with sent := b.sent + 1, pend := b.pend ++ [pl] }, 0)) := hJ (by rw [HS.out, hop, hle]; rfl)
     obtain ⟨u0, u1, u2, u3, u4, u5, u6, u7, u8⟩ := nine BX8.out
     obtain ⟨y0, y1, y2, y3, y4, y5, y6, y7, y8⟩ := nine BR8.out
     obtain ⟨z0, z1, z2, z3, z4, z5, z6, z7, z8⟩ := BR8.out.free9
     go_wp2; have BF : Hid (BIs (((((((((w8.setCell ⟨w.heap.size + 1, 0, none⟩ (.int .i64 self)).setCell ⟨w.heap.size + 1, 1, none⟩ (.slice Av vs.length cv)).setCell ⟨w.heap.size + 1, 2, none⟩ (.int .i64 base)).setCell ⟨w.heap.size + 1, 3, none⟩ (.slice Al log.length cl)).setCell ⟨w.heap.size + 1, 4, none⟩ (.int .i64 stable)).setCell ⟨w.heap.size + 1, 5, none⟩ (.int .i64 (sent + 1))).setCell ⟨w.heap.size + 1, 6, none⟩ (.slice A5 ND.length c5)).setCell ⟨w.heap.size + 1, 7, none⟩ (.slice Am marks.length cm)).setCell ⟨w.heap.size + 1, 8, none⟩ (.slice Af fls.length cf)) (w.heap.size + 1) #[.int .i64 self, .slice Av vs.length cv, .int .i64 base, .slice Al log.length cl, .int .i64 stable, .int .i64 (sent + 1), .slice A5 ND.length c5, .slice Am marks.length cm, .slice Af fls.length cf] 28) := hJ (nine_set BR8.out)
     have XFF : Hid (Ext w (((((((((w8.setCell ⟨w.heap.size + 1, 0, none⟩ (.int .i64 self)).setCell ⟨w.heap.size + 1, 1, none⟩ (.slice Av vs.length cv)).setCell ⟨w.heap.size + 1, 2, none⟩ (.int .i64 base)).setCell ⟨w.heap.size + 1, 3, none⟩ (.slice Al log.length cl)).setCell ⟨w.heap.size + 1, 4, none⟩ (.int .i64 stable)).setCell ⟨w.heap.size + 1, 5, none⟩ (.int .i64 (sent + 1))).setCell ⟨w.heap.size + 1, 6, none⟩ (.slice A5 ND.length c5)).setCell ⟨w.heap.size + 1, 7, none⟩ (.slice Am marks.length cm)).setCell ⟨w.heap.size + 1, 8, none⟩ (.slice Af fls.length cf))) := hJ (nine_wrote.ext XW8.out (by omega))
     have LF : Hid ((⟨self, base, stable, sent + 1, Av, cv, vs, Al, cl, log, A5, c5, ND, Am, cm, marks, Af, cf, fls⟩ : BM).Lies (((((((((w8.setCell ⟨w.heap.size + 1, 0, none⟩ (.int .i64 self)).setCell ⟨w.heap.size + 1, 1, none⟩ (.slice Av vs.length cv)).setCell ⟨w.heap.size + 1, 2, none⟩ (.int .i64 base)).setCell ⟨w.heap.size + 1, 3, none⟩ (.slice Al log.length cl)).setCell ⟨w.heap.size + 1, 4, none⟩ (.int .i64 stable)).setCell ⟨w.heap.size + 1, 5, none⟩ (.int .i64 (sent + 1))).setCell ⟨w.heap.size + 1, 6, none⟩ (.slice A5 ND.length c5)).setCell ⟨w.heap.size + 1, 7, none⟩ (.slice Am marks.length cm)).setCell ⟨w.heap.size + 1, 8, none⟩ (.slice Af fls.length cf)) w.heap.size (paint (paint col w2.heap.size 1) (w2.heap.size + 1) 6)) := hJ ((L8.out.base (by have := hp12.out; omega)).keep (cs := [8]) (Stp.wrote nine_wrote (by omega) (by have := XW8.out.size; omega) (by have h1 := hp12.out; have h2 := hlt2.out; rw [paint_old (by omega), paint_old (by omega), HC8.out _ h1]; simp)) (by simp) (by simp) (by simp) (by simp) (by simp))
     generalize (((((((((w8.setCell ⟨w.heap.size + 1, 0, none⟩ (.int .i64 self)).setCell ⟨w.heap.size + 1, 1, none⟩ (.slice Av vs.length cv)).setCell ⟨w.heap.size + 1, 2, none⟩ (.int .i64 base)).setCell ⟨w.heap.size + 1, 3, none⟩ (.slice Al log.length cl)).setCell ⟨w.heap.size + 1, 4, none⟩ (.int .i64 stable)).setCell ⟨w.heap.size + 1, 5, none⟩ (.int .i64 (sent + 1))).setCell ⟨w.heap.size + 1, 6, none⟩ (.slice A5 ND.length c5)).setCell ⟨w.heap.size + 1, 7, none⟩ (.slice Am marks.length cm)).setCell ⟨w.heap.size + 1, 8, none⟩ (.slice Af fls.length cf)) = W at *
     obtain ⟨e0, e1, e2, e3, e4, e5, e6, e7, e8⟩ := nine BF.out
     refine bodyPost_ret (v := .tuple #[.agg #[.int .i64 self, .slice Av vs.length cv, .int .i64 base, .slice Al log.length cl, .int .i64 stable, .int .i64 (sent + 1), .slice A5 ND.length c5, .slice Am marks.length cm, .slice Af fls.length cf], .int .i64 0]) (by simp [results, Tryz.results12, go_sem, e0, e1, e2, e3, e4, e5, e6, e7, e8]) rfl ?_
     rw [HR.out]
     exact ⟨⟨self, base, stable, sent + 1, Av, cv, vs, Al, cl, log, A5, c5, ND, Am, cm, marks, Af, cf, fls⟩, rfl, HST6.out, LF.out.reads, HF6.out, XFF.out, LF.out.new (fun k hk => by have h1 := hp12.out; have h2 := hlt2.out; rw [paint_old (by omega), paint_old (by omega)]; exact HC8.out k (by omega))⟩
    | true =>
     have HR : Hid (submitF b.st pl = (takeF { b.st with sent := b.sent + 1, pend := b.pend ++ [pl] }, 0)) := hJ (by rw [HS.out, hop, hle]; rfl)
     have hnl : Hid (ND.length = b.pend.length + 1) := hJ (by rw [HND.out, HEQ.out.2.2.1]; simp)
     go_wp2_with fail
     refine (take_any ⟨self, base, stable, sent + 1, Av, cv, vs, Al, cl, log, A5, c5, ND, Am, cm, marks, Af, cf, fls⟩ #[] 28 w2.heap.size w1.heap.size _ w8 (by rw [Array.append_empty]; exact BX8.out) hq1.out hlt2.out L8.out HF6.out ?_ ?_ ?_ ?_).mono ?_
     ·have := HALL.out; have := HEQ.out; simp only; rw [this.2.2.2.1, this.1]; omega
     ·have := HALL.out; have := HEQ.out; have := HN3.out; simp only; omega
     ·have := HALL.out; have := HEQ.out; have := hnl.out; simp only; rw [HEQ.out.2.2.2.1, HEQ.out.1]; omega
     ·have := HEQ.out; simp only; rw [this.2.2.2.1]; exact hlg
     rintro en w9 ⟨A9, c9, rfl, hb9, ho9, hc9, hs9⟩
     rw [HST6.out] at hb9 ho9 hc9
     obtain ⟨TL, htl⟩ : ∃ l, l = takeL { b.st with sent := b.sent + 1, pend := b.pend ++ [pl] } (takeN { b.st with sent := b.sent + 1, pend := b.pend ++ [pl] }) := ⟨_, rfl⟩
     rw [← htl] at hb9 ho9 hc9
     have HTL := hJ htl
     rw [Array.append_empty] at hb9
     have BX9 : Hid (BIs w9 w2.heap.size (⟨self, base, stable, sent + 1, Av, cv, vs, A9, c9, TL, A5, c5, ND, Am, cm, marks, Af, cf, fls⟩ : BM).cells 28) := hJ hb9
     have S9 := hJ hs9
     have L9 : Hid ((⟨self, base, stable, sent + 1, Av, cv, vs, A9, c9, TL, A5, c5, ND, Am, cm, marks, Af, cf, fls⟩ : BM).Lies w9 w1.heap.size (paint (paint (paint col w2.heap.size 1) (w2.heap.size + 1) 6) w8.heap.size 2)) := hJ (L8.out.relog hs9 (by simp) (by simp) (by simp) (by simp) ho9 hc9)
     have BR9 : Hid (BIs w9 (w.heap.size + 1) #[.int .i64 0, .slice none 0 0, .int .i64 0, .slice none 0 0, .int .i64 0, .int .i64 0, .slice none 0 0, .slice none 0 0, .slice none 0 0] 28) := hJ (hs9.bis BR8.out (by have h1 := hp12.out; have h2 := hlt2.out; rw [paint_old (by omega), paint_old (by omega), HC8.out _ h1]; simp))
     have XW9 : Hid (Ext w w9) := hJ (Below.trans XW8.out (hs9.below.mono (by have := hp12.out; omega)))
     have HF9 : Hid ((⟨self, base, stable, sent + 1, Av, cv, vs, A9, c9, TL, A5, c5, ND, Am, cm, marks, Af, cf, fls⟩ : BM).Fits) := hJ (by
      have hf := HF6.out
      obtain ⟨A', c', hv', h1, h2, _⟩ := ho9.slice
      simp only [Value.slice.injEq] at hv'
      refine ⟨hf.vs, hf.vx, ?_, fun e he => ?_, hf.pend, hf.pp, hf.marks, hf.fls, hf.fl, ?_⟩
      ·simp only; rw [HTL.out, takeL_len]; unfold takeN; simp only [BM.st]; omega
      ·simp only at he; rw [HTL.out] at he
       exact takeL_pay (s := { b.st with sent := b.sent + 1, pend := b.pend ++ [pl] }) (HFT.out.lp) (fun q hq => by rcases List.mem_append.1 hq with hq | hq; exact HFT.out.pp q hq; simp only [List.mem_cons, List.not_mem_nil, or_false] at hq; subst hq; exact hpl) _ e he
      ·exact ⟨by simp only; omega, by simp only; omega⟩)
     have HST9 : Hid ((⟨self, base, stable, sent + 1, Av, cv, vs, A9, c9, TL, A5, c5, ND, Am, cm, marks, Af, cf, fls⟩ : BM).st = takeF { b.st with sent := b.sent + 1, pend := b.pend ++ [pl] }) := hJ (by
      have h := HST6.out
      unfold takeF
      simp only [BM.st, St.mk.injEq] at h ⊢
      obtain ⟨e1, e2, e3, e4, e5, e6, e7, e8, e9⟩ := h
      exact ⟨e1, e2, e3, HTL.out, e5, e6, e7, e8, e9⟩)
     clear hb9 ho9 hc9 hs9 htl; obtain ⟨u0, u1, u2, u3, u4, u5, u6, u7, u8⟩ := nine BX9.out
     obtain ⟨y0, y1, y2, y3, y4, y5, y6, y7, y8⟩ := nine BR9.out
     obtain ⟨z0, z1, z2, z3, z4, z5, z6, z7, z8⟩ := BR9.out.free9
     go_wp2; have BF : Hid (BIs (((((((((w9.setCell ⟨w.heap.size + 1, 0, none⟩ (.int .i64 self)).setCell ⟨w.heap.size + 1, 1, none⟩ (.slice Av vs.length cv)).setCell ⟨w.heap.size + 1, 2, none⟩ (.int .i64 base)).setCell ⟨w.heap.size + 1, 3, none⟩ (.slice A9 TL.length c9)).setCell ⟨w.heap.size + 1, 4, none⟩ (.int .i64 stable)).setCell ⟨w.heap.size + 1, 5, none⟩ (.int .i64 (sent + 1))).setCell ⟨w.heap.size + 1, 6, none⟩ (.slice A5 ND.length c5)).setCell ⟨w.heap.size + 1, 7, none⟩ (.slice Am marks.length cm)).setCell ⟨w.heap.size + 1, 8, none⟩ (.slice Af fls.length cf)) (w.heap.size + 1) #[.int .i64 self, .slice Av vs.length cv, .int .i64 base, .slice A9 TL.length c9, .int .i64 stable, .int .i64 (sent + 1), .slice A5 ND.length c5, .slice Am marks.length cm, .slice Af fls.length cf] 28) := hJ (nine_set BR9.out)
     have XFF : Hid (Ext w (((((((((w9.setCell ⟨w.heap.size + 1, 0, none⟩ (.int .i64 self)).setCell ⟨w.heap.size + 1, 1, none⟩ (.slice Av vs.length cv)).setCell ⟨w.heap.size + 1, 2, none⟩ (.int .i64 base)).setCell ⟨w.heap.size + 1, 3, none⟩ (.slice A9 TL.length c9)).setCell ⟨w.heap.size + 1, 4, none⟩ (.int .i64 stable)).setCell ⟨w.heap.size + 1, 5, none⟩ (.int .i64 (sent + 1))).setCell ⟨w.heap.size + 1, 6, none⟩ (.slice A5 ND.length c5)).setCell ⟨w.heap.size + 1, 7, none⟩ (.slice Am marks.length cm)).setCell ⟨w.heap.size + 1, 8, none⟩ (.slice Af fls.length cf))) := hJ (nine_wrote.ext XW9.out (by omega))
     have LF : Hid ((⟨self, base, stable, sent + 1, Av, cv, vs, A9, c9, TL, A5, c5, ND, Am, cm, marks, Af, cf, fls⟩ : BM).Lies (((((((((w9.setCell ⟨w.heap.size + 1, 0, none⟩ (.int .i64 self)).setCell ⟨w.heap.size + 1, 1, none⟩ (.slice Av vs.length cv)).setCell ⟨w.heap.size + 1, 2, none⟩ (.int .i64 base)).setCell ⟨w.heap.size + 1, 3, none⟩ (.slice A9 TL.length c9)).setCell ⟨w.heap.size + 1, 4, none⟩ (.int .i64 stable)).setCell ⟨w.heap.size + 1, 5, none⟩ (.int .i64 (sent + 1))).setCell ⟨w.heap.size + 1, 6, none⟩ (.slice A5 ND.length c5)).setCell ⟨w.heap.size + 1, 7, none⟩ (.slice Am marks.length cm)).setCell ⟨w.heap.size + 1, 8, none⟩ (.slice Af fls.length cf)) w.heap.size (paint (paint (paint col w2.heap.size 1) (w2.heap.size + 1) 6) w8.heap.size 2)) := hJ ((L9.out.base (by have := hp12.out; omega)).keep (cs := [8]) (Stp.wrote nine_wrote (by omega) (by have := XW9.out.size; omega) (by have h1 := hp12.out; have h2 := hlt2.out; rw [paint_old (by have := XW8.out.size; have := BR8.out.lt; omega), paint_old (by omega), paint_old (by omega), HC8.out _ h1]; simp)) (by simp) (by simp) (by simp) (by simp) (by simp))
     generalize (((((((((w9.setCell ⟨w.heap.size + 1, 0, none⟩ (.int .i64 self)).setCell ⟨w.heap.size + 1, 1, none⟩ (.slice Av vs.length cv)).setCell ⟨w.heap.size + 1, 2, none⟩ (.int .i64 base)).setCell ⟨w.heap.size + 1, 3, none⟩ (.slice A9 TL.length c9)).setCell ⟨w.heap.size + 1, 4, none⟩ (.int .i64 stable)).setCell ⟨w.heap.size + 1, 5, none⟩ (.int .i64 (sent + 1))).setCell ⟨w.heap.size + 1, 6, none⟩ (.slice A5 ND.length c5)).setCell ⟨w.heap.size + 1, 7, none⟩ (.slice Am marks.length cm)).setCell ⟨w.heap.size + 1, 8, none⟩ (.slice Af fls.length cf)) = W at *
     obtain ⟨e0, e1, e2, e3, e4, e5, e6, e7, e8⟩ := nine BF.out
     refine bodyPost_ret (v := .tuple #[.agg #[.int .i64 self, .slice Av vs.length cv, .int .i64 base, .slice A9 TL.length c9, .int .i64 stable, .int .i64 (sent + 1), .slice A5 ND.length c5, .slice Am marks.length cm, .slice Af fls.length cf], .int .i64 0]) (by simp [results, Tryz.results12, go_sem, e0, e1, e2, e3, e4, e5, e6, e7, e8]) rfl ?_
     rw [HR.out]
     exact ⟨⟨self, base, stable, sent + 1, Av, cv, vs, A9, c9, TL, A5, c5, ND, Am, cm, marks, Af, cf, fls⟩, rfl, HST9.out, LF.out.reads, HF9.out, XFF.out, LF.out.new (fun k hk => by have h1 := hp12.out; have h2 := hlt2.out; rw [paint_old (by have := XW8.out.size; have := BR8.out.lt; omega), paint_old (by omega), paint_old (by omega)]; exact HC8.out k (by omega))⟩
 ·have HV : Hid (validS b.st = false) := hJ (by simpa using hv)
  have HF : Hid (submitF b.st pl = (zeroS, 1)) := hJ (by unfold submitF; rw [if_pos HV.out])
  clear hv; go_enter Tryz.func12, Tryz.ntmps12
  go_wp2_with fail
  refine (valid12_any b _ R0.out HFT.out).mono ?_
  rintro en w1 ⟨rfl, hx1⟩
  have X1 := hJ hx1
  have BR1 : Hid (BIs w1 (w.heap.size + 1) #[.int .i64 0, .slice none 0 0, .int .i64 0, .slice none 0 0, .int .i64 0, .int .i64 0, .slice none 0 0, .slice none 0 0, .slice none 0 0] 28) := hJ (by have := BIs.ext (BIs.new (w.alloc (.cells #[.int .i64 b.self, .slice b.Av b.vs.length b.cv, .int .i64 b.base, .slice b.Al b.log.length b.cl, .int .i64 b.stable, .int .i64 b.sent, .slice b.Ap b.pend.length b.cp, .slice b.Am b.marks.length b.cm, .slice b.Af b.fls.length b.cf] 28)) #[.int .i64 0, .slice none 0 0, .int .i64 0, .slice none 0 0, .int .i64 0, .int .i64 0, .slice none 0 0, .slice none 0 0, .slice none 0 0] 28) hx1; simpa using this)
  have BP1 : Hid (BIs w1 w.heap.size #[.int .i64 b.self, .slice b.Av b.vs.length b.cv, .int .i64 b.base, .slice b.Al b.log.length b.cl, .int .i64 b.stable, .int .i64 b.sent, .slice b.Ap b.pend.length b.cp, .slice b.Am b.marks.length b.cm, .slice b.Af b.fls.length b.cf] 28) := hJ (((BIs.new w #[.int .i64 b.self, .slice b.Av b.vs.length b.cv, .int .i64 b.base, .slice b.Al b.log.length b.cl, .int .i64 b.stable, .int .i64 b.sent, .slice b.Ap b.pend.length b.cp, .slice b.Am b.marks.length b.cm, .slice b.Af b.fls.length b.cf] 28).ext (Ext.new _ _)).ext hx1)
  clear hx1; obtain ⟨q0, q1, q2, q3, q4, q5, q6, q7, q8⟩ := nine BP1.out
  obtain ⟨y0, y1, y2, y3, y4, y5, y6, y7, y8⟩ := nine BR1.out
  obtain ⟨z0, z1, z2, z3, z4, z5, z6, z7, z8⟩ := BR1.out.free9
  rw [HV.out]
  go_wp2; have BF : Hid (BIs (((((((((w1.setCell ⟨w.heap.size + 1, 0, none⟩ (.int .i64 0)).setCell ⟨w.heap.size + 1, 1, none⟩ (.slice none 0 0)).setCell ⟨w.heap.size + 1, 2, none⟩ (.int .i64 0)).setCell ⟨w.heap.size + 1, 3, none⟩ (.slice none 0 0)).setCell ⟨w.heap.size + 1, 4, none⟩ (.int .i64 0)).setCell ⟨w.heap.size + 1, 5, none⟩ (.int .i64 0)).setCell ⟨w.heap.size + 1, 6, none⟩ (.slice none 0 0)).setCell ⟨w.heap.size + 1, 7, none⟩ (.slice none 0 0)).setCell ⟨w.heap.size + 1, 8, none⟩ (.slice none 0 0)) (w.heap.size + 1) #[.int .i64 0, .slice none 0 0, .int .i64 0, .slice none 0 0, .int .i64 0, .int .i64 0, .slice none 0 0, .slice none 0 0, .slice none 0 0] 28) := hJ (nine_set BR1.out)
  have XFF : Hid (Ext w (((((((((w1.setCell ⟨w.heap.size + 1, 0, none⟩ (.int .i64 0)).setCell ⟨w.heap.size + 1, 1, none⟩ (.slice none 0 0)).setCell ⟨w.heap.size + 1, 2, none⟩ (.int .i64 0)).setCell ⟨w.heap.size + 1, 3, none⟩ (.slice none 0 0)).setCell ⟨w.heap.size + 1, 4, none⟩ (.int .i64 0)).setCell ⟨w.heap.size + 1, 5, none⟩ (.int .i64 0)).setCell ⟨w.heap.size + 1, 6, none⟩ (.slice none 0 0)).setCell ⟨w.heap.size + 1, 7, none⟩ (.slice none 0 0)).setCell ⟨w.heap.size + 1, 8, none⟩ (.slice none 0 0))) := hJ (nine_wrote.ext (E0.out.trans X1.out) (by omega))
  generalize (((((((((w1.setCell ⟨w.heap.size + 1, 0, none⟩ (.int .i64 0)).setCell ⟨w.heap.size + 1, 1, none⟩ (.slice none 0 0)).setCell ⟨w.heap.size + 1, 2, none⟩ (.int .i64 0)).setCell ⟨w.heap.size + 1, 3, none⟩ (.slice none 0 0)).setCell ⟨w.heap.size + 1, 4, none⟩ (.int .i64 0)).setCell ⟨w.heap.size + 1, 5, none⟩ (.int .i64 0)).setCell ⟨w.heap.size + 1, 6, none⟩ (.slice none 0 0)).setCell ⟨w.heap.size + 1, 7, none⟩ (.slice none 0 0)).setCell ⟨w.heap.size + 1, 8, none⟩ (.slice none 0 0)) = W at *
  obtain ⟨e0, e1, e2, e3, e4, e5, e6, e7, e8⟩ := nine BF.out
  refine bodyPost_ret (v := .tuple #[.agg #[.int .i64 0, .slice none 0 0, .int .i64 0, .slice none 0 0, .int .i64 0, .int .i64 0, .slice none 0 0, .slice none 0 0, .slice none 0 0], .int .i64 1]) (by simp [results, Tryz.results12, go_sem, e0, e1, e2, e3, e4, e5, e6, e7, e8]) rfl ?_
  exact gives_zero HF.out XFF.out
end Go.Proofs.YtponbabbabnaeaaGreat
