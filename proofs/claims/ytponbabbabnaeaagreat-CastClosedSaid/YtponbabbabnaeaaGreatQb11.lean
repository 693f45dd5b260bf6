/- Part 11 of the proof: contracts of functions that the statement reaches. Conditions: as each theorem says. -/
import Derived.Test.YtponbabbabnaeaaGreatQb01
import Derived.Test.YtponbabbabnaeaaGreatQb08
import Derived.Test.YtponbabbabnaeaaGreatQb09
import Derived.Test.YtponbabbabnaeaaGreatQb10
namespace Go.Proofs.YtponbabbabnaeaaGreat
open Go.RowKit
set_option maxRecDepth 100000 in
theorem payload_raw (b : BM) (st : Int) (Ap : Option Addr) (seq : Int) (j : Nat) (p : List UInt8) (w : World) (hAp : b.Ap = Ap) (h : b.Reads w) (hn : b.pend.length ≤ 1000000000) (hs : 0 ≤ b.sent ∧ b.sent ≤ 1099511627776) (hq : 0 ≤ seq ∧ seq ≤ 1099511627776)
  (hj : (b.pend.length : Int) - 1 - (b.sent - seq) = (j : Int)) (hp : b.pend[j]? = some p) :
  Calls Tryz.prog 112 #[.agg #[.int .i64 b.self, .slice b.Av b.vs.length b.cv, .int .i64 b.base, .slice b.Al b.log.length b.cl, .int .i64 st, .int .i64 b.sent, .slice Ap b.pend.length b.cp, .slice b.Am b.marks.length b.cm, .slice b.Af b.fls.length b.cf], .int .i64 seq] w fun e w' => e = .returned (.string (strB p)) ∧ Ext w w' := by
 have H0 := hJ (Ext.new w (.cells (b.cells3 st Ap) 28))
 have hjl : j < b.pend.length := (List.getElem?_eq_some_iff.1 hp).1
 obtain ⟨bb, off, p', rfl, hb, c0, HP⟩ := strs_at (show Row w Ap (strE.cells b.pend) by rw [← hAp]; exact h.pend) hjl
 have hpp : p' = p := by have := HP.out.symm.trans hp; exact Option.some.inj this
 subst hpp
 have hw1 : IntKind.i64.wrap ((b.pend.length : Int) - 1) = (b.pend.length : Int) - 1 := IntWalk.i64_in _ (by omega)
 have hw2 : IntKind.i64.wrap (b.sent - seq) = b.sent - seq := IntWalk.i64_in _ (by omega)
 have hw3 : IntKind.i64.wrap ((b.pend.length : Int) - 1 - (b.sent - seq)) = (j : Int) := by rw [IntWalk.i64_in _ (by omega)]; exact hj
 have k1 : (0 : Int) ≤ (j : Int) := by omega
 have k2 : (j : Int) < (b.pend.length : Int) := by omega
 clear hj hp hs hq hAp h HP; unfold BM.cells3 at H0
 go_enter Tryz.func112, Tryz.ntmps112
 go_wp2; go_ret
 exact ⟨rfl, H0.out⟩
end Go.Proofs.YtponbabbabnaeaaGreat
namespace Go.Proofs.YtponbabbabnaeaaGreat
open Go.RowKit
theorem fl_cells_set : ∀ (l : List FlM) (k : Nat) (f : FlM) (A : Option Addr) (c : Nat), l[k]? = some f → flE.cells (l.set k ⟨f.m, f.b, A, c, f.log⟩) = (flE.cells l).set (k * 3 + 2) (.slice A f.log.length c) := by
 intro l
 induction l with
 | nil => intro k f A c h; simp at h
 | cons x l ih =>
  intro k f A c h
  match k, h with
  | 0, h => simp only [List.getElem?_cons_zero, Option.some.injEq] at h; subst h; rfl
  | k + 1, h =>
   rw [List.set_cons_succ, flE.cells_cons, flE.cells_cons, ih k f A c (by simpa using h)]
   have e1 : (k + 1) * 3 + 2 = k * 3 + 2 + 1 + 1 + 1 := by omega
   rw [e1]
   rfl
theorem fls_set {w : World} {B g cap : Nat} {l : List FlM} {k : Nat} {f : FlM} {A : Option Addr} {c : Nat} (h : flE.OB w B (.slice (some ⟨g, 0, none⟩) l.length cap) l) (hf : l[k]? = some f) (h1 : f.log.length ≤ c) (h2 : c ≤ maxLen) (hr : Row w A (entE.cells f.log)) (hap : Apt (.slice (some ⟨g, 0, none⟩) l.length cap) (A, entE.cells f.log)) :
  flE.OB (w.setCell ⟨g, k * 3 + 2, none⟩ (.slice A f.log.length c)) B (.slice (some ⟨g, 0, none⟩) l.length cap) (l.set k ⟨f.m, f.b, A, c, f.log⟩) := by
 have far : ∀ {r : Option Addr × List Value}, Row w r.1 r.2 → Apt (.slice (some ⟨g, 0, none⟩) l.length cap) r → Row (w.setCell ⟨g, k * 3 + 2, none⟩ (.slice A f.log.length c)) r.1 r.2 := fun h1 h2 =>
  row_set_far h1 (fun q hne hq => Ne.symm (h2 q g hne hq rfl))
 refine ⟨?_, fun q hq => ?_⟩
 ·obtain ⟨h1, h2⟩ := h.1
  refine ⟨by rw [flE.cells_len], .inr ?_⟩
  rcases h2 with ⟨h2, _⟩ | ⟨g', cap', cur, hv, h3, hh, h4, h5, h6, h7⟩
  ·cases h2
  ·simp only [Value.slice.injEq, Option.some.injEq, Addr.mk.injEq, and_true, true_and] at hv
   obtain ⟨rfl, rfl⟩ := hv
   refine ⟨g, cap, cur.setIfInBounds (k * 3 + 2) (.slice A f.log.length c), by rw [List.length_set], h3, ?_, by rw [List.length_set]; exact h4, h5, by simpa using h6, ?_⟩
   ·exact heap_setCell_same _ _ _ _ _ _ hh
   ·rw [List.length_set, Array.toList_setIfInBounds, List.take_set, h7, fl_cells_set l k f A c hf]
 ·rcases List.mem_or_eq_of_mem_set hq with hq | rfl
  ·exact ⟨(h.2 q hq).1, fun r hr' => ⟨far ((h.2 q hq).2 r hr').1 ((h.2 q hq).2 r hr').2, ((h.2 q hq).2 r hr').2⟩⟩
  ·refine ⟨⟨h1, h2⟩, fun r hr' => ?_⟩
   simp only [flE, List.mem_cons, List.not_mem_nil, or_false] at hr'
   subst hr'
   exact ⟨far (r := (A, entE.cells f.log)) hr hap, hap⟩
def flv (l : List FlM) : List Fls := l.map FlM.v
theorem flv_set {l : List FlM} {k : Nat} {f : FlM} {A : Option Addr} {c : Nat} (h : l[k]? = some f) : flv (l.set k ⟨f.m, f.b, A, c, f.log⟩) = flv l := by
 unfold flv
 rw [List.map_set]
 apply List.ext_getElem?
 intro i
 by_cases hi : k = i
 ·subst hi
  rw [List.getElem?_set]
  obtain ⟨hk, he⟩ := List.getElem?_eq_some_iff.1 h
  simp [hk, he, FlM.v]
 ·rw [List.getElem?_set]; simp [hi]
end Go.Proofs.YtponbabbabnaeaaGreat
namespace Go.Proofs.YtponbabbabnaeaaGreat
open Go.RowKit
def ColR (col : Nat → Nat) (k : Nat) (A : Option Addr) (xs : List Value) : Prop := ∀ p, xs ≠ [] → A = some p → col p.block = k
def ColV (col : Nat → Nat) (k : Nat) (v : Value) : Prop := ∀ q, v.ownBlock = some q → col q = k
def BIs (w : World) (p : Nat) (vals : Array Value) (t : TypeId) : Prop := w.heap[p]? = some (.cells vals t (0, 0))
theorem BIs.lt {w : World} {p : Nat} {vals : Array Value} {t : TypeId} (h : BIs w p vals t) : p < w.heap.size := by
 rcases Nat.lt_or_ge p w.heap.size with hlt | hge
 ·exact hlt
 ·unfold BIs at h; rw [Array.getElem?_eq_none hge] at h; cases h
theorem BIs.cell {w : World} {p : Nat} {vals : Array Value} {t : TypeId} (h : BIs w p vals t) (i : Nat) : w.cell? ⟨p, i, none⟩ = vals[i]? := cell_of_row w p i vals t (0, 0) h
theorem BIs.free {w : World} {p : Nat} {vals : Array Value} {t : TypeId} (h : BIs w p vals t) (i : Nat) : w.frozen? ⟨p, i, none⟩ = false := by
 unfold BIs at h; simp [World.frozen?, h]
theorem BIs.set {w : World} {p : Nat} {vals : Array Value} {t : TypeId} (h : BIs w p vals t) (i : Nat) (v : Value) : BIs (w.setCell ⟨p, i, none⟩ v) p (vals.setIfInBounds i v) t := heap_setCell_same _ _ _ _ _ _ h
theorem BIs.same {w w' : World} {p : Nat} {vals : Array Value} {t : TypeId} (h : BIs w p vals t) (e : w'.heap[p]? = w.heap[p]?) : BIs w' p vals t := by unfold BIs; rw [e]; exact h
theorem BIs.ext {w w' : World} {p : Nat} {vals : Array Value} {t : TypeId} (h : BIs w p vals t) (e : Ext w w') : BIs w' p vals t := h.same (e.block p h.lt)
theorem BIs.new (w : World) (vals : Array Value) (t : TypeId) : BIs (w.alloc (.cells vals t)) w.heap.size vals t := by
 show (w.heap.push _)[w.heap.size]? = _; simp
structure Off (col : Nat → Nat) (c : Nat) (w w' : World) : Prop where
 size : w.heap.size ≤ w'.heap.size
 block : ∀ k, k < w.heap.size → col k ≠ c → w'.heap[k]? = w.heap[k]?
theorem Off.ext {col : Nat → Nat} (c : Nat) {w w' : World} (e : Ext w w') : Off col c w w' := ⟨e.size, fun k hk _ => e.block k hk⟩
theorem Off.row {col : Nat → Nat} {c k : Nat} {w w' : World} {A : Option Addr} {xs : List Value} (o : Off col c w w') (h : Row w A xs) (hc : ColR col k A xs) (hk : k ≠ c) : Row w' A xs := by
 intro hx
 obtain ⟨b, off, h1, h2, h3⟩ := h hx
 refine ⟨b, off, h1, Nat.lt_of_lt_of_le h2 o.size, fun j u hj => ?_⟩
 have hb : w'.heap[b]? = w.heap[b]? := o.block b h2 (by rw [hc _ hx h1]; exact hk)
 exact (World.cell?_of_block (a := ⟨b, off + j, none⟩) hb).trans (h3 j u hj)
theorem Off.own {α : Type} {E : Elem α} {col : Nat → Nat} {c k B : Nat} {w w' : World} {v : Value} {l : List α} (o : Off col c w w') (h : E.Own w B v l) (hc : ColV col k v) (hk : k ≠ c) : E.Own w' B v l :=
 h.keep fun q hq hlt => o.block q hlt (by rw [hc q hq]; exact hk)
theorem Off.box {α : Type} {E : Elem α} {col : Nat → Nat} {c : Nat} {w w' : World} {A : Option Addr} {l : List α} (o : Off col c w w') (h : E.Box w A l) (h1 : ColR col 0 A (E.cells l)) (h2 : ∀ a ∈ l, ∀ r ∈ E.inn a, ColR col 0 r.1 r.2) (hk : 0 ≠ c) : E.Box w' A l :=
 ⟨o.row h.1 h1 hk, fun a ha => ⟨(h.2 a ha).1, fun r hr => o.row ((h.2 a ha).2 r hr) (h2 a ha r hr) hk⟩⟩
def paint (col : Nat → Nat) (n c : Nat) : Nat → Nat := fun k => if k < n then col k else c
theorem paint_old {col : Nat → Nat} {n c k : Nat} (h : k < n) : paint col n c k = col k := by unfold paint; rw [if_pos h]
theorem paint_new {col : Nat → Nat} {n c k : Nat} (h : n ≤ k) : paint col n c k = c := by unfold paint; rw [if_neg (by omega)]
theorem ColR.old {col col' : Nat → Nat} {k : Nat} {w : World} {A : Option Addr} {xs : List Value} (h : ColR col k A xs) (hr : Row w A xs) (hc : ∀ q, q < w.heap.size → col' q = col q) : ColR col' k A xs :=
 fun p hne hp => (hc _ (row_lt hr hne hp)).trans (h p hne hp)
theorem ColV.old {α : Type} {E : Elem α} {B : Nat} {l : List α} {col col' : Nat → Nat} {k : Nat} {w : World} {v : Value} (h : ColV col k v) (hr : E.Own w B v l) (hc : ∀ q, q < w.heap.size → col' q = col q) : ColV col' k v :=
 fun q hq => (hc q (hr.lt q hq).2).trans (h q hq)
structure BM.Lies (w : World) (B : Nat) (col : Nat → Nat) (b : BM) : Prop where
 vs : viewE.Box w b.Av b.vs
 vc : ColR col 0 b.Av (viewE.cells b.vs)
 vi : ∀ v ∈ b.vs, ColR col 0 v.A (ints v.xs)
 log : entE.Own w B (.slice b.Al b.log.length b.cl) b.log
 lc : ColV col 2 (.slice b.Al b.log.length b.cl)
 pend : Row w b.Ap (strE.cells b.pend)
 pc : ColR col 6 b.Ap (strE.cells b.pend)
 marks : markE.Own w B (.slice b.Am b.marks.length b.cm) b.marks
 mc : ColV col 3 (.slice b.Am b.marks.length b.cm)
 fls : flE.Own w B (.slice b.Af b.fls.length b.cf) b.fls
 fc : ColV col 4 (.slice b.Af b.fls.length b.cf)
 fi : ∀ f ∈ b.fls, flE.ok f ∧ Row w f.A (entE.cells f.log) ∧ ColR col 0 f.A (entE.cells f.log)
theorem BM.Lies.reads {w : World} {B : Nat} {col : Nat → Nat} {b : BM} (h : b.Lies w B col) : b.Reads w :=
 ⟨h.vs, h.log.row, h.pend, h.marks.row, h.fls.row, fun a ha => ⟨(h.fi a ha).1, fun r hr => by
  simp only [flE, List.mem_cons, List.not_mem_nil, or_false] at hr
  subst hr
  exact (h.fi a ha).2.1⟩⟩
theorem BM.Lies.off {w w' : World} {B c : Nat} {col col' : Nat → Nat} {b : BM} (h : b.Lies w B col) (o : Off col c w w') (hc : c ≠ 0 ∧ c ≠ 2 ∧ c ≠ 3 ∧ c ≠ 4 ∧ c ≠ 6) (hcol : ∀ k, k < w.heap.size → col' k = col k) : b.Lies w' B col' := by
 obtain ⟨c0, c2, c3, c4, c6⟩ := hc
 refine ⟨o.box h.vs h.vc (fun a ha r hr => ?_) (Ne.symm c0), h.vc.old h.vs.1 hcol, fun v hv => (h.vi v hv).old ((h.vs.2 v hv).2 (v.A, ints v.xs) (by simp [viewE])) hcol, o.own h.log h.lc (Ne.symm c2), h.lc.old h.log hcol, o.row h.pend h.pc (Ne.symm c6), h.pc.old h.pend hcol,
  o.own h.marks h.mc (Ne.symm c3), h.mc.old h.marks hcol, o.own h.fls h.fc (Ne.symm c4), h.fc.old h.fls hcol, fun f hf => ⟨(h.fi f hf).1, o.row (h.fi f hf).2.1 (h.fi f hf).2.2 (Ne.symm c0), (h.fi f hf).2.2.old (h.fi f hf).2.1 hcol⟩⟩
 simp only [viewE, List.mem_cons, List.not_mem_nil, or_false] at hr
 subst hr
 exact h.vi a ha
theorem BM.Lies.ext {w w' : World} {B : Nat} {col col' : Nat → Nat} {b : BM} (h : b.Lies w B col) (e : Ext w w') (hcol : ∀ k, k < w.heap.size → col' k = col k) : b.Lies w' B col' :=
 h.off (Off.ext 1 e) (by decide) hcol
theorem BM.Lies.base {w : World} {B B' : Nat} {col : Nat → Nat} {b : BM} (h : b.Lies w B col) (hb : B' ≤ B) : b.Lies w B' col :=
 ⟨h.vs, h.vc, h.vi, h.log.base hb, h.lc, h.pend, h.pc, h.marks.base hb, h.mc, h.fls.base hb, h.fc, h.fi⟩
theorem BIs.free9 {w : World} {p : Nat} {vals : Array Value} {t : TypeId} (h : BIs w p vals t) :
  w.frozen? ⟨p, 0, none⟩ = false ∧ w.frozen? ⟨p, 1, none⟩ = false ∧ w.frozen? ⟨p, 2, none⟩ = false ∧ w.frozen? ⟨p, 3, none⟩ = false ∧ w.frozen? ⟨p, 4, none⟩ = false ∧ w.frozen? ⟨p, 5, none⟩ = false ∧ w.frozen? ⟨p, 6, none⟩ = false ∧ w.frozen? ⟨p, 7, none⟩ = false ∧ w.frozen? ⟨p, 8, none⟩ = false :=
 ⟨h.free _, h.free _, h.free _, h.free _, h.free _, h.free _, h.free _, h.free _, h.free _⟩
end Go.Proofs.YtponbabbabnaeaaGreat
namespace Go.Proofs.YtponbabbabnaeaaGreat
open Go.RowKit
def Wrote (p : Nat) (a b : World) : Prop := a.grownBy b (some p)
theorem Wrote.size {p : Nat} {a b : World} (h : Wrote p a b) : a.heap.size ≤ b.heap.size := World.grownBy.size h
theorem Wrote.blk {p : Nat} {a b : World} (h : Wrote p a b) {k : Nat} (hk : k < a.heap.size) (hp : k ≠ p) : b.heap[k]? = a.heap[k]? := World.grownBy.block h k hk (fun e => hp (Option.some.inj e))
theorem Wrote.refl (p : Nat) (a : World) : Wrote p a a := ⟨rfl, rfl, rfl, Nat.le_refl _, fun _ _ _ => rfl⟩
theorem Wrote.of {p : Nat} {a b : World} (h : Ext a b) : Wrote p a b := ⟨h.os, h.tape, h.output, h.size, fun k hk _ => h.block k hk⟩
theorem Wrote.trans {p : Nat} {a b c : World} (h : Wrote p a b) (g : Wrote p b c) : Wrote p a c :=
 ⟨g.os.trans h.os, g.tape.trans h.tape, g.output.trans h.output, Nat.le_trans h.size g.size, fun k hk hne => (World.grownBy.block g k (Nat.lt_of_lt_of_le hk h.size) hne).trans (World.grownBy.block h k hk hne)⟩
theorem Wrote.set (p i : Nat) (w : World) (v : Value) : Wrote p w (w.setCell ⟨p, i, none⟩ v) :=
 ⟨rfl, rfl, rfl, by simp [World.setCell], fun k _ hne => Below.heap_setCell _ _ _ _ (fun e => hne (by rw [e]))⟩
theorem Wrote.ext {p : Nat} {w0 a b : World} (h : Wrote p a b) (e : Ext w0 a) (hp : w0.heap.size ≤ p) : Ext w0 b :=
 Below.grown e h e.size (fun k hk => by cases hk; exact hp)
theorem Wrote.bis {p q : Nat} {a b : World} {vals : Array Value} {t : TypeId} (h : Wrote p a b) (k : BIs a q vals t) (hq : q ≠ p) : BIs b q vals t := k.same (h.blk k.lt hq)
def RS (w0 : World) (p : Nat) (w : World) (r : Rd) : Prop :=
 w0.heap.size ≤ p ∧ Ext w0 w ∧ r.1.length ≤ 1000000 ∧ ∃ A c, BIs w p #[.slice A r.1.length c, .bool r.2] 175 ∧ Row w0 A (bytesV r.1) ∧ r.1.length ≤ c
theorem RS.wrote {w0 w w' : World} {p q : Nat} {r : Rd} (h : RS w0 p w r) (g : Wrote q w w') (hq : p ≠ q) (h0 : w0.heap.size ≤ q) : RS w0 p w' r := by
 obtain ⟨h1, h2, h3, A, c, hb, hr, hc⟩ := h
 exact ⟨h1, g.ext h2 h0, h3, A, c, g.bis hb hq, hr, hc⟩
theorem RS.ext {w0 w w' : World} {p : Nat} {r : Rd} (h : RS w0 p w r) (g : Ext w w') : RS w0 p w' r := by
 obtain ⟨h1, h2, h3, A, c, hb, hr, hc⟩ := h
 exact ⟨h1, h2.trans g, h3, A, c, hb.ext g, hr, hc⟩
theorem RS.failed {w0 w : World} {p : Nat} {r : Rd} (h : RS w0 p w r) (b : Bool) : RS w0 p (w.setCell ⟨p, 1, none⟩ (.bool b)) (r.1, b) := by
 obtain ⟨h1, h2, h3, A, c, hb, hr, hc⟩ := h
 exact ⟨h1, (Wrote.set p 1 w _).ext h2 h1, h3, A, c, hb.set 1 _, hr, hc⟩
set_option maxRecDepth 100000 in
theorem rtake_any (w0 : World) (p : Nat) (r : Rd) (n : Nat) (e : Int) (w : World) (h : RS w0 p w r) (hn : n ≤ r.1.length) :
  Calls Tryz.prog 183 #[.pointer (some ⟨p, 0, none⟩), .int .i64 (n : Int), .int .i64 e] w fun en w' => en = .returned (.tuple #[]) ∧ RS w0 p w' (takeR r n e) ∧ Wrote p w w' := by
 have H := hJ h
 obtain ⟨h1, h2, h3, A, c, hb, hr, hc⟩ := h
 obtain ⟨bs, f⟩ := r
 simp only at h3 hn hb hr hc
 have k0 : w.cell? ⟨p, 0, none⟩ = some (.slice A bs.length c) := hb.cell 0
 have k1 : w.cell? ⟨p, 1, none⟩ = some (.bool f) := hb.cell 1
 have f0 := hb.free 0
 have f1 := hb.free 1
 have HB := hJ hb; have HR := hJ hr; have H2 := hJ h2
 clear hb hr h2; by_cases he : e = 0
 ·subst he
  have HT : Hid (takeR (bs, f) n 0 = (bs.drop n, f)) := hJ (by simp [takeR])
  have hsl : ∀ W, (Instr.slice 29 (.slice A bs.length c) (some (.int .i64 (n : Int))) none none).run Tryz.prog W = .ok (.slice (subA A n c 1) (bs.length - n) (c - n)) W := fun W => bytE.slice_l A bs.length c n _ rfl hn W
  go_enter Tryz.func183, Tryz.ntmps183
  go_wp2; go_end0; refine ⟨rfl, ?_, Wrote.set _ _ _ _⟩
  rw [HT.out]
  refine ⟨h1, (Wrote.set p 0 w _).ext H2.out h1, by simp; omega, subA A n c 1, c - n, ?_, row_bytesV (Elem.row_from (row_bytes HR.out) hc n), by simp; omega⟩
  have := HB.out.set 0 (.slice (subA A n c 1) (bs.length - n) (c - n))
  simpa using this
 ·have HT : Hid (takeR (bs, f) n e = (bs, true)) := hJ (by simp [takeR, he])
  have hb : (e != 0) = true := by simpa using he
  clear he; go_enter Tryz.func183, Tryz.ntmps183
  go_wp2; (try simp only [Exit.inBlock, Exit.then]); refine bodyPost_ret (results_none rfl _ _ _) rfl ?_
  refine ⟨rfl, ?_, Wrote.set _ _ _ _⟩
  rw [HT.out]
  exact H.out.failed true
theorem RS.parts {w0 w : World} {p : Nat} {r : Rd} (h : RS w0 p w r) : ∃ A c, w.cell? ⟨p, 0, none⟩ = some (.slice A r.1.length c) ∧ w.cell? ⟨p, 1, none⟩ = some (.bool r.2) ∧ w.frozen? ⟨p, 0, none⟩ = false ∧ w.frozen? ⟨p, 1, none⟩ = false ∧ Hid (Row w A (bytesV r.1)) ∧ r.1.length ≤ c ∧ p < w.heap.size := by
 obtain ⟨h1, h2, h3, A, c, hb, hr, hc⟩ := h
 exact ⟨A, c, hb.cell 0, hb.cell 1, hb.free 0, hb.free 1, hJ (hr.ext h2), hc, hb.lt⟩
set_option maxRecDepth 100000 in
theorem rnumber_any (w0 : World) (p : Nat) (r : Rd) (w : World) (h : RS w0 p w r) :
  Calls Tryz.prog 138 #[.pointer (some ⟨p, 0, none⟩)] w fun en w' => en = .returned (.int .i64 (numR r).1) ∧ RS w0 p w' (numR r).2 ∧ Wrote p w w' := by
 have H := hJ h
 obtain ⟨A, c, k0, k1, f0, f1, HR, hc, hpl⟩ := h.parts
 have h3 : r.1.length ≤ 1000000 := h.2.2.1
 have hin := decU_in r.1
 obtain ⟨⟨v, n, e⟩, hd⟩ : ∃ d, decU r.1 = d := ⟨_, rfl⟩
 have HD := hJ hd
 rw [hd] at hin
 simp only at hin
 have hn : n ≤ r.1.length := hin.2.1
 have hv : v < 18446744073709551616 := hin.1
 clear hd hin h; by_cases hb : 1099511627776 < v
 ·have HN : Hid (numR r = (0, (takeR r n e).1, true)) := hJ (by unfold numR; rw [HD.out]; simp only; rw [if_pos hb])
  have hdd : decide ((1099511627776 : Int) < (v : Int)) = true := by simp; omega
  go_enter Tryz.func138, Tryz.ntmps138
  go_wp2_with fail
  refine (uint_any A c r.1 w HR.out (by omega)).mono ?_
  rintro en w' ⟨rfl, rfl⟩
  rw [HD.out]
  unfold retU
  go_wp2_with fail
  refine (rtake_any w0 p r n e w H.out hn).mono ?_
  rintro en w1 ⟨rfl, hr1, hw1⟩
  have H1 := hJ hr1; have W1 := hJ hw1
  obtain ⟨A1, c1, k0', k1', f0', f1', HR1, hc1, hpl1⟩ := hr1.parts
  clear hr1 hw1; go_wp2; go_ret
  rw [HN.out]
  exact ⟨rfl, H1.out.failed true, W1.out.trans (Wrote.set _ _ _ _)⟩
 ·have HN : Hid (numR r = ((v : Int), takeR r n e)) := hJ (by unfold numR; rw [HD.out]; simp only; rw [if_neg hb])
  have hdd : decide ((1099511627776 : Int) < (v : Int)) = false := by simp; omega
  have hww : IntKind.i64.wrap (v : Int) = (v : Int) := IntWalk.i64_in _ (by omega)
  go_enter Tryz.func138, Tryz.ntmps138
  go_wp2_with fail
  refine (uint_any A c r.1 w HR.out (by omega)).mono ?_
  rintro en w' ⟨rfl, rfl⟩
  rw [HD.out]
  unfold retU
  go_wp2_with fail
  refine (rtake_any w0 p r n e w H.out hn).mono ?_
  rintro en w1 ⟨rfl, hr1, hw1⟩
  have H1 := hJ hr1; have W1 := hJ hw1
  clear hr1 hw1; go_wp2; go_ret
  rw [HN.out]
  exact ⟨rfl, H1.out, W1.out⟩
set_option maxRecDepth 100000 in
theorem rbase_any (w0 : World) (p : Nat) (r : Rd) (w : World) (h : RS w0 p w r) :
  Calls Tryz.prog 141 #[.pointer (some ⟨p, 0, none⟩)] w fun en w' => en = .returned (.int .i64 (baseR r).1) ∧ RS w0 p w' (baseR r).2 ∧ Wrote p w w' := by
 have H := hJ h
 obtain ⟨A, c, k0, k1, f0, f1, HR, hc, hpl⟩ := h.parts
 have h3 : r.1.length ≤ 1000000 := h.2.2.1
 have hin := decI_in r.1
 obtain ⟨⟨v, n, e⟩, hd⟩ : ∃ d, decI r.1 = d := ⟨_, rfl⟩
 have HD := hJ hd
 rw [hd] at hin
 simp only at hin
 clear hd h; by_cases hb : v < -1 ∨ 1099511627776 < v
 ·have HN : Hid (baseR r = (v, (takeR r n e).1, true)) := hJ (by unfold baseR; rw [HD.out]; simp only; rw [if_pos hb])
  by_cases hb1 : v < -1
  ·go_enter Tryz.func141, Tryz.ntmps141
   go_wp2_with fail
   refine (int_any A c r.1 w HR.out (by omega)).mono ?_
   rintro en w' ⟨rfl, rfl⟩
   rw [HD.out]
   unfold retI
   go_wp2_with fail
   refine (rtake_any w0 p r n e w H.out hin).mono ?_
   rintro en w1 ⟨rfl, hr1, hw1⟩
   have H1 := hJ hr1; have W1 := hJ hw1
   obtain ⟨A1, c1, k0', k1', f0', f1', HR1, hc1, hpl1⟩ := hr1.parts
   clear hr1 hw1; go_wp2; go_ret
   rw [HN.out]
   exact ⟨rfl, H1.out.failed true, W1.out.trans (Wrote.set _ _ _ _)⟩
  ·have hb2 : 1099511627776 < v := by omega
   go_enter Tryz.func141, Tryz.ntmps141
   go_wp2_with fail
   refine (int_any A c r.1 w HR.out (by omega)).mono ?_
   rintro en w' ⟨rfl, rfl⟩
   rw [HD.out]
   unfold retI
   go_wp2_with fail
   refine (rtake_any w0 p r n e w H.out hin).mono ?_
   rintro en w1 ⟨rfl, hr1, hw1⟩
   have H1 := hJ hr1; have W1 := hJ hw1
   obtain ⟨A1, c1, k0', k1', f0', f1', HR1, hc1, hpl1⟩ := hr1.parts
   clear hr1 hw1; go_wp2; go_ret
   rw [HN.out]
   exact ⟨rfl, H1.out.failed true, W1.out.trans (Wrote.set _ _ _ _)⟩
 ·have HN : Hid (baseR r = (v, takeR r n e)) := hJ (by unfold baseR; rw [HD.out]; simp only; rw [if_neg hb])
  have hb1 : ¬ v < -1 := fun h => hb (.inl h)
  have hb2 : ¬ 1099511627776 < v := fun h => hb (.inr h)
  clear hb; go_enter Tryz.func141, Tryz.ntmps141
  go_wp2_with fail
  refine (int_any A c r.1 w HR.out (by omega)).mono ?_
  rintro en w' ⟨rfl, rfl⟩
  rw [HD.out]
  unfold retI
  go_wp2_with fail
  refine (rtake_any w0 p r n e w H.out hin).mono ?_
  rintro en w1 ⟨rfl, hr1, hw1⟩
  have H1 := hJ hr1; have W1 := hJ hw1
  clear hr1 hw1; go_wp2; go_ret
  rw [HN.out]
  exact ⟨rfl, H1.out, W1.out⟩
theorem decS_in (bs : List UInt8) (m : Nat) : (decS bs m).2.1 ≤ bs.length := by
 have h := decN_in bs m
 unfold decS
 split
 ·exact Nat.zero_le _
 ·split
  ·exact Nat.zero_le _
  ·simp only; omega
set_option maxRecDepth 100000 in
theorem rpayload_any (w0 : World) (p : Nat) (r : Rd) (w : World) (h : RS w0 p w r) :
  Calls Tryz.prog 139 #[.pointer (some ⟨p, 0, none⟩)] w fun en w' => en = .returned (.string (strB (payR r).1)) ∧ RS w0 p w' (payR r).2 ∧ Wrote p w w' := by
 have H := hJ h
 obtain ⟨A, c, k0, k1, f0, f1, HR, hc, hpl⟩ := h.parts
 have h3 : r.1.length ≤ 1000000 := h.2.2.1
 have hin := decS_in r.1 6000
 obtain ⟨⟨v, n, e⟩, hd⟩ : ∃ d, decS r.1 6000 = d := ⟨_, rfl⟩
 have HD := hJ hd
 rw [hd] at hin
 simp only at hin
 clear hd h; have HN : Hid (payR r = (v, takeR r n e)) := hJ (by unfold payR; rw [HD.out])
 go_enter Tryz.func139, Tryz.ntmps139
 go_wp2_with fail
 refine (string_any A c r.1 6000 w HR.out hc (by omega) (by omega)).mono ?_
 rintro en w' ⟨rfl, rfl⟩
 rw [HD.out]
 unfold retS
 go_wp2_with fail
 refine (rtake_any w0 p r n e w H.out hin).mono ?_
 rintro en w1 ⟨rfl, hr1, hw1⟩
 have H1 := hJ hr1; have W1 := hJ hw1
 clear hr1 hw1; go_wp2; go_ret
 rw [HN.out]
 exact ⟨rfl, H1.out, W1.out⟩
theorem entsGo_fail {k : Nat} {r : Rd} {out : List Ent} (h : r.2 = true) : entsGo k r out = (out, r) := by
 cases k with
 | zero => rfl
 | succ k => rw [entsGo, if_pos h]
theorem entsGo_step {k : Nat} {r : Rd} {out : List Ent} (h : r.2 = false) : entsGo (k + 1) r out = entsGo k (entR r).2 (out ++ [(entR r).1]) := by
 rw [entsGo, if_neg (by rw [h]; simp)]
theorem ent1_row (e : Ent) (w : World) : Row (w.alloc (.cells #[.int .i64 e.v, .int .i64 e.o, .int .i64 e.q, .string (strB e.p)] 66)) (some ⟨w.heap.size, 0, none⟩) (entE.cells [e]) := by
 intro _
 refine ⟨w.heap.size, 0, rfl, by simp, fun j q hj => ?_⟩
 simp only [Elem.cells, entE, List.flatMap_cons, List.flatMap_nil, List.append_nil] at hj
 match j, hj with
 | 0, hj => simpa using hj
 | 1, hj => simpa using hj
 | 2, hj => simpa using hj
 | 3, hj => simpa using hj
theorem ent_good {W : World} {v : Value} {l : List Ent} : ∀ q ∈ l, entE.ok q ∧ ∀ r ∈ entE.inn q, Row W r.1 r.2 ∧ Apt v r := fun _ _ => ⟨trivial, fun r hr => by simp [entE] at hr⟩
theorem Wrote.ob {w w' : World} {p B : Nat} {v : Value} {l : List Ent} (h : Wrote p w w') (ho : entE.OB w B v l) (hp : ∀ k, v.ownBlock = some k → k ≠ p) : entE.OB w' B v l :=
 ⟨ho.1.keep fun k hk hlt => h.blk hlt (hp k hk), fun a ha => ⟨(ho.2 a ha).1, fun r hr => by simp [entE] at hr⟩⟩
theorem Grew.wrote {a b : World} {v : Value} (g : Grew a b v) {p B : Nat} {w0 : World} (h : Wrote p w0 a) (hB : w0.heap.size ≤ B) (hv : ∀ k, v.ownBlock = some k → B ≤ k) : Wrote p w0 b :=
 ⟨g.os.trans h.os, g.tape.trans h.tape, g.output.trans h.output, Nat.le_trans h.size g.size, fun k hk hne => (g.block k (Nat.lt_of_lt_of_le hk h.size) (fun e => by have := hv k e.symm; omega)).trans (World.grownBy.block h k hk hne)⟩
theorem Grew.rs {a b : World} {v : Value} (g : Grew a b v) {p : Nat} {w0 : World} {r : Rd} (h : RS w0 p a r) (hv : ∀ k, v.ownBlock = some k → k ≠ p ∧ w0.heap.size ≤ k) : RS w0 p b r := by
 obtain ⟨h1, h2, h3, A, c, hb, hr, hc⟩ := h
 exact ⟨h1, g.below h2 h2.size (fun k hk => (hv k hk).2), h3, A, c, hb.same (g.block p hb.lt (fun e => (hv p e.symm).1 rfl)), hr, hc⟩
set_option maxRecDepth 100000 in
set_option maxHeartbeats 1000000 in
theorem rentries_any (w0 : World) (p : Nat) (r : Rd) (w : World) (h : RS w0 p w r) :
  Calls Tryz.prog 140 #[.pointer (some ⟨p, 0, none⟩)] w fun en w' => ∃ A c, en = .returned (.slice A (entsR r).1.length c) ∧ (entsR r).1.length ≤ c ∧ c ≤ maxLen ∧ entE.OB w' w.heap.size (.slice A (entsR r).1.length c) (entsR r).1 ∧ RS w0 p w' (entsR r).2 ∧ Wrote p w w' := by
 have H := hJ h
 obtain ⟨A, c, k0, k1, f0, f1, HR, hc, hpl⟩ := h.parts
 clear h k0 k1 f0 f1 HR hc; have hnn : 0 ≤ (numR r).1 ∧ (numR r).1 ≤ 1099511627776 := by
  unfold numR
  split
  ·simp
  ·simp only; omega
 obtain ⟨⟨n, r1⟩, hn⟩ : ∃ d, numR r = d := ⟨_, rfl⟩
 have HN := hJ hn
 rw [hn] at hnn
 simp only at hnn
 obtain ⟨m, rfl⟩ : ∃ m : Nat, n = (m : Int) := ⟨n.toNat, by omega⟩
 clear hn; have HER : Hid (entsR r = entsGo m (if 2000 < (m : Int) then (r1.1, true) else r1) []) := hJ (by unfold entsR; rw [HN.out]; simp)
 go_enter Tryz.func140, Tryz.ntmps140
 go_wp2_with fail
 refine (rnumber_any w0 p r w H.out).mono ?_
 rintro en w1 ⟨rfl, hr1, hw1⟩
 rw [HN.out] at hr1 ⊢
 simp only at hr1
 have H1 := hJ hr1; have W1 := hJ hw1
 obtain ⟨A1, c1, k0', k1', f0', f1', HR1, hc1, hpl1⟩ := hr1.parts
 clear hr1 hw1; by_cases hbig : 2000 < m
 ·have hdd : decide ((2000 : Int) < (m : Int)) = true := by simp; omega
  have HF : Hid (entsR r = ([], (r1.1, true))) := hJ (by rw [HER.out, if_pos (by omega)]; exact entsGo_fail rfl)
  go_wp2; go_loopw [3, 4] (fun ct v wr => ∃ (k : Nat) (out : List Ent) (r' : Rd) (v' : Value), v' = v ∧ ct = .int .i64 (k : Int) ∧ Hid (entsGo k r' out = entsR r) ∧ (r'.2 = true ∨ out.length + k ≤ 2000) ∧ k ≤ 1099511627776 ∧ Hid (entE.OB wr w.heap.size v' out) ∧ Hid (RS w0 p wr r') ∧ Hid (Wrote p w wr)) (fun ct _ _ => (intOf ct).toNat)
  case atStart => exact ⟨m, [], (r1.1, true), _, rfl, rfl, hJ (by rw [HF.out]; exact entsGo_fail rfl), .inl rfl, by omega, hJ (Elem.OB.nil _ _), hJ (H1.out.failed true), hJ (W1.out.trans (Wrote.set _ _ _ _))⟩
  case round =>
   obtain ⟨k, out, r', v, rfl, rfl, HG, hbd, hk40, HO, HRS, HW⟩ := hrel
   obtain ⟨A2, c2, k0'', k1'', f0'', f1'', HR2, hc2, hpl2⟩ := HRS.out.parts
   have hvp : Hid (∀ q, v.ownBlock = some q → q ≠ p ∧ w0.heap.size ≤ q ∧ w.heap.size ≤ q) := hJ (fun q hq => by have := (HO.out.1.lt q hq).1; have := H.out.2.1.size; omega)
   clear k0'' f0'' f1'' HR2 hc2; by_cases hk : 0 < k
   ·have hdk : decide ((0 : Int) < (k : Int)) = true := by simp; omega
    cases hf : r'.2 with
    | true =>
     rw [hf] at k1''
     have HD := hJ ((entsGo_fail hf).symm.trans HG.out)
     clear HG; go_wp2; go_ret
     rw [← HD.out]
     obtain ⟨A3, c3, rfl, h1, h2, _⟩ := HO.out.slice
     exact ⟨A3, c3, rfl, h1, h2, HO.out, HRS.out, HW.out⟩
    | false =>
     rw [hf] at k1''
     obtain ⟨j, rfl⟩ : ∃ j, k = j + 1 := ⟨k - 1, by omega⟩
     have HD := hJ ((entsGo_step hf).symm.trans HG.out)
     have hol : out.length + 1 ≤ 2000 := by rcases hbd with h | h; exact absurd (hf.symm.trans h) (by simp); omega
     have hbd' : out.length + 1 + j ≤ 2000 := by rcases hbd with h | h; exact absurd (hf.symm.trans h) (by simp); omega
     clear HG hbd; obtain ⟨⟨a, r2⟩, ha⟩ : ∃ d, numR r' = d := ⟨_, rfl⟩
     obtain ⟨⟨b, r3⟩, hb⟩ : ∃ d, numR r2 = d := ⟨_, rfl⟩
     obtain ⟨⟨q, r4⟩, hq⟩ : ∃ d, numR r3 = d := ⟨_, rfl⟩
     obtain ⟨⟨pl, r5⟩, hp⟩ : ∃ d, payR r4 = d := ⟨_, rfl⟩
     have HER5 : Hid (entR r' = (⟨a, b, q, pl⟩, r5)) := hJ (by unfold entR; rw [ha]; simp only; rw [hb]; simp only; rw [hq]; simp only; rw [hp])
     have HA := hJ ha; have HB := hJ hb; have HQ := hJ hq; have HP := hJ hp
     clear ha hb hq hp hf; go_wp2_with fail
     refine (rnumber_any w0 p r' wr HRS.out).mono ?_
     rintro en w2 ⟨rfl, hr2, hw2⟩
     rw [HA.out] at hr2 ⊢
     have H2 := hJ hr2; have W2 := hJ hw2
     clear hr2 hw2; go_wp2_with fail
     refine (rnumber_any w0 p r2 w2 H2.out).mono ?_
     rintro en w3 ⟨rfl, hr2, hw2⟩
     rw [HB.out] at hr2 ⊢
     have H3 := hJ hr2; have W3 := hJ (W2.out.trans hw2)
     clear hr2 hw2; go_wp2_with fail
     refine (rnumber_any w0 p r3 w3 H3.out).mono ?_
     rintro en w4 ⟨rfl, hr2, hw2⟩
     rw [HQ.out] at hr2 ⊢
     have H4 := hJ hr2; have W4 := hJ (W3.out.trans hw2)
     clear hr2 hw2; go_wp2_with fail
     refine (rpayload_any w0 p r4 w4 H4.out).mono ?_
     rintro en w5 ⟨rfl, hr2, hw2⟩
     rw [HP.out] at hr2 ⊢
     have H5 := hJ hr2; have W5 := hJ (W4.out.trans hw2)
     clear hr2 hw2; have HO5 := hJ (W5.out.ob HO.out (fun k hk => (hvp.out k hk).1))
     have hszw : Hid (w.heap.size ≤ w5.heap.size) := hJ (Nat.le_trans HW.out.size W5.out.size)
     go_wp2_with (first
      | (at_builtin; refine push_e entE rfl (.tmp 23) (.tmp 33) rfl _ w.heap.size _ out (by rfl) _ 1 1 [⟨a, b, q, pl⟩] (by rfl) rfl (ent1_row ⟨a, b, q, pl⟩ w5) (HO5.out.ext (Ext.new _ _)) ent_good (by omega) (by have := hszw.out; simp; omega) ?_; intro v6 w6 ho6 hg6 hs6))
     have HO6 := hJ ho6
     have H6 : Hid (RS w0 p w6 r5) := hJ (hg6.rs (H5.out.ext (Ext.new _ _)) (fun k hk => ⟨(hvp.out k hk).1, (hvp.out k hk).2.1⟩))
     have W6 : Hid (Wrote p w w6) := hJ (hg6.wrote (B := w.heap.size) ((HW.out.trans W5.out).trans (Wrote.of (Ext.new _ _))) (Nat.le_refl _) (fun k hk => (hvp.out k hk).2.2))
     clear ho6 hg6 hs6; go_roundw
     case rel => exact ⟨j, out ++ [⟨a, b, q, pl⟩], r5, _, rfl, by go_num, hJ (by rw [← HD.out, HER5.out]), .inr (by simp; omega), by omega, HO6, H6, W6⟩
     case measure => simp [intOf]
   ·have hk0 : k = 0 := by omega
    subst hk0
    have HD : Hid ((out, r') = entsR r) := HG
    clear HG; go_wp2; go_ret
    rw [← HD.out]
    obtain ⟨A3, c3, rfl, h1, h2, _⟩ := HO.out.slice
    exact ⟨A3, c3, rfl, h1, h2, HO.out, HRS.out, HW.out⟩
 ·have hdd : decide ((2000 : Int) < (m : Int)) = false := by simp; omega
  have HF : Hid (entsR r = entsGo m r1 []) := hJ (by rw [HER.out, if_neg (by omega)])
  go_wp2; go_loopw [3, 4] (fun ct v wr => ∃ (k : Nat) (out : List Ent) (r' : Rd) (v' : Value), v' = v ∧ ct = .int .i64 (k : Int) ∧ Hid (entsGo k r' out = entsR r) ∧ (r'.2 = true ∨ out.length + k ≤ 2000) ∧ k ≤ 1099511627776 ∧ Hid (entE.OB wr w.heap.size v' out) ∧ Hid (RS w0 p wr r') ∧ Hid (Wrote p w wr)) (fun ct _ _ => (intOf ct).toNat)
  case atStart => exact ⟨m, [], r1, _, rfl, rfl, hJ (by rw [HF.out]), .inr (by simp; omega), by omega, hJ (Elem.OB.nil _ _), H1, W1⟩
  case round =>
   obtain ⟨k, out, r', v, rfl, rfl, HG, hbd, hk40, HO, HRS, HW⟩ := hrel
   obtain ⟨A2, c2, k0'', k1'', f0'', f1'', HR2, hc2, hpl2⟩ := HRS.out.parts
   have hvp : Hid (∀ q, v.ownBlock = some q → q ≠ p ∧ w0.heap.size ≤ q ∧ w.heap.size ≤ q) := hJ (fun q hq => by have := (HO.out.1.lt q hq).1; have := H.out.2.1.size; omega)
   clear k0'' f0'' f1'' HR2 hc2; by_cases hk : 0 < k
   ·have hdk : decide ((0 : Int) < (k : Int)) = true := by simp; omega
    cases hf : r'.2 with
    | true =>
     rw [hf] at k1''
     have HD := hJ ((entsGo_fail hf).symm.trans HG.out)
     clear HG; go_wp2; go_ret
     rw [← HD.out]
     obtain ⟨A3, c3, rfl, h1, h2, _⟩ := HO.out.slice
     exact ⟨A3, c3, rfl, h1, h2, HO.out, HRS.out, HW.out⟩
    | false =>
     rw [hf] at k1''
     obtain ⟨j, rfl⟩ : ∃ j, k = j + 1 := ⟨k - 1, by omega⟩
     have HD := hJ ((entsGo_step hf).symm.trans HG.out)
     have hol : out.length + 1 ≤ 2000 := by rcases hbd with h | h; exact absurd (hf.symm.trans h) (by simp); omega
     have hbd' : out.length + 1 + j ≤ 2000 := by rcases hbd with h | h; exact absurd (hf.symm.trans h) (by simp); omega
     clear HG hbd; obtain ⟨⟨a, r2⟩, ha⟩ : ∃ d, numR r' = d := ⟨_, rfl⟩
     obtain ⟨⟨b, r3⟩, hb⟩ : ∃ d, numR r2 = d := ⟨_, rfl⟩
     obtain ⟨⟨q, r4⟩, hq⟩ : ∃ d, numR r3 = d := ⟨_, rfl⟩
     obtain ⟨⟨pl, r5⟩, hp⟩ : ∃ d, payR r4 = d := ⟨_, rfl⟩
     have HER5 : Hid (entR r' = (⟨a, b, q, pl⟩, r5)) := hJ (by unfold entR; rw [ha]; simp only; rw [hb]; simp only; rw [hq]; simp only; rw [hp])
     have HA := hJ ha; have HB := hJ hb; have HQ := hJ hq; have HP := hJ hp
     clear ha hb hq hp hf; go_wp2_with fail
     refine (rnumber_any w0 p r' wr HRS.out).mono ?_
     rintro en w2 ⟨rfl, hr2, hw2⟩
     rw [HA.out] at hr2 ⊢
     have H2 := hJ hr2; have W2 := hJ hw2
     clear hr2 hw2; go_wp2_with fail
     refine (rnumber_any w0 p r2 w2 H2.out).mono ?_
     rintro en w3 ⟨rfl, hr2, hw2⟩
     rw [HB.out] at hr2 ⊢
     have H3 := hJ hr2; have W3 := hJ (W2.out.trans hw2)
     clear hr2 hw2; go_wp2_with fail
     refine (rnumber_any w0 p r3 w3 H3.out).mono ?_
     rintro en w4 ⟨rfl, hr2, hw2⟩
     rw [HQ.out] at hr2 ⊢
     have H4 := hJ hr2; have W4 := hJ (W3.out.trans hw2)
     clear hr2 hw2; go_wp2_with fail
     refine (rpayload_any w0 p r4 w4 H4.out).mono ?_
     rintro en w5 ⟨rfl, hr2, hw2⟩
     rw [HP.out] at hr2 ⊢
     have H5 := hJ hr2; have W5 := hJ (W4.out.trans hw2)
     clear hr2 hw2; have HO5 := hJ (W5.out.ob HO.out (fun k hk => (hvp.out k hk).1))
     have hszw : Hid (w.heap.size ≤ w5.heap.size) := hJ (Nat.le_trans HW.out.size W5.out.size)
     go_wp2_with (first
      | (at_builtin; refine push_e entE rfl (.tmp 23) (.tmp 33) rfl _ w.heap.size _ out (by rfl) _ 1 1 [⟨a, b, q, pl⟩] (by rfl) rfl (ent1_row ⟨a, b, q, pl⟩ w5) (HO5.out.ext (Ext.new _ _)) ent_good (by omega) (by have := hszw.out; simp; omega) ?_; intro v6 w6 ho6 hg6 hs6))
     have HO6 := hJ ho6
     have H6 : Hid (RS w0 p w6 r5) := hJ (hg6.rs (H5.out.ext (Ext.new _ _)) (fun k hk => ⟨(hvp.out k hk).1, (hvp.out k hk).2.1⟩))
     have W6 : Hid (Wrote p w w6) := hJ (hg6.wrote (B := w.heap.size) ((HW.out.trans W5.out).trans (Wrote.of (Ext.new _ _))) (Nat.le_refl _) (fun k hk => (hvp.out k hk).2.2))
     clear ho6 hg6 hs6; go_roundw
     case rel => exact ⟨j, out ++ [⟨a, b, q, pl⟩], r5, _, rfl, by go_num, hJ (by rw [← HD.out, HER5.out]), .inr (by simp; omega), by omega, HO6, H6, W6⟩
     case measure => simp [intOf]
   ·have hk0 : k = 0 := by omega
    subst hk0
    have HD : Hid ((out, r') = entsR r) := HG
    clear HG; go_wp2; go_ret
    rw [← HD.out]
    obtain ⟨A3, c3, rfl, h1, h2, _⟩ := HO.out.slice
    exact ⟨A3, c3, rfl, h1, h2, HO.out, HRS.out, HW.out⟩
end Go.Proofs.YtponbabbabnaeaaGreat
