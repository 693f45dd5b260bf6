/- Part 31 of the proof: contracts of functions that the statement reaches. Conditions: as each theorem says. -/
import Derived.Test.YtponbabbabnaeaaGreatQb01
import Derived.Test.YtponbabbabnaeaaGreatQb24
import Derived.Test.YtponbabbabnaeaaGreatQb28
import Derived.Test.YtponbabbabnaeaaGreatQb30
namespace Go.Proofs.YtponbabbabnaeaaGreat
theorem numR_pos (r : Rd) : 0 ≤ (numR r).1 := by
 unfold numR
 split
 ·exact Int.le_refl _
 ·exact Int.natCast_nonneg _
theorem payR_len (r : Rd) : (payR r).1.length ≤ 6000 := by
 unfold payR decS
 have := (decN_in r.1 6000).1
 simp only
 split
 ·simp
 ·split
  ·simp
  ·simp only [List.length_take]; omega
theorem body_ok {kind : Int} {r r' : Rd} {m : Msg} (h : bodyR kind r = some (m, r')) : m.kind = kind ∧ (kind = 11 → m.pay.length ≤ 6000) ∧ (kind = 13 → 0 ≤ m.first) := by
 unfold bodyR at h
 simp only at h
 split at h
 ·next hk => cases h; exact ⟨rfl, fun _ => payR_len _, fun e => by omega⟩
 ·split at h
  ·next hk => cases h; exact ⟨rfl, fun e => by omega, fun e => by omega⟩
  ·split at h
   ·next hk => cases h; exact ⟨rfl, fun e => by omega, fun _ => numR_pos _⟩
   ·split at h
    ·next hk => cases h; exact ⟨rfl, fun e => by omega, fun e => by omega⟩
    ·split at h
     ·next hk => cases h; exact ⟨rfl, fun e => by omega, fun e => by omega⟩
     ·cases h
theorem read_ok {frame : List UInt8} {m : Msg} (h : readF frame = some m) : (m.kind = 11 → m.pay.length ≤ 6000) ∧ (m.kind = 13 → 0 ≤ m.first) := by
 unfold readF at h
 simp only at h
 split at h
 ·cases h
 ·split at h
  ·cases h
  ·next m' r' hb =>
   split at h
   ·cases h
    obtain ⟨h1, h2, h3⟩ := body_ok hb
    rw [h1]; exact ⟨h2, h3⟩
   ·cases h
theorem lastE_snoc {l ex : List Ent} {b : Int} (hl : lastE l = b) (hx : ∀ e ∈ ex, e.v = b) : lastE (l ++ ex) = b := by
 rcases List.eq_nil_or_concat ex with rfl | ⟨ys, y, rfl⟩
 ·simpa using hl
 ·unfold lastE
  have : (l ++ ys.concat y)[(l ++ ys.concat y).length - 1]? = some y := by
   rw [List.concat_eq_append, ← List.append_assoc]
   simp
  rw [this]
  exact hx y (by simp)
theorem Good.appended {s : St} {c : Cs} (g : Good s c) (ho : openB c.s = true) (m : Msg) : Good s (appendedF c m) := by
 obtain ⟨_, hb⟩ := g.vs.open_base ho
 obtain ⟨b1, b2, b3⟩ := g.vs.log hb
 unfold appendedF
 split
 ·exact g
 ·split
  ·exact g
  ·split
   ·exact g
   ·next hany =>
    split
    ·exact g
    ·next hv =>
     have hv1 : validLog (c.s.log ++ m.ents.drop (bothN c m)) = true := by
      cases hx : validLog (c.s.log ++ m.ents.drop (bothN c m)) with
      | true => rfl
      | false => exact absurd (.inl hx) hv
     have hv2 : ¬ c.s.sent < ownN (c.s.log ++ m.ents.drop (bothN c m)) c.s.self := fun e => hv (.inr e)
     have hall : ∀ e ∈ m.ents.drop (bothN c m), e.v = c.s.base := by
      intro e he
      have h1 : ∀ x ∈ m.ents.drop (bothN c m), x.v = c.s.base ∧ ¬ x.o = 0 := by simpa using hany
      exact (h1 e he).1
     refine (g.extend (ex := m.ents.drop (bothN c m)) (based_mk (by simp only [List.length_append]; omega) hv1 (lastE_snoc b3 hall) hb) (by omega)).raise ?_
     simp only
     omega
theorem Good.submitted {s : St} {c : Cs} (g : Good s c) (ho : openB c.s = true) {fr : Int} (hf : isId fr = true) (hne : fr ≠ c.s.self) {m : Msg} (hp : m.pay.length ≤ 6000) : Good s (submittedF c fr m) := by
 obtain ⟨_, hb⟩ := g.vs.open_base ho
 obtain ⟨b1, b2, b3⟩ := g.vs.log hb
 unfold submittedF
 split
 ·next h =>
  obtain ⟨h1, h2⟩ := h
  obtain ⟨v1, v2⟩ := vlog_own b2 h2 b1 b3 hf hp
  rw [h1]
  refine g.extend (based_mk (by simp) v1 v2 hb) ?_
  rw [ownN_app]
  have : ownN [(⟨c.s.base, fr, (ownN c.s.log fr : Int) + 1, m.pay⟩ : Ent)] c.s.self = 0 := by simp [ownN, hne]
  rw [this]; exact g.vs.own
 ·exact g
theorem closed_handle {s : St} (h : VS s) {fr : Int} (hf : isId fr = true) (hne : fr ≠ s.self) {m : Msg} (h11 : m.kind = 11 → m.pay.length ≤ 6000) (h13 : m.kind = 13 → 0 ≤ m.first) (hnum : m.num = (lastV s.views).1) : Good s (handleF ⟨s, [], []⟩ fr m) := by
 have g := Good.begin h []
 unfold handleF
 simp only
 split
 ·next hc => exact g.submitted hc.2.1 hf hne (h11 hc.1)
 ·split
  ·next hc => exact g.appended hc.2.1 m
  ·split
   ·next hc =>
    unfold ackedF
    split
    ·exact g
    ·next hle =>
     have h' := h.ack hc.2.1 hc.2.2.1 hne hc.2.2.2 (h13 hc.1) (by simp only at hle; omega)
     have g' : Good s { (⟨s, [], []⟩ : Cs) with s := { s with marks := ackM s.marks fr m.first } } := ⟨h', Grown.same rfl rfl, h.st0⟩
     exact g'.announce
   ·split
    ·next hc =>
     split
     ·next hp =>
      have h' := h.put (f := (fr, m.first, m.ents)) hc.2.1 hc.2.2 hf hp
      obtain ⟨k1, k2⟩ := h'.install hc.2.1 hc.2.2
      exact ⟨k1, ⟨k2.st, k2.cut, k2.pre⟩, h.st0⟩
     ·exact g
    ·split
     ·next hc =>
      unfold installedF
      split
      ·next hi =>
       obtain ⟨i1, i2, i3, i4⟩ := hi
       simp only at i2 i3 i4
       have hm : s.marks = [] := by
        rcases h.mk0 with hm | ⟨hm, _⟩
        ·exact hm
        ·rw [hc.2.1] at hm; cases hm
       have hfl : s.fls = [] := by
        rcases h.fl0 with hm | ⟨_, hm⟩
        ·exact hm
        ·rw [hc.2.2.1] at hm; cases hm
       rw [hnum] at i2
       obtain ⟨k1, k2⟩ := h.relog hm i2 hc.2.2.2.2 i3 i4
       have e : ({ s with base := m.num, log := m.ents } : St) = { s with base := (lastV s.views).1, log := m.ents, fls := [] } := by rw [hnum, ← hfl]
       refine ⟨?_, ?_, h.st0⟩
       ·show VS { s with base := m.num, log := m.ents }
        rw [e]; exact k1
       ·show Grown s { s with base := m.num, log := m.ents } []
        exact Grown.same rfl k2
      ·exact g
     ·exact g
theorem closed_receive {s : St} (h : VS s) (fr : Int) (frame : List UInt8) : ((receiveF s fr frame).2 ≠ 0 ∧ (receiveF s fr frame).1.dl = []) ∨ ((receiveF s fr frame).2 = 0 ∧ Good s (receiveF s fr frame).1) := by
 unfold receiveF
 split
 ·exact .inl ⟨by decide, rfl⟩
 ·next hc =>
  have hf : isId fr = true := by
   cases hx : isId fr with
   | true => rfl
   | false => exact absurd (.inr (.inl hx)) hc
  have hne : fr ≠ s.self := fun e => hc (.inr (.inr e))
  split
  ·exact .inl ⟨by decide, rfl⟩
  ·next m hm =>
   obtain ⟨r1, r2⟩ := read_ok hm
   right
   refine ⟨rfl, ?_⟩
   split
   ·next hn => exact closed_handle h hf hne r1 r2 hn
   ·exact Good.begin h []
end Go.Proofs.YtponbabbabnaeaaGreat
namespace Go.Proofs.YtponbabbabnaeaaGreat
theorem numR_le (r : Rd) : (numR r).1 ≤ 1099511627776 := by
 unfold numR
 split
 ·simp
 ·simp only; omega
theorem entsGo_lim : ∀ (n : Nat) (r : Rd) (out : List Ent), (∀ e ∈ out, e.p.length ≤ 6000) → (entsGo n r out).1.length ≤ out.length + n ∧ ∀ e ∈ (entsGo n r out).1, e.p.length ≤ 6000
 | 0, _, out, h => ⟨Nat.le_refl _, h⟩
 | n + 1, r, out, h => by
  unfold entsGo
  split
  ·exact ⟨Nat.le_add_right _ _, h⟩
  ·have := entsGo_lim n (entR r).2 (out ++ [(entR r).1]) (fun e he => by
    rcases List.mem_append.1 he with he | he
    ·exact h e he
    ·simp only [List.mem_cons, List.not_mem_nil, or_false] at he
     subst he
     exact payR_len _)
   refine ⟨Nat.le_trans this.1 (by simp; omega), this.2⟩
theorem entsGo_bad : ∀ (n : Nat) (r : Rd) (out : List Ent), r.2 = true → (entsGo n r out).1 = out
 | 0, _, _, _ => rfl
 | n + 1, r, out, h => by unfold entsGo; rw [if_pos h]
theorem entsR_lim (r : Rd) : (entsR r).1.length ≤ 2000 ∧ ∀ e ∈ (entsR r).1, e.p.length ≤ 6000 := by
 unfold entsR
 by_cases h : 2000 < (numR r).1
 ·rw [if_pos h, entsGo_bad _ _ _ rfl]
  exact ⟨Nat.zero_le _, fun e he => by cases he⟩
 ·rw [if_neg h]
  have := entsGo_lim (numR r).1.toNat (numR r).2 [] (fun e he => by cases he)
  have h0 := numR_pos r
  exact ⟨Nat.le_trans this.1 (by simp; omega), this.2⟩
theorem body_lim {kind : Int} {r r' : Rd} {m : Msg} (h : bodyR kind r = some (m, r')) : m.ents.length ≤ 2000 ∧ (∀ e ∈ m.ents, e.p.length ≤ 6000) ∧ m.pay.length ≤ 6000 ∧ (m.kind = 12 → 0 ≤ m.first ∧ m.first ≤ 1099511627776) := by
 unfold bodyR at h
 simp only at h
 repeat' split at h
 all_goals first | cases h | (simp only [Option.some.injEq, Prod.mk.injEq] at h; obtain ⟨rfl, _⟩ := h)
 ·exact ⟨Nat.zero_le _, (fun e he => by cases he), payR_len _, fun e => by simp only at e; omega⟩
 ·exact ⟨(entsR_lim _).1, (entsR_lim _).2, Nat.zero_le _, fun _ => ⟨numR_pos _, numR_le _⟩⟩
 ·exact ⟨Nat.zero_le _, (fun e he => by cases he), Nat.zero_le _, fun e => by simp only at e; omega⟩
 ·exact ⟨(entsR_lim _).1, (entsR_lim _).2, Nat.zero_le _, fun e => by simp only at e; omega⟩
 ·exact ⟨(entsR_lim _).1, (entsR_lim _).2, Nat.zero_le _, fun e => by simp only at e; omega⟩
theorem read_lim {frame : List UInt8} {m : Msg} (h : readF frame = some m) : m.ents.length ≤ 2000 ∧ (∀ e ∈ m.ents, e.p.length ≤ 6000) ∧ m.pay.length ≤ 6000 ∧ (m.kind = 12 → 0 ≤ m.first ∧ m.first ≤ 1099511627776) := by
 unfold readF at h
 simp only at h
 split at h
 ·cases h
 ·split at h
  ·cases h
  ·next m' r hb =>
   split at h
   ·simp only [Option.some.injEq] at h
    subst h
    exact body_lim hb
   ·cases h
end Go.Proofs.YtponbabbabnaeaaGreat
namespace Go.Proofs.YtponbabbabnaeaaGreat
open Go.RowKit
def re (col : Nat → Nat) (v : Value) (c : Nat) : Nat → Nat := fun k => if v.ownBlock = some k then c else col k
theorem re_own {col : Nat → Nat} {v : Value} {c q : Nat} (h : v.ownBlock = some q) : re col v c q = c := by unfold re; rw [if_pos h]
theorem re_far {col : Nat → Nat} {v : Value} {c k : Nat} (h : ∀ q, v.ownBlock = some q → k ≠ q) : re col v c k = col k := by unfold re; rw [if_neg (fun e => h k e rfl)]
theorem re_keep {col : Nat → Nat} {v : Value} {c k : Nat} (h : ∀ q, v.ownBlock = some q → col q = 8) (hk : col k ≠ 8) : re col v c k = col k := re_far (fun q hq e => hk (by rw [e]; exact h q hq))
section
variable {w : World} {B B' p : Nat} {col : Nat → Nat} {m : CM} {v : Value} {c k : Nat} {A : Option Addr} {xs : List Value}
theorem ColR.re (h : ColR col k A xs) (hv : ∀ q, v.ownBlock = some q → col q = 8) (hk : k ≠ 8) : ColR (re col v c) k A xs := fun p hx hp => by rw [re_keep hv (by rw [h p hx hp]; exact hk)]; exact h p hx hp
theorem ColV.re {u : Value} (h : ColV col k u) (hv : ∀ q, v.ownBlock = some q → col q = 8) (hk : k ≠ 8) : ColV (re col v c) k u := fun q hq => by rw [re_keep hv (by rw [h q hq]; exact hk)]; exact h q hq
theorem CS.base (h : CS w B col p m) (hb : B' ≤ B) : CS w B' col p m := ⟨h.box, h.pc, Nat.le_trans hb h.bp, h.lies.base hb, h.pk.base hb, h.kc, h.ki, h.dl.base hb, h.dc, h.fits, h.cp⟩
theorem CS.re (h : CS w B col p m) (hv : ∀ q, v.ownBlock = some q → col q = 8) : CS w B (re col v c) p m := by
 have l := h.lies
 refine ⟨h.box, by rw [re_keep hv (by rw [h.pc]; decide)]; exact h.pc, h.bp, ⟨l.vs, l.vc.re hv (by decide), fun x hx => (l.vi x hx).re hv (by decide), l.log, l.lc.re hv (by decide), l.pend, l.pc.re hv (by decide), l.marks, l.mc.re hv (by decide), l.fls, l.fc.re hv (by decide), fun f hf => ⟨(l.fi f hf).1, (l.fi f hf).2.1, (l.fi f hf).2.2.re hv (by decide)⟩⟩,
  h.pk, h.kc.re hv (by decide), fun x hx => ⟨(h.ki x hx).1, (h.ki x hx).2.1, (h.ki x hx).2.2.re hv (by decide)⟩, h.dl, h.dc.re hv (by decide), h.fits, h.cp⟩
end
theorem receive_eq {s : St} {fr : Int} {frame : List UInt8} (hv : validS s = true) (hi : isId fr = true) (hn : fr ≠ s.self) : receiveF s fr frame = match readF frame with | none => (⟨zeroS, [], []⟩, 3) | some m => (if m.num = (lastV s.views).1 then handleF ⟨s, [], []⟩ fr m else ⟨s, [], []⟩, 0) := by
 unfold receiveF
 rw [if_neg (by simp [hv, hi, hn])]
 cases readF frame <;> rfl
theorem zero_outR {w w' : World} (er : Int) (hx : Ext w w') : GivesR w ⟨zeroS, [], []⟩ er (.returned (.tuple #[.agg #[.int .i64 0, .slice none 0 0, .int .i64 0, .slice none 0 0, .int .i64 0, .int .i64 0, .slice none 0 0, .slice none 0 0, .slice none 0 0], .slice none 0 0, .slice none 0 0, .int .i64 er])) w' :=
 ⟨⟨zeroB, none, 0, [], none, 0, []⟩, rfl, rfl, zeroB_reads _, zeroB_fits, ⟨Row.nil _ _, fun a ha => by simp at ha⟩, Row.nil _ _, hx, ⟨fun _ h => by simp [zeroB, Elem.cells] at h, fun _ h => by simp [zeroB] at h, fun _ h => by simp [zeroB, Elem.cells] at h, fun _ h => by simp [zeroB, Elem.cells] at h, fun _ h => by simp [zeroB, Elem.cells] at h, fun _ h => by simp [zeroB, Elem.cells] at h, fun _ h => by simp [zeroB] at h⟩, fun _ h => by simp [Elem.cells] at h⟩
set_option maxRecDepth 100000 in
set_option maxHeartbeats 2000000 in
theorem receive_any (b : BM) (fr : Int) (A : Option Addr) (c : Nat) (frame : List UInt8) (w : World) (h : b.Reads w) (hf : b.Fits) (hrow : Row w A (bytesV frame)) (hc : frame.length ≤ c) (hl : frame.length ≤ 1000000) :
  Calls Tryz.prog 16 #[.agg b.cells, .int .i64 fr, .slice A frame.length c] w (GivesR w (receiveF b.st fr frame).1 (receiveF b.st fr frame).2) := by
 have E0 : Hid (Ext w ((w.alloc (.cells #[.int .i64 b.self, .slice b.Av b.vs.length b.cv, .int .i64 b.base, .slice b.Al b.log.length b.cl, .int .i64 b.stable, .int .i64 b.sent, .slice b.Ap b.pend.length b.cp, .slice b.Am b.marks.length b.cm, .slice b.Af b.fls.length b.cf] 28)).alloc (.cells #[.int .i64 0, .slice none 0 0, .int .i64 0, .slice none 0 0, .int .i64 0, .int .i64 0, .slice none 0 0, .slice none 0 0, .slice none 0 0] 28))) := hJ ((Ext.new _ _).trans (Ext.new _ _))
 have R0 := hJ (h.ext E0.out); have HFT := hJ hf; have HROW := hJ hrow
 clear h hf hrow; unfold BM.cells
 go_enter Tryz.func16, Tryz.ntmps16
 go_wp2_with fail
 refine (valid12_any b _ R0.out HFT.out).mono ?_
 rintro en w1 ⟨rfl, hx1⟩
 have X1 := hJ hx1
 have BR1 : Hid (BIs w1 (w.heap.size + 1) #[.int .i64 0, .slice none 0 0, .int .i64 0, .slice none 0 0, .int .i64 0, .int .i64 0, .slice none 0 0, .slice none 0 0, .slice none 0 0] 28) := hJ (by have := BIs.ext (BIs.new (w.alloc (.cells #[.int .i64 b.self, .slice b.Av b.vs.length b.cv, .int .i64 b.base, .slice b.Al b.log.length b.cl, .int .i64 b.stable, .int .i64 b.sent, .slice b.Ap b.pend.length b.cp, .slice b.Am b.marks.length b.cm, .slice b.Af b.fls.length b.cf] 28)) #[.int .i64 0, .slice none 0 0, .int .i64 0, .slice none 0 0, .int .i64 0, .int .i64 0, .slice none 0 0, .slice none 0 0, .slice none 0 0] 28) hx1; simpa using this)
 have BP1 : Hid (BIs w1 w.heap.size #[.int .i64 b.self, .slice b.Av b.vs.length b.cv, .int .i64 b.base, .slice b.Al b.log.length b.cl, .int .i64 b.stable, .int .i64 b.sent, .slice b.Ap b.pend.length b.cp, .slice b.Am b.marks.length b.cm, .slice b.Af b.fls.length b.cf] 28) := hJ (((BIs.new w #[.int .i64 b.self, .slice b.Av b.vs.length b.cv, .int .i64 b.base, .slice b.Al b.log.length b.cl, .int .i64 b.stable, .int .i64 b.sent, .slice b.Ap b.pend.length b.cp, .slice b.Am b.marks.length b.cm, .slice b.Af b.fls.length b.cf] 28).ext (Ext.new _ _)).ext hx1)
 clear hx1; obtain ⟨q0, q1, q2, q3, q4, q5, q6, q7, q8⟩ := nine BP1.out
 have hp12 : Hid (w.heap.size + 1 < w1.heap.size) := hJ BR1.out.lt
 cases hv : validS b.st with
 | false =>
  have HRF : Hid (receiveF b.st fr frame = (⟨zeroS, [], []⟩, 1)) := hJ (by unfold receiveF; rw [if_pos (.inl hv)])
  obtain ⟨y0, y1, y2, y3, y4, y5, y6, y7, y8⟩ := nine BR1.out
  obtain ⟨z0, z1, z2, z3, z4, z5, z6, z7, z8⟩ := BR1.out.free9
  go_wp2; have BF := nine_set (a0 := .int .i64 0) (a1 := .slice none 0 0) (a2 := .int .i64 0) (a3 := .slice none 0 0) (a4 := .int .i64 0) (a5 := .int .i64 0) (a6 := .slice none 0 0) (a7 := .slice none 0 0) (a8 := .slice none 0 0) BR1.out
  obtain ⟨e0, e1, e2, e3, e4, e5, e6, e7, e8⟩ := nine BF
  refine bodyPost_ret (v := .tuple #[.agg #[.int .i64 0, .slice none 0 0, .int .i64 0, .slice none 0 0, .int .i64 0, .int .i64 0, .slice none 0 0, .slice none 0 0, .slice none 0 0], .slice none 0 0, .slice none 0 0, .int .i64 1]) (by simp [results, Tryz.results16, go_sem, e0, e1, e2, e3, e4, e5, e6, e7, e8]) rfl ?_
  rw [HRF.out]
  exact zero_outR 1 (nine_wrote.ext (E0.out.trans X1.out) (show w.heap.size ≤ w.heap.size + 1 by omega))
 | true =>
  have HV := hJ hv
  clear hv; go_wp2_with fail
  refine (identifier_any fr w1).mono ?_
  rintro en w1' ⟨rfl, rfl⟩
  cases hid : isId fr with
  | false =>
   have HRF : Hid (receiveF b.st fr frame = (⟨zeroS, [], []⟩, 1)) := hJ (by unfold receiveF; rw [if_pos (.inr (.inl hid))])
   obtain ⟨y0, y1, y2, y3, y4, y5, y6, y7, y8⟩ := nine BR1.out
   obtain ⟨z0, z1, z2, z3, z4, z5, z6, z7, z8⟩ := BR1.out.free9
   go_wp2; have BF := nine_set (a0 := .int .i64 0) (a1 := .slice none 0 0) (a2 := .int .i64 0) (a3 := .slice none 0 0) (a4 := .int .i64 0) (a5 := .int .i64 0) (a6 := .slice none 0 0) (a7 := .slice none 0 0) (a8 := .slice none 0 0) BR1.out
   obtain ⟨e0, e1, e2, e3, e4, e5, e6, e7, e8⟩ := nine BF
   refine bodyPost_ret (v := .tuple #[.agg #[.int .i64 0, .slice none 0 0, .int .i64 0, .slice none 0 0, .int .i64 0, .int .i64 0, .slice none 0 0, .slice none 0 0, .slice none 0 0], .slice none 0 0, .slice none 0 0, .int .i64 1]) (by simp [results, Tryz.results16, go_sem, e0, e1, e2, e3, e4, e5, e6, e7, e8]) rfl ?_
   rw [HRF.out]
   exact zero_outR 1 (nine_wrote.ext (E0.out.trans X1.out) (show w.heap.size ≤ w.heap.size + 1 by omega))
  | true =>
   have HID := hJ hid
   clear hid; cases hne : (fr == b.self) with
   | true =>
    have HRF : Hid (receiveF b.st fr frame = (⟨zeroS, [], []⟩, 1)) := hJ (by unfold receiveF; rw [if_pos (.inr (.inr (show fr = b.self by simpa using hne)))])
    obtain ⟨y0, y1, y2, y3, y4, y5, y6, y7, y8⟩ := nine BR1.out
    obtain ⟨z0, z1, z2, z3, z4, z5, z6, z7, z8⟩ := BR1.out.free9
    go_wp2; have BF := nine_set (a0 := .int .i64 0) (a1 := .slice none 0 0) (a2 := .int .i64 0) (a3 := .slice none 0 0) (a4 := .int .i64 0) (a5 := .int .i64 0) (a6 := .slice none 0 0) (a7 := .slice none 0 0) (a8 := .slice none 0 0) BR1.out
    obtain ⟨e0, e1, e2, e3, e4, e5, e6, e7, e8⟩ := nine BF
    refine bodyPost_ret (v := .tuple #[.agg #[.int .i64 0, .slice none 0 0, .int .i64 0, .slice none 0 0, .int .i64 0, .int .i64 0, .slice none 0 0, .slice none 0 0, .slice none 0 0], .slice none 0 0, .slice none 0 0, .int .i64 1]) (by simp [results, Tryz.results16, go_sem, e0, e1, e2, e3, e4, e5, e6, e7, e8]) rfl ?_
    rw [HRF.out]
    exact zero_outR 1 (nine_wrote.ext (E0.out.trans X1.out) (show w.heap.size ≤ w.heap.size + 1 by omega))
   | false =>
    have HNE : Hid (fr ≠ b.self) := hJ (by simpa using hne)
    have HRF0 : Hid (receiveF b.st fr frame = match readF frame with | none => (⟨zeroS, [], []⟩, 3) | some m => (if m.num = (lastV b.st.views).1 then handleF ⟨b.st, [], []⟩ fr m else ⟨b.st, [], []⟩, 0)) := hJ (receive_eq HV.out HID.out HNE.out)
    have OK := hJ (ok_valid HV.out)
    have VV := hJ (vs_iff.1 HV.out)
    go_wp2_with fail
    refine (read_any A c frame w1 (HROW.out.ext (E0.out.trans X1.out)) hc hl).mono ?_
    rintro en w2 (⟨a0, a1, a2, a3, a4, a5, a6, a7, rfl, hrn, hx2⟩ | ⟨mm, Ae, ce, rfl, hrn, he1, he2, hob, hx2⟩)
    ·have HRF : Hid (receiveF b.st fr frame = (⟨zeroS, [], []⟩, 3)) := hJ (by rw [HRF0.out, hrn])
     have BR2 := hJ ((BR1.out.ext hx2).ext (Ext.new w2 (.cells #[.int .i64 a0, .int .i64 a1, .int .i64 a2, .int .i64 a3, .string a4, .slice a5 a6 a7] 110)))
     have X2 := hJ (((E0.out.trans X1.out).trans hx2).trans (Ext.new w2 (.cells #[.int .i64 a0, .int .i64 a1, .int .i64 a2, .int .i64 a3, .string a4, .slice a5 a6 a7] 110)))
     clear hx2 hrn q0 q1 q2 q3 q4 q5 q6 q7 q8; obtain ⟨y0, y1, y2, y3, y4, y5, y6, y7, y8⟩ := nine BR2.out
     obtain ⟨z0, z1, z2, z3, z4, z5, z6, z7, z8⟩ := BR2.out.free9
     go_wp2; have BF := nine_set (a0 := .int .i64 0) (a1 := .slice none 0 0) (a2 := .int .i64 0) (a3 := .slice none 0 0) (a4 := .int .i64 0) (a5 := .int .i64 0) (a6 := .slice none 0 0) (a7 := .slice none 0 0) (a8 := .slice none 0 0) BR2.out
     obtain ⟨e0, e1, e2, e3, e4, e5, e6, e7, e8⟩ := nine BF
     refine bodyPost_ret (v := .tuple #[.agg #[.int .i64 0, .slice none 0 0, .int .i64 0, .slice none 0 0, .int .i64 0, .int .i64 0, .slice none 0 0, .slice none 0 0, .slice none 0 0], .slice none 0 0, .slice none 0 0, .int .i64 3]) (by simp [results, Tryz.results16, go_sem, e0, e1, e2, e3, e4, e5, e6, e7, e8]) rfl ?_
     rw [HRF.out]
     exact zero_outR 3 (nine_wrote.ext (X2.out) (show w.heap.size ≤ w.heap.size + 1 by omega))
    obtain ⟨hl1, hl2, hl3, hl4⟩ := read_lim hrn
    obtain ⟨kind, num, first, mst, pay, ents⟩ := mm
    simp only at he1 hob hl1 hl2 hl3 hl4
    have HRG : Hid (receiveF b.st fr frame = (if num = (lastV b.st.views).1 then handleF ⟨b.st, [], []⟩ fr ⟨kind, num, first, mst, pay, ents⟩ else ⟨b.st, [], []⟩, 0)) := hJ (by rw [HRF0.out, hrn])
    have X2 := hJ hx2
    have HOE := hJ hob.1
    have HL2 := hJ hl2
    clear hrn hl2; have E2 : Hid (Ext w2 (w2.alloc (.cells #[.int .i64 kind, .int .i64 num, .int .i64 first, .int .i64 mst, .string (strB pay), .slice Ae ents.length ce] 110))) := hJ (Ext.new _ _)
    have M2 : Hid (BIs (w2.alloc (.cells #[.int .i64 kind, .int .i64 num, .int .i64 first, .int .i64 mst, .string (strB pay), .slice Ae ents.length ce] 110)) w2.heap.size #[.int .i64 kind, .int .i64 num, .int .i64 first, .int .i64 mst, .string (strB pay), .slice Ae ents.length ce] 110) := hJ (BIs.new _ _ _)
    clear hob hx2 q0 q1 q2 q3 q4 q5 q6 q7 q8; obtain ⟨q0, q1, q2, q3, q4, q5, q6, q7, q8⟩ := nine (BP1.out.ext X2.out)
    have hp2 : w.heap.size < w2.heap.size := (BP1.out.ext X2.out).lt
    have hlt1 : Hid (w1.heap.size ≤ w2.heap.size) := hJ X2.out.size
    go_wp2_with fail
    refine (clone_any b _ (R0.out.ext ((X1.out.trans X2.out).trans E2.out)) HFT.out).mono ?_
    rintro en w3 ⟨b', col, rfl, hst', hft', hli, hc8, hpo, hpc, hx3⟩
    obtain ⟨_, _, hvp, hcpb, _, _⟩ := hpo.slice
    have hcp : b'.pend.length ≤ b'.cp := by simp only [Value.slice.injEq] at hvp; omega
    have X3 := hJ (E2.out.trans hx3); have HC8 := hJ hc8; have HST := hJ hst'
    have M3 := hJ (M2.out.ext hx3)
    have hs3 : Hid (w2.heap.size + 1 ≤ w3.heap.size) := hJ (by have := hx3.size; simpa using this)
    have HAE : Hid (∀ k, (Value.slice Ae ents.length ce).ownBlock = some k → w1.heap.size ≤ k ∧ k < w2.heap.size) := hJ HOE.out.lt
    have HA8 : Hid (∀ k, (Value.slice Ae ents.length ce).ownBlock = some k → (paint (paint col w3.heap.size 1) (w3.heap.size + 1) 8) k = 8) := hJ (fun k hk => by have h1 := (HAE.out k hk).2; have h3 := hs3.out; rw [paint_old (by omega), paint_old (by omega)]; exact HC8.out _ (by simp; omega))
    have C4 : Hid (CS (w3.alloc (.cells (⟨b', none, 0, [], none, 0, []⟩ : CM).cells 86)) w.heap.size (re (paint (paint col w3.heap.size 1) (w3.heap.size + 1) 8) (.slice Ae ents.length ce) 2) w3.heap.size ⟨b', none, 0, [], none, 0, []⟩) := hJ (((cs_new1 (by simpa using hli) hft' hcp hs3.out).base (by omega)).re HA8.out)
    have HFT' := hJ hft'
    have BR4 : Hid (BIs (w3.alloc (.cells (⟨b', none, 0, [], none, 0, []⟩ : CM).cells 86)) (w.heap.size + 1) #[.int .i64 0, .slice none 0 0, .int .i64 0, .slice none 0 0, .int .i64 0, .int .i64 0, .slice none 0 0, .slice none 0 0, .slice none 0 0] 28) := hJ (((BR1.out.ext X2.out).ext X3.out).ext (Ext.new _ _))
    have M4 : Hid (BIs (w3.alloc (.cells (⟨b', none, 0, [], none, 0, []⟩ : CM).cells 86)) w2.heap.size #[.int .i64 kind, .int .i64 num, .int .i64 first, .int .i64 mst, .string (strB pay), .slice Ae ents.length ce] 110) := hJ (M3.out.ext (Ext.new _ _))
    have X4 : Hid (Ext w (w3.alloc (.cells (⟨b', none, 0, [], none, 0, []⟩ : CM).cells 86))) := hJ ((((E0.out.trans X1.out).trans X2.out).trans X3.out).trans (Ext.new _ _))
    have HOE4 : Hid (entE.Own (w3.alloc (.cells (⟨b', none, 0, [], none, 0, []⟩ : CM).cells 86)) w.heap.size (.slice Ae ents.length ce) ents) := hJ ((HOE.out.base (by have := hp12.out; omega)).ext (X3.out.trans (Ext.new _ _)))
    have hvl : 0 < b'.vs.length := by
     have h1 := OK.out.vs
     rw [← HST.out] at h1
     simpa [BM.st, vws_len] using h1
    have hfv := hft'.vs
    obtain ⟨⟨tn, xs⟩, hlv⟩ : ∃ v, lastV (vws b'.vs) = v := ⟨_, rfl⟩
    have HLV := hJ hlv
    have HTN : Hid ((lastV b.st.views).1 = tn) := hJ (by rw [← HST.out]; show (lastV (vws b'.vs)).1 = tn; rw [hlv])
    clear hlv; have VB : Hid (VS b'.st) := hJ (by rw [HST.out]; exact VV.out)
    have OKB : Hid (OkS b'.st) := hJ (by rw [HST.out]; exact OK.out)
    have hmk : b'.marks.length ≤ 50000 := by have h9 : b'.marks.length ≤ 1000 := VB.out.mk_len; omega
    have hfn : b'.fls.length ≤ 49999 := by have h9 := VB.out.fl_len; rw [fls_len] at h9; omega
    have hlg : b'.log.length ≤ 2000 := OKB.out.log
    have HVX : Hid (∀ v ∈ b'.vs, v.xs.length ≤ 1000) := hJ (fun v hv => by have := (VB.out.vx v.v (List.mem_map_of_mem hv)).1; simp only [VwM.v] at this; omega)
    clear hst' hft' hli hc8 hpo hpc hx3 hvp hcpb hcp q0 q1 q2 q3 q4 q5 q6 q7 q8; unfold BM.cells
    go_upto_region 7 with fail
    unfold CM.cells at C4 BR4 M4 X4 HOE4
    simp only [List.length_nil] at C4 BR4 M4 X4 HOE4
    generalize w3.alloc (.cells #[.int .i64 b'.self, .slice b'.Av b'.vs.length b'.cv, .int .i64 b'.base, .slice b'.Al b'.log.length b'.cl, .int .i64 b'.stable, .int .i64 b'.sent, .slice b'.Ap b'.pend.length b'.cp, .slice b'.Am b'.marks.length b'.cm, .slice b'.Af b'.fls.length b'.cf, .slice none 0 0, .slice none 0 0] 86) = w4 at *
    have b1 : w4.cell? ⟨w2.heap.size, 1, none⟩ = some (.int .i64 num) := M4.out.cell 1
    have q1 : w4.cell? ⟨w3.heap.size, 1, none⟩ = some (.slice b'.Av b'.vs.length b'.cv) := C4.out.cell 1
    have hm4 : w2.heap.size < w4.heap.size := M4.out.lt
    have hc4 : w3.heap.size < w4.heap.size := C4.out.lt
    have hfd := field_view
    refine E_begin 10 (fun w' => w'.cell? ⟨w2.heap.size, 1, none⟩ = some (.int .i64 num) ∧ w'.cell? ⟨w3.heap.size, 1, none⟩ = some (.slice b'.Av b'.vs.length b'.cv)) (by kernel_rfl) ⟨b1, q1⟩ (fun hHeld => ?_)
    refine E_t 0 40 ?_; refine E_t 1 41 ?_; refine E_t 2 42 ?_; refine E_t 3 43 ?_; refine E_t 4 44 ?_; refine E_t 5 45 ?_; refine E_t 6 46 ?_; refine E_ready [7] (by kernel_rfl) (by simp) ?_
    refine AllE.cons (o := ⟨some 47, _, _, _, _, _⟩) rfl (fun K hK => ?_) AllE.nil
    go_simp; go_at_call 49; refine (last_b b'.Av b'.cv b'.vs _ (by exact C4.out.lies.vs.ext Ext.drew1) hvl (by omega) tn xs HLV.out).mono ?_
    rintro en w5 ⟨A5, c5, rfl, h51, h52, HR5, hx5⟩
    have X5 : Hid (Ext w4 w5) := hJ (Ext.drew1.trans hx5)
    clear hx5; clear hHeld; refine hK.out _ _ ⟨by rw [X5.out.cell (by exact hm4)]; exact b1, by rw [X5.out.cell (by exact hc4)]; exact q1⟩ (fun hHeld => ?_)
    clear hK K; try simp only [Act.put, aP1, aP2, aP3]
    refine E_t 8 48 ?_; refine E_t 9 49 ?_; refine E_end (by kernel_rfl) (by rfl) ?_
    clear b1 q1 hHeld; have C5 := hJ (C4.out.ext X5.out); have BR5 := hJ (BR4.out.ext X5.out); have M5 := hJ (M4.out.ext X5.out)
    have X05 := hJ (X4.out.trans X5.out)
    have HOE5 := hJ (HOE4.out.ext X5.out)
    obtain ⟨bq, hbq⟩ : ∃ x, (num == tn) = x := ⟨_, rfl⟩
    have HBQ := hJ hbq
    try simp only [hbq]
    clear hbq; go_upto_if 49 with fail
    go_cut [] (fun wx => ∃ (m6 : CM) (col6 : Nat → Nat), Hid (CS wx w.heap.size col6 w3.heap.size m6) ∧ Hid (m6.cs = (receiveF b.st fr frame).1) ∧ Hid (Stp w.heap.size [1, 2, 3, 4, 5, 7] (re (paint (paint col w3.heap.size 1) (w3.heap.size + 1) 8) (.slice Ae ents.length ce) 2) w5 col6 wx))
    case first =>
     cases bq with
     | false =>
      go_wp2; go_meet
      case rel => exact ⟨_, _, C5, hJ (by rw [HRG.out]; simp only; rw [if_neg (by rw [HTN.out]; simpa using HBQ.out)]; simp only [CM.cs, HST.out, List.map_nil]), hJ (Stp.refl _ _ _ _)⟩
     | true =>
      obtain ⟨b0, b1, b2, b3, b4, b5⟩ := six M5.out
      go_wp2_with fail
      refine (handle_any ⟨b', none, 0, [], none, 0, []⟩ w.heap.size (re (paint (paint col w3.heap.size 1) (w3.heap.size + 1) 8) (.slice Ae ents.length ce) 2) w3.heap.size fr kind num first mst pay ents Ae ce w5 C5.out OKB.out (by simp) hmk hfn HVX.out (by omega) HOE5.out (fun q hq => re_own hq) he1 hl1 HL2.out (by omega) hlg hl4).mono ?_
      rintro en w6 ⟨m6, col6, rfl, hc6, hm6, hs6⟩
      go_wp2; go_meet
      case rel => exact ⟨m6, col6, hJ hc6, hJ (by rw [HRG.out]; simp only; rw [if_pos (by rw [HTN.out]; simpa using HBQ.out), hm6]; simp only [CM.cs, HST.out, List.map_nil]), hJ hs6⟩
    case rest =>
     obtain ⟨m6, col6, hc6', hm6', S6⟩ := hcut
     have hc6 := hc6'.out
     have hME : Hid (m6.cs = (receiveF b.st fr frame).1) := hm6'
     clear hc6' hm6'; obtain ⟨w6, rfl⟩ : ∃ x, x = wc := ⟨_, rfl⟩
     have hRe : Hid (∀ k, k ≤ w.heap.size + 1 → (re (paint (paint col w3.heap.size 1) (w3.heap.size + 1) 8) (.slice Ae ents.length ce) 2) k = 8) := hJ (fun k hk => by have h1 := hp12.out; have h2 := hlt1.out; have h3 := hs3.out; rw [re_far (fun q hq => by have := (HAE.out q hq).1; omega), paint_old (by omega), paint_old (by omega)]; exact HC8.out _ (by simp; omega))
     have hcv8 : Hid ((re (paint (paint col w3.heap.size 1) (w3.heap.size + 1) 8) (.slice Ae ents.length ce) 2) (w.heap.size + 1) = 8) := hJ (hRe.out _ (Nat.le_refl _))
     have BRE := hJ (S6.out.bis BR5.out (by rw [hcv8.out]; simp))
     have XE : Hid (Ext w w6) := hJ (Below.trans X05.out (S6.out.below.mono (by omega)))
     have CE := hJ hc6
     have HCO : Hid (∀ k, k < w.heap.size → col6 k = 8) := hJ (fun k hk => (S6.out.hue _ (by have := X05.out.size; omega)).trans (hRe.out _ (by omega)))
     have hc8E : Hid (col6 (w.heap.size + 1) = 8) := hJ ((S6.out.hue _ BR5.out.lt).trans hcv8.out)
     have hne1 : w3.heap.size ≠ w.heap.size + 1 := by have h1 := hp12.out; have h2 := hlt1.out; have h3 := hs3.out; omega
     have q0 := CE.out.cell 0; have q1 := CE.out.cell 1; have q2 := CE.out.cell 2; have q3 := CE.out.cell 3; have q4 := CE.out.cell 4; have q5 := CE.out.cell 5; have q6 := CE.out.cell 6; have q7 := CE.out.cell 7; have q8 := CE.out.cell 8; have q9 := CE.out.cell 9; have q10 := CE.out.cell 10
     have HR2 : Hid ((receiveF b.st fr frame).2 = 0) := hJ (by rw [HRG.out])
     clear hc6; obtain ⟨⟨self, base, stable, sent, Av, cv, vs, Al, cl, log, Ap, cp, pend, Am, cm, marks, Af, cf, fls⟩, Ak, ck, pk, Ad, cd, dl⟩ := m6
     go_wp2; obtain ⟨wE, rfl⟩ : ∃ x, x = w6 := ⟨_, rfl⟩
     obtain ⟨colE, rfl⟩ : ∃ x, x = col6 := ⟨_, rfl⟩
     replace q0 : wE.cell? ⟨w3.heap.size, 0, none⟩ = some (.int .i64 self) := q0
     replace q1 : wE.cell? ⟨w3.heap.size, 1, none⟩ = some (.slice Av vs.length cv) := q1
     replace q2 : wE.cell? ⟨w3.heap.size, 2, none⟩ = some (.int .i64 base) := q2
     replace q3 : wE.cell? ⟨w3.heap.size, 3, none⟩ = some (.slice Al log.length cl) := q3
     replace q4 : wE.cell? ⟨w3.heap.size, 4, none⟩ = some (.int .i64 stable) := q4
     replace q5 : wE.cell? ⟨w3.heap.size, 5, none⟩ = some (.int .i64 sent) := q5
     replace q6 : wE.cell? ⟨w3.heap.size, 6, none⟩ = some (.slice Ap pend.length cp) := q6
     replace q7 : wE.cell? ⟨w3.heap.size, 7, none⟩ = some (.slice Am marks.length cm) := q7
     replace q8 : wE.cell? ⟨w3.heap.size, 8, none⟩ = some (.slice Af fls.length cf) := q8
     replace q9 : wE.cell? ⟨w3.heap.size, 9, none⟩ = some (.slice Ak pk.length ck) := q9
     replace q10 : wE.cell? ⟨w3.heap.size, 10, none⟩ = some (.slice Ad dl.length cd) := q10
     obtain ⟨y0, y1, y2, y3, y4, y5, y6, y7, y8⟩ := nine BRE.out
     obtain ⟨z0, z1, z2, z3, z4, z5, z6, z7, z8⟩ := BRE.out.free9
     refine E_begin 16 (fun w' => w'.cell? ⟨w3.heap.size, 0, none⟩ = some (.int .i64 self) ∧ w'.cell? ⟨w3.heap.size, 1, none⟩ = some (.slice Av vs.length cv) ∧ w'.cell? ⟨w3.heap.size, 2, none⟩ = some (.int .i64 base) ∧ w'.cell? ⟨w3.heap.size, 3, none⟩ = some (.slice Al log.length cl) ∧ w'.cell? ⟨w3.heap.size, 4, none⟩ = some (.int .i64 stable) ∧ w'.cell? ⟨w3.heap.size, 5, none⟩ = some (.int .i64 sent) ∧ w'.cell? ⟨w3.heap.size, 6, none⟩ = some (.slice Ap pend.length cp) ∧ w'.cell? ⟨w3.heap.size, 7, none⟩ = some (.slice Am marks.length cm) ∧ w'.cell? ⟨w3.heap.size, 8, none⟩ = some (.slice Af fls.length cf) ∧ w'.cell? ⟨w3.heap.size, 9, none⟩ = some (.slice Ak pk.length ck) ∧ w'.cell? ⟨w3.heap.size, 10, none⟩ = some (.slice Ad dl.length cd)) (by kernel_rfl) ⟨by simpa using q0, by simpa using q1, by simpa using q2, by simpa using q3, by simpa using q4, by simpa using q5, by simpa using q6, by simpa using q7, by simpa using q8, by simpa using q9, by simpa using q10⟩ (fun hHeld => ?_)
     refine E_t 0 54 ?_; refine E_t 1 55 ?_; refine E_t 2 56 ?_; refine E_t 3 57 ?_; refine E_t 4 58 ?_; refine E_t 5 59 ?_; refine E_t 6 60 ?_; refine E_t 7 61 ?_; refine E_t 8 62 ?_; refine E_t 9 63 ?_; refine E_t 10 64 ?_; refine E_t 11 65 ?_; refine E_ready [12] (by kernel_rfl) (by simp) ?_
     refine AllE.cons (o := ⟨none, _, _, _, _, _⟩) rfl (fun K hK => ?_) AllE.nil
     go_simp; clear hHeld; refine hK.out _ _ ⟨(nine_far hne1).trans q0, (nine_far hne1).trans q1, (nine_far hne1).trans q2, (nine_far hne1).trans q3, (nine_far hne1).trans q4, (nine_far hne1).trans q5, (nine_far hne1).trans q6, (nine_far hne1).trans q7, (nine_far hne1).trans q8, (nine_far hne1).trans q9, (nine_far hne1).trans q10⟩ (fun hHeld => ?_)
     clear hK K; try simp only [Act.put, aP1, aP2, aP3]
     refine E_t 13 7 ?_; refine E_t 14 8 ?_; refine E_t 15 9 ?_; refine E_end (by kernel_rfl) (by rfl) ?_
     (try go_wp2)
     have BF : Hid (BIs (((((((((wE.setCell ⟨w.heap.size + 1, 0, none⟩ (.int .i64 self)).setCell ⟨w.heap.size + 1, 1, none⟩ (.slice Av vs.length cv)).setCell ⟨w.heap.size + 1, 2, none⟩ (.int .i64 base)).setCell ⟨w.heap.size + 1, 3, none⟩ (.slice Al log.length cl)).setCell ⟨w.heap.size + 1, 4, none⟩ (.int .i64 stable)).setCell ⟨w.heap.size + 1, 5, none⟩ (.int .i64 sent)).setCell ⟨w.heap.size + 1, 6, none⟩ (.slice Ap pend.length cp)).setCell ⟨w.heap.size + 1, 7, none⟩ (.slice Am marks.length cm)).setCell ⟨w.heap.size + 1, 8, none⟩ (.slice Af fls.length cf)).drew (w.heap.size + 1) #[.int .i64 self, .slice Av vs.length cv, .int .i64 base, .slice Al log.length cl, .int .i64 stable, .int .i64 sent, .slice Ap pend.length cp, .slice Am marks.length cm, .slice Af fls.length cf] 28) := hJ ((nine_set BRE.out).ext Ext.drew1)
     have XFF : Hid (Ext w (((((((((wE.setCell ⟨w.heap.size + 1, 0, none⟩ (.int .i64 self)).setCell ⟨w.heap.size + 1, 1, none⟩ (.slice Av vs.length cv)).setCell ⟨w.heap.size + 1, 2, none⟩ (.int .i64 base)).setCell ⟨w.heap.size + 1, 3, none⟩ (.slice Al log.length cl)).setCell ⟨w.heap.size + 1, 4, none⟩ (.int .i64 stable)).setCell ⟨w.heap.size + 1, 5, none⟩ (.int .i64 sent)).setCell ⟨w.heap.size + 1, 6, none⟩ (.slice Ap pend.length cp)).setCell ⟨w.heap.size + 1, 7, none⟩ (.slice Am marks.length cm)).setCell ⟨w.heap.size + 1, 8, none⟩ (.slice Af fls.length cf)).drew) := hJ ((nine_wrote.ext XE.out (by omega)).trans Ext.drew1)
     have SF : Hid (Stp w.heap.size [8] colE wE colE (((((((((wE.setCell ⟨w.heap.size + 1, 0, none⟩ (.int .i64 self)).setCell ⟨w.heap.size + 1, 1, none⟩ (.slice Av vs.length cv)).setCell ⟨w.heap.size + 1, 2, none⟩ (.int .i64 base)).setCell ⟨w.heap.size + 1, 3, none⟩ (.slice Al log.length cl)).setCell ⟨w.heap.size + 1, 4, none⟩ (.int .i64 stable)).setCell ⟨w.heap.size + 1, 5, none⟩ (.int .i64 sent)).setCell ⟨w.heap.size + 1, 6, none⟩ (.slice Ap pend.length cp)).setCell ⟨w.heap.size + 1, 7, none⟩ (.slice Am marks.length cm)).setCell ⟨w.heap.size + 1, 8, none⟩ (.slice Af fls.length cf)).drew) := hJ ((Stp.wrote nine_wrote (by omega) (by have := XE.out.size; omega) (by rw [hc8E.out]; simp)).trans (Stp.ext' (by rw [show ((((((((((wE.setCell ⟨w.heap.size + 1, 0, none⟩ (.int .i64 self)).setCell ⟨w.heap.size + 1, 1, none⟩ (.slice Av vs.length cv)).setCell ⟨w.heap.size + 1, 2, none⟩ (.int .i64 base)).setCell ⟨w.heap.size + 1, 3, none⟩ (.slice Al log.length cl)).setCell ⟨w.heap.size + 1, 4, none⟩ (.int .i64 stable)).setCell ⟨w.heap.size + 1, 5, none⟩ (.int .i64 sent)).setCell ⟨w.heap.size + 1, 6, none⟩ (.slice Ap pend.length cp)).setCell ⟨w.heap.size + 1, 7, none⟩ (.slice Am marks.length cm)).setCell ⟨w.heap.size + 1, 8, none⟩ (.slice Af fls.length cf))).heap.size = wE.heap.size by simp [World.setCell]]; have := XE.out.size; omega) Ext.drew1))
     generalize (((((((((wE.setCell ⟨w.heap.size + 1, 0, none⟩ (.int .i64 self)).setCell ⟨w.heap.size + 1, 1, none⟩ (.slice Av vs.length cv)).setCell ⟨w.heap.size + 1, 2, none⟩ (.int .i64 base)).setCell ⟨w.heap.size + 1, 3, none⟩ (.slice Al log.length cl)).setCell ⟨w.heap.size + 1, 4, none⟩ (.int .i64 stable)).setCell ⟨w.heap.size + 1, 5, none⟩ (.int .i64 sent)).setCell ⟨w.heap.size + 1, 6, none⟩ (.slice Ap pend.length cp)).setCell ⟨w.heap.size + 1, 7, none⟩ (.slice Am marks.length cm)).setCell ⟨w.heap.size + 1, 8, none⟩ (.slice Af fls.length cf)).drew = W at *
     obtain ⟨e0, e1, e2, e3, e4, e5, e6, e7, e8⟩ := nine BF.out
     refine bodyPost_ret (v := .tuple #[.agg #[.int .i64 self, .slice Av vs.length cv, .int .i64 base, .slice Al log.length cl, .int .i64 stable, .int .i64 sent, .slice Ap pend.length cp, .slice Am marks.length cm, .slice Af fls.length cf], .slice Ak pk.length ck, .slice Ad dl.length cd, .int .i64 0]) (by simp [results, Tryz.results16, go_sem, e0, e1, e2, e3, e4, e5, e6, e7, e8]) rfl ?_
     rw [HR2.out]
     exact recv_out CE.out SF.out hME.out XFF.out (fun k hk => HCO.out k hk)
end Go.Proofs.YtponbabbabnaeaaGreat
