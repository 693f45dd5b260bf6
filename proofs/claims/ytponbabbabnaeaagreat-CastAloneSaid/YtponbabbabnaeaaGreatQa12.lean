/- Part 12 of the proof: contracts of functions that the statement reaches. Conditions: as each theorem says. -/
import Derived.Test.YtponbabbabnaeaaGreatQa11
namespace Go.Proofs.YtponbabbabnaeaaGreat
open Go.RowKit
def Wrote (p : Nat) (a b : World) : Prop := a.grownBy b (some p)
theorem Wrote.size {p : Nat} {a b : World} (h : Wrote p a b) : a.heap.size ≤ b.heap.size := World.grownBy.size h
theorem Wrote.blk {p : Nat} {a b : World} (h : Wrote p a b) {k : Nat} (hk : k < a.heap.size) (hp : k ≠ p) : b.heap[k]? = a.heap[k]? := World.grownBy.block h k hk (fun e => hp (Option.some.inj e))
theorem Wrote.refl (p : Nat) (a : World) : Wrote p a a := ⟨rfl, rfl, rfl, Nat.le_refl _, fun _ _ _ => rfl⟩
theorem Wrote.of {p : Nat} {a b : World} (h : Ext a b) : Wrote p a b := ⟨h.os, h.tape, h.output, h.size, fun k hk _ => h.block k hk⟩
theorem Wrote.trans {p : Nat} {a b c : World} (h : Wrote p a b) (g : Wrote p b c) : Wrote p a c :=
  ⟨g.os.trans h.os, g.tape.trans h.tape, g.output.trans h.output, Nat.le_trans h.size g.size, fun k hk hne => (World.grownBy.block g k (Nat.lt_of_lt_of_le hk h.size) hne).trans (World.grownBy.block h k hk hne)⟩
theorem Wrote.set (p i : Nat) (w : World) (v : Value) : Wrote p w (w.setCell ⟨p, i, none⟩ v) :=
  ⟨rfl, rfl, rfl, by simp [World.setCell], fun k _ hne => Below.heap_setCell _ _ _ _ (fun e => hne (by rw [e]))⟩
theorem Wrote.ext {p : Nat} {w0 a b : World} (h : Wrote p a b) (e : Ext w0 a) (hp : w0.heap.size ≤ p) : Ext w0 b :=
  Below.grown e h e.size (fun k hk => by cases hk; exact hp)
theorem Wrote.bis {p q : Nat} {a b : World} {vals : Array Value} {t : TypeId} (h : Wrote p a b) (k : BIs a q vals t) (hq : q ≠ p) : BIs b q vals t := k.same (h.blk k.lt hq)
def RS (w0 : World) (p : Nat) (w : World) (r : Rd) : Prop :=
  w0.heap.size ≤ p ∧ Ext w0 w ∧ r.1.length ≤ 1000000 ∧ ∃ A c, BIs w p #[.slice A r.1.length c, .bool r.2] 175 ∧ Row w0 A (bytesV r.1) ∧ r.1.length ≤ c
theorem RS.wrote {w0 w w' : World} {p q : Nat} {r : Rd} (h : RS w0 p w r) (g : Wrote q w w') (hq : p ≠ q) (h0 : w0.heap.size ≤ q) : RS w0 p w' r := by
  obtain ⟨h1, h2, h3, A, c, hb, hr, hc⟩ := h
  exact ⟨h1, g.ext h2 h0, h3, A, c, g.bis hb hq, hr, hc⟩
theorem RS.ext {w0 w w' : World} {p : Nat} {r : Rd} (h : RS w0 p w r) (g : Ext w w') : RS w0 p w' r := by
  obtain ⟨h1, h2, h3, A, c, hb, hr, hc⟩ := h
  exact ⟨h1, h2.trans g, h3, A, c, hb.ext g, hr, hc⟩
theorem RS.failed {w0 w : World} {p : Nat} {r : Rd} (h : RS w0 p w r) (b : Bool) : RS w0 p (w.setCell ⟨p, 1, none⟩ (.bool b)) (r.1, b) := by
  obtain ⟨h1, h2, h3, A, c, hb, hr, hc⟩ := h
  exact ⟨h1, (Wrote.set p 1 w _).ext h2 h1, h3, A, c, hb.set 1 _, hr, hc⟩
set_option maxRecDepth 100000 in
theorem rtake_any (w0 : World) (p : Nat) (r : Rd) (n : Nat) (e : Int) (w : World) (h : RS w0 p w r) (hn : n ≤ r.1.length) :
    Calls Tryz.prog 183 #[.pointer (some ⟨p, 0, none⟩), .int .i64 (n : Int), .int .i64 e] w fun en w' => en = .returned (.tuple #[]) ∧ RS w0 p w' (takeR r n e) ∧ Wrote p w w' := by
  have H := Lib.hid h
  obtain ⟨h1, h2, h3, A, c, hb, hr, hc⟩ := h
  obtain ⟨bs, f⟩ := r
  simp only at h3 hn hb hr hc
  have k0 : w.cell? ⟨p, 0, none⟩ = some (.slice A bs.length c) := hb.cell 0
  have k1 : w.cell? ⟨p, 1, none⟩ = some (.bool f) := hb.cell 1
  have f0 := hb.free 0
  have f1 := hb.free 1
  have HB := Lib.hid hb; have HR := Lib.hid hr; have H2 := Lib.hid h2
  clear hb hr h2
  by_cases he : e = 0
  · subst he
    have HT : Hid (takeR (bs, f) n 0 = (bs.drop n, f)) := Lib.hid (by simp [takeR])
    have hsl : ∀ W, (Instr.slice 29 (.slice A bs.length c) (some (.int .i64 (n : Int))) none none).run Tryz.prog W = .ok (.slice (subA A n c 1) (bs.length - n) (c - n)) W := fun W => bytE.slice_l A bs.length c n _ rfl hn W
    go_enter Tryz.func183, Tryz.ntmps183
    go_wp2
    go_end0
    refine ⟨rfl, ?_, Wrote.set _ _ _ _⟩
    rw [HT.out]
    refine ⟨h1, (Wrote.set p 0 w _).ext H2.out h1, by simp; omega, subA A n c 1, c - n, ?_, row_bytesV (Elem.row_from (row_bytes HR.out) hc n), by simp; omega⟩
    have := HB.out.set 0 (.slice (subA A n c 1) (bs.length - n) (c - n))
    simpa using this
  · have HT : Hid (takeR (bs, f) n e = (bs, true)) := Lib.hid (by simp [takeR, he])
    have hb : (e != 0) = true := by simpa using he
    clear he
    go_enter Tryz.func183, Tryz.ntmps183
    go_wp2
    (try simp only [Exit.inBlock, Exit.then]); refine bodyPost_ret (results_none rfl _ _ _) rfl ?_
    refine ⟨rfl, ?_, Wrote.set _ _ _ _⟩
    rw [HT.out]
    exact H.out.failed true
theorem RS.parts {w0 w : World} {p : Nat} {r : Rd} (h : RS w0 p w r) : ∃ A c, w.cell? ⟨p, 0, none⟩ = some (.slice A r.1.length c) ∧ w.cell? ⟨p, 1, none⟩ = some (.bool r.2) ∧ w.frozen? ⟨p, 0, none⟩ = false ∧ w.frozen? ⟨p, 1, none⟩ = false ∧ Hid (Row w A (bytesV r.1)) ∧ r.1.length ≤ c ∧ p < w.heap.size := by
  obtain ⟨h1, h2, h3, A, c, hb, hr, hc⟩ := h
  exact ⟨A, c, hb.cell 0, hb.cell 1, hb.free 0, hb.free 1, Lib.hid (hr.ext h2), hc, hb.lt⟩
set_option maxRecDepth 100000 in
theorem rnumber_any (w0 : World) (p : Nat) (r : Rd) (w : World) (h : RS w0 p w r) :
    Calls Tryz.prog 138 #[.pointer (some ⟨p, 0, none⟩)] w fun en w' => en = .returned (.int .i64 (numR r).1) ∧ RS w0 p w' (numR r).2 ∧ Wrote p w w' := by
  have H := Lib.hid h
  obtain ⟨A, c, k0, k1, f0, f1, HR, hc, hpl⟩ := h.parts
  have h3 : r.1.length ≤ 1000000 := h.2.2.1
  have hin := decU_in r.1
  obtain ⟨⟨v, n, e⟩, hd⟩ : ∃ d, decU r.1 = d := ⟨_, rfl⟩
  have HD := Lib.hid hd
  rw [hd] at hin
  simp only at hin
  have hn : n ≤ r.1.length := hin.2.1
  have hv : v < 18446744073709551616 := hin.1
  clear hd hin h
  by_cases hb : 1099511627776 < v
  · have HN : Hid (numR r = (0, (takeR r n e).1, true)) := Lib.hid (by unfold numR; rw [HD.out]; simp only; rw [if_pos hb])
    have hdd : decide ((1099511627776 : Int) < (v : Int)) = true := by simp; omega
    go_enter Tryz.func138, Tryz.ntmps138
    go_wp2_with fail
    refine (uint_any A c r.1 w HR.out (by omega)).mono ?_
    rintro en w' ⟨rfl, rfl⟩
    rw [HD.out]
    unfold retU
    go_wp2_with fail
    refine (rtake_any w0 p r n e w H.out hn).mono ?_
    rintro en w1 ⟨rfl, hr1, hw1⟩
    have H1 := Lib.hid hr1; have W1 := Lib.hid hw1
    obtain ⟨A1, c1, k0', k1', f0', f1', HR1, hc1, hpl1⟩ := hr1.parts
    clear hr1 hw1
    go_wp2
    go_ret
    rw [HN.out]
    exact ⟨rfl, H1.out.failed true, W1.out.trans (Wrote.set _ _ _ _)⟩
  · have HN : Hid (numR r = ((v : Int), takeR r n e)) := Lib.hid (by unfold numR; rw [HD.out]; simp only; rw [if_neg hb])
    have hdd : decide ((1099511627776 : Int) < (v : Int)) = false := by simp; omega
    have hww : IntKind.i64.wrap (v : Int) = (v : Int) := IntWalk.i64_in _ (by omega)
    go_enter Tryz.func138, Tryz.ntmps138
    go_wp2_with fail
    refine (uint_any A c r.1 w HR.out (by omega)).mono ?_
    rintro en w' ⟨rfl, rfl⟩
    rw [HD.out]
    unfold retU
    go_wp2_with fail
    refine (rtake_any w0 p r n e w H.out hn).mono ?_
    rintro en w1 ⟨rfl, hr1, hw1⟩
    have H1 := Lib.hid hr1; have W1 := Lib.hid hw1
    clear hr1 hw1
    go_wp2
    go_ret
    rw [HN.out]
    exact ⟨rfl, H1.out, W1.out⟩
set_option maxRecDepth 100000 in
theorem rbase_any (w0 : World) (p : Nat) (r : Rd) (w : World) (h : RS w0 p w r) :
    Calls Tryz.prog 141 #[.pointer (some ⟨p, 0, none⟩)] w fun en w' => en = .returned (.int .i64 (baseR r).1) ∧ RS w0 p w' (baseR r).2 ∧ Wrote p w w' := by
  have H := Lib.hid h
  obtain ⟨A, c, k0, k1, f0, f1, HR, hc, hpl⟩ := h.parts
  have h3 : r.1.length ≤ 1000000 := h.2.2.1
  have hin := decI_in r.1
  obtain ⟨⟨v, n, e⟩, hd⟩ : ∃ d, decI r.1 = d := ⟨_, rfl⟩
  have HD := Lib.hid hd
  rw [hd] at hin
  simp only at hin
  clear hd h
  by_cases hb : v < -1 ∨ 1099511627776 < v
  · have HN : Hid (baseR r = (v, (takeR r n e).1, true)) := Lib.hid (by unfold baseR; rw [HD.out]; simp only; rw [if_pos hb])
    by_cases hb1 : v < -1
    · go_enter Tryz.func141, Tryz.ntmps141
      go_wp2_with fail
      refine (int_any A c r.1 w HR.out (by omega)).mono ?_
      rintro en w' ⟨rfl, rfl⟩
      rw [HD.out]
      unfold retI
      go_wp2_with fail
      refine (rtake_any w0 p r n e w H.out hin).mono ?_
      rintro en w1 ⟨rfl, hr1, hw1⟩
      have H1 := Lib.hid hr1; have W1 := Lib.hid hw1
      obtain ⟨A1, c1, k0', k1', f0', f1', HR1, hc1, hpl1⟩ := hr1.parts
      clear hr1 hw1
      go_wp2
      go_ret
      rw [HN.out]
      exact ⟨rfl, H1.out.failed true, W1.out.trans (Wrote.set _ _ _ _)⟩
    · have hb2 : 1099511627776 < v := by omega
      go_enter Tryz.func141, Tryz.ntmps141
      go_wp2_with fail
      refine (int_any A c r.1 w HR.out (by omega)).mono ?_
      rintro en w' ⟨rfl, rfl⟩
      rw [HD.out]
      unfold retI
      go_wp2_with fail
      refine (rtake_any w0 p r n e w H.out hin).mono ?_
      rintro en w1 ⟨rfl, hr1, hw1⟩
      have H1 := Lib.hid hr1; have W1 := Lib.hid hw1
      obtain ⟨A1, c1, k0', k1', f0', f1', HR1, hc1, hpl1⟩ := hr1.parts
      clear hr1 hw1
      go_wp2
      go_ret
      rw [HN.out]
      exact ⟨rfl, H1.out.failed true, W1.out.trans (Wrote.set _ _ _ _)⟩
  · have HN : Hid (baseR r = (v, takeR r n e)) := Lib.hid (by unfold baseR; rw [HD.out]; simp only; rw [if_neg hb])
    have hb1 : ¬ v < -1 := fun h => hb (.inl h)
    have hb2 : ¬ 1099511627776 < v := fun h => hb (.inr h)
    clear hb
    go_enter Tryz.func141, Tryz.ntmps141
    go_wp2_with fail
    refine (int_any A c r.1 w HR.out (by omega)).mono ?_
    rintro en w' ⟨rfl, rfl⟩
    rw [HD.out]
    unfold retI
    go_wp2_with fail
    refine (rtake_any w0 p r n e w H.out hin).mono ?_
    rintro en w1 ⟨rfl, hr1, hw1⟩
    have H1 := Lib.hid hr1; have W1 := Lib.hid hw1
    clear hr1 hw1
    go_wp2
    go_ret
    rw [HN.out]
    exact ⟨rfl, H1.out, W1.out⟩
theorem decS_in (bs : List UInt8) (m : Nat) : (decS bs m).2.1 ≤ bs.length := by
  have h := decN_in bs m
  unfold decS
  split
  · exact Nat.zero_le _
  · split
    · exact Nat.zero_le _
    · simp only; omega
set_option maxRecDepth 100000 in
theorem rpayload_any (w0 : World) (p : Nat) (r : Rd) (w : World) (h : RS w0 p w r) :
    Calls Tryz.prog 139 #[.pointer (some ⟨p, 0, none⟩)] w fun en w' => en = .returned (.string (strB (payR r).1)) ∧ RS w0 p w' (payR r).2 ∧ Wrote p w w' := by
  have H := Lib.hid h
  obtain ⟨A, c, k0, k1, f0, f1, HR, hc, hpl⟩ := h.parts
  have h3 : r.1.length ≤ 1000000 := h.2.2.1
  have hin := decS_in r.1 6000
  obtain ⟨⟨v, n, e⟩, hd⟩ : ∃ d, decS r.1 6000 = d := ⟨_, rfl⟩
  have HD := Lib.hid hd
  rw [hd] at hin
  simp only at hin
  clear hd h
  have HN : Hid (payR r = (v, takeR r n e)) := Lib.hid (by unfold payR; rw [HD.out])
  go_enter Tryz.func139, Tryz.ntmps139
  go_wp2_with fail
  refine (string_any A c r.1 6000 w HR.out hc (by omega) (by omega)).mono ?_
  rintro en w' ⟨rfl, rfl⟩
  rw [HD.out]
  unfold retS
  go_wp2_with fail
  refine (rtake_any w0 p r n e w H.out hin).mono ?_
  rintro en w1 ⟨rfl, hr1, hw1⟩
  have H1 := Lib.hid hr1; have W1 := Lib.hid hw1
  clear hr1 hw1
  go_wp2
  go_ret
  rw [HN.out]
  exact ⟨rfl, H1.out, W1.out⟩
theorem entsGo_fail {k : Nat} {r : Rd} {out : List Ent} (h : r.2 = true) : entsGo k r out = (out, r) := by
  cases k with
  | zero => rfl
  | succ k => rw [entsGo, if_pos h]
theorem entsGo_step {k : Nat} {r : Rd} {out : List Ent} (h : r.2 = false) : entsGo (k + 1) r out = entsGo k (entR r).2 (out ++ [(entR r).1]) := by
  rw [entsGo, if_neg (by rw [h]; simp)]
theorem ent1_row (e : Ent) (w : World) : Row (w.alloc (.cells #[.int .i64 e.v, .int .i64 e.o, .int .i64 e.q, .string (strB e.p)] 66)) (some ⟨w.heap.size, 0, none⟩) (entE.cells [e]) := by
  intro _
  refine ⟨w.heap.size, 0, rfl, by simp, fun j q hj => ?_⟩
  simp only [Elem.cells, entE, List.flatMap_cons, List.flatMap_nil, List.append_nil] at hj
  match j, hj with
  | 0, hj => simpa using hj
  | 1, hj => simpa using hj
  | 2, hj => simpa using hj
  | 3, hj => simpa using hj
theorem ent_good {W : World} {v : Value} {l : List Ent} : ∀ q ∈ l, entE.ok q ∧ ∀ r ∈ entE.inn q, Row W r.1 r.2 ∧ Apt v r := fun _ _ => ⟨trivial, fun r hr => by simp [entE] at hr⟩
theorem Wrote.ob {w w' : World} {p B : Nat} {v : Value} {l : List Ent} (h : Wrote p w w') (ho : entE.OB w B v l) (hp : ∀ k, v.ownBlock = some k → k ≠ p) : entE.OB w' B v l :=
  ⟨ho.1.keep fun k hk hlt => h.blk hlt (hp k hk), fun a ha => ⟨(ho.2 a ha).1, fun r hr => by simp [entE] at hr⟩⟩
theorem Grew.wrote {a b : World} {v : Value} (g : Grew a b v) {p B : Nat} {w0 : World} (h : Wrote p w0 a) (hB : w0.heap.size ≤ B) (hv : ∀ k, v.ownBlock = some k → B ≤ k) : Wrote p w0 b :=
  ⟨g.os.trans h.os, g.tape.trans h.tape, g.output.trans h.output, Nat.le_trans h.size g.size, fun k hk hne => (g.block k (Nat.lt_of_lt_of_le hk h.size) (fun e => by have := hv k e.symm; omega)).trans (World.grownBy.block h k hk hne)⟩
theorem Grew.rs {a b : World} {v : Value} (g : Grew a b v) {p : Nat} {w0 : World} {r : Rd} (h : RS w0 p a r) (hv : ∀ k, v.ownBlock = some k → k ≠ p ∧ w0.heap.size ≤ k) : RS w0 p b r := by
  obtain ⟨h1, h2, h3, A, c, hb, hr, hc⟩ := h
  exact ⟨h1, g.below h2 h2.size (fun k hk => (hv k hk).2), h3, A, c, hb.same (g.block p hb.lt (fun e => (hv p e.symm).1 rfl)), hr, hc⟩
set_option maxRecDepth 100000 in
set_option maxHeartbeats 1000000 in
theorem rentries_any (w0 : World) (p : Nat) (r : Rd) (w : World) (h : RS w0 p w r) :
    Calls Tryz.prog 140 #[.pointer (some ⟨p, 0, none⟩)] w fun en w' => ∃ A c, en = .returned (.slice A (entsR r).1.length c) ∧ (entsR r).1.length ≤ c ∧ c ≤ maxLen ∧ entE.OB w' w.heap.size (.slice A (entsR r).1.length c) (entsR r).1 ∧ RS w0 p w' (entsR r).2 ∧ Wrote p w w' := by
  have H := Lib.hid h
  obtain ⟨A, c, k0, k1, f0, f1, HR, hc, hpl⟩ := h.parts
  clear h k0 k1 f0 f1 HR hc
  have hnn : 0 ≤ (numR r).1 ∧ (numR r).1 ≤ 1099511627776 := by
    unfold numR
    split
    · simp
    · simp only; omega
  obtain ⟨⟨n, r1⟩, hn⟩ : ∃ d, numR r = d := ⟨_, rfl⟩
  have HN := Lib.hid hn
  rw [hn] at hnn
  simp only at hnn
  obtain ⟨m, rfl⟩ : ∃ m : Nat, n = (m : Int) := ⟨n.toNat, by omega⟩
  clear hn
  have HER : Hid (entsR r = entsGo m (if 2000 < (m : Int) then (r1.1, true) else r1) []) := Lib.hid (by unfold entsR; rw [HN.out]; simp)
  go_enter Tryz.func140, Tryz.ntmps140
  go_wp2_with fail
  refine (rnumber_any w0 p r w H.out).mono ?_
  rintro en w1 ⟨rfl, hr1, hw1⟩
  rw [HN.out] at hr1 ⊢
  simp only at hr1
  have H1 := Lib.hid hr1; have W1 := Lib.hid hw1
  obtain ⟨A1, c1, k0', k1', f0', f1', HR1, hc1, hpl1⟩ := hr1.parts
  clear hr1 hw1
  by_cases hbig : 2000 < m
  · have hdd : decide ((2000 : Int) < (m : Int)) = true := by simp; omega
    have HF : Hid (entsR r = ([], (r1.1, true))) := Lib.hid (by rw [HER.out, if_pos (by omega)]; exact entsGo_fail rfl)
    go_wp2
    go_loopw [3, 4] (fun ct v wr => ∃ (k : Nat) (out : List Ent) (r' : Rd) (v' : Value), v' = v ∧ ct = .int .i64 (k : Int) ∧ Hid (entsGo k r' out = entsR r) ∧ (r'.2 = true ∨ out.length + k ≤ 2000) ∧ k ≤ 1099511627776 ∧ Hid (entE.OB wr w.heap.size v' out) ∧ Hid (RS w0 p wr r') ∧ Hid (Wrote p w wr)) (fun ct _ _ => (intOf ct).toNat)
    case atStart => exact ⟨m, [], (r1.1, true), _, rfl, rfl, Lib.hid (by rw [HF.out]; exact entsGo_fail rfl), .inl rfl, by omega, Lib.hid (Elem.OB.nil _ _), Lib.hid (H1.out.failed true), Lib.hid (W1.out.trans (Wrote.set _ _ _ _))⟩
    case round =>
      obtain ⟨k, out, r', v, rfl, rfl, HG, hbd, hk40, HO, HRS, HW⟩ := hrel
      obtain ⟨A2, c2, k0'', k1'', f0'', f1'', HR2, hc2, hpl2⟩ := HRS.out.parts
      have hvp : Hid (∀ q, v.ownBlock = some q → q ≠ p ∧ w0.heap.size ≤ q ∧ w.heap.size ≤ q) := Lib.hid (fun q hq => by have := (HO.out.1.lt q hq).1; have := H.out.2.1.size; omega)
      clear k0'' f0'' f1'' HR2 hc2
      by_cases hk : 0 < k
      · have hdk : decide ((0 : Int) < (k : Int)) = true := by simp; omega
        cases hf : r'.2 with
        | true =>
          rw [hf] at k1''
          have HD := Lib.hid ((entsGo_fail hf).symm.trans HG.out)
          clear HG
          go_wp2
          go_ret
          rw [← HD.out]
          obtain ⟨A3, c3, rfl, h1, h2, _⟩ := HO.out.slice
          exact ⟨A3, c3, rfl, h1, h2, HO.out, HRS.out, HW.out⟩
        | false =>
          rw [hf] at k1''
          obtain ⟨j, rfl⟩ : ∃ j, k = j + 1 := ⟨k - 1, by omega⟩
          have HD := Lib.hid ((entsGo_step hf).symm.trans HG.out)
          have hol : out.length + 1 ≤ 2000 := by rcases hbd with h | h; exact absurd (hf.symm.trans h) (by simp); omega
          have hbd' : out.length + 1 + j ≤ 2000 := by rcases hbd with h | h; exact absurd (hf.symm.trans h) (by simp); omega
          clear HG hbd
          obtain ⟨⟨a, r2⟩, ha⟩ : ∃ d, numR r' = d := ⟨_, rfl⟩
          obtain ⟨⟨b, r3⟩, hb⟩ : ∃ d, numR r2 = d := ⟨_, rfl⟩
          obtain ⟨⟨q, r4⟩, hq⟩ : ∃ d, numR r3 = d := ⟨_, rfl⟩
          obtain ⟨⟨pl, r5⟩, hp⟩ : ∃ d, payR r4 = d := ⟨_, rfl⟩
          have HER5 : Hid (entR r' = (⟨a, b, q, pl⟩, r5)) := Lib.hid (by unfold entR; rw [ha]; simp only; rw [hb]; simp only; rw [hq]; simp only; rw [hp])
          have HA := Lib.hid ha; have HB := Lib.hid hb; have HQ := Lib.hid hq; have HP := Lib.hid hp
          clear ha hb hq hp hf
          go_wp2_with fail
          refine (rnumber_any w0 p r' wr HRS.out).mono ?_
          rintro en w2 ⟨rfl, hr2, hw2⟩
          rw [HA.out] at hr2 ⊢
          have H2 := Lib.hid hr2; have W2 := Lib.hid hw2
          clear hr2 hw2
          go_wp2_with fail
          refine (rnumber_any w0 p r2 w2 H2.out).mono ?_
          rintro en w3 ⟨rfl, hr2, hw2⟩
          rw [HB.out] at hr2 ⊢
          have H3 := Lib.hid hr2; have W3 := Lib.hid (W2.out.trans hw2)
          clear hr2 hw2
          go_wp2_with fail
          refine (rnumber_any w0 p r3 w3 H3.out).mono ?_
          rintro en w4 ⟨rfl, hr2, hw2⟩
          rw [HQ.out] at hr2 ⊢
          have H4 := Lib.hid hr2; have W4 := Lib.hid (W3.out.trans hw2)
          clear hr2 hw2
          go_wp2_with fail
          refine (rpayload_any w0 p r4 w4 H4.out).mono ?_
          rintro en w5 ⟨rfl, hr2, hw2⟩
          rw [HP.out] at hr2 ⊢
          have H5 := Lib.hid hr2; have W5 := Lib.hid (W4.out.trans hw2)
          clear hr2 hw2
          have HO5 := Lib.hid (W5.out.ob HO.out (fun k hk => (hvp.out k hk).1))
          have hszw : Hid (w.heap.size ≤ w5.heap.size) := Lib.hid (Nat.le_trans HW.out.size W5.out.size)
          go_wp2_with (first
            | (at_builtin; refine push_e entE rfl (.tmp 23) (.tmp 33) rfl _ w.heap.size _ out (by rfl) _ 1 1 [⟨a, b, q, pl⟩] (by rfl) rfl (ent1_row ⟨a, b, q, pl⟩ w5) (HO5.out.ext (Ext.new _ _)) ent_good (by omega) (by have := hszw.out; simp; omega) ?_; intro v6 w6 ho6 hg6 hs6))
          have HO6 := Lib.hid ho6
          have H6 : Hid (RS w0 p w6 r5) := Lib.hid (hg6.rs (H5.out.ext (Ext.new _ _)) (fun k hk => ⟨(hvp.out k hk).1, (hvp.out k hk).2.1⟩))
          have W6 : Hid (Wrote p w w6) := Lib.hid (hg6.wrote (B := w.heap.size) ((HW.out.trans W5.out).trans (Wrote.of (Ext.new _ _))) (Nat.le_refl _) (fun k hk => (hvp.out k hk).2.2))
          clear ho6 hg6 hs6
          go_roundw
          case rel => exact ⟨j, out ++ [⟨a, b, q, pl⟩], r5, _, rfl, by go_num, Lib.hid (by rw [← HD.out, HER5.out]), .inr (by simp; omega), by omega, HO6, H6, W6⟩
          case measure => simp [intOf]
      · have hk0 : k = 0 := by omega
        subst hk0
        have HD : Hid ((out, r') = entsR r) := HG
        clear HG
        go_wp2
        go_ret
        rw [← HD.out]
        obtain ⟨A3, c3, rfl, h1, h2, _⟩ := HO.out.slice
        exact ⟨A3, c3, rfl, h1, h2, HO.out, HRS.out, HW.out⟩
  · have hdd : decide ((2000 : Int) < (m : Int)) = false := by simp; omega
    have HF : Hid (entsR r = entsGo m r1 []) := Lib.hid (by rw [HER.out, if_neg (by omega)])
    go_wp2
    go_loopw [3, 4] (fun ct v wr => ∃ (k : Nat) (out : List Ent) (r' : Rd) (v' : Value), v' = v ∧ ct = .int .i64 (k : Int) ∧ Hid (entsGo k r' out = entsR r) ∧ (r'.2 = true ∨ out.length + k ≤ 2000) ∧ k ≤ 1099511627776 ∧ Hid (entE.OB wr w.heap.size v' out) ∧ Hid (RS w0 p wr r') ∧ Hid (Wrote p w wr)) (fun ct _ _ => (intOf ct).toNat)
    case atStart => exact ⟨m, [], r1, _, rfl, rfl, Lib.hid (by rw [HF.out]), .inr (by simp; omega), by omega, Lib.hid (Elem.OB.nil _ _), H1, W1⟩
    case round =>
      obtain ⟨k, out, r', v, rfl, rfl, HG, hbd, hk40, HO, HRS, HW⟩ := hrel
      obtain ⟨A2, c2, k0'', k1'', f0'', f1'', HR2, hc2, hpl2⟩ := HRS.out.parts
      have hvp : Hid (∀ q, v.ownBlock = some q → q ≠ p ∧ w0.heap.size ≤ q ∧ w.heap.size ≤ q) := Lib.hid (fun q hq => by have := (HO.out.1.lt q hq).1; have := H.out.2.1.size; omega)
      clear k0'' f0'' f1'' HR2 hc2
      by_cases hk : 0 < k
      · have hdk : decide ((0 : Int) < (k : Int)) = true := by simp; omega
        cases hf : r'.2 with
        | true =>
          rw [hf] at k1''
          have HD := Lib.hid ((entsGo_fail hf).symm.trans HG.out)
          clear HG
          go_wp2
          go_ret
          rw [← HD.out]
          obtain ⟨A3, c3, rfl, h1, h2, _⟩ := HO.out.slice
          exact ⟨A3, c3, rfl, h1, h2, HO.out, HRS.out, HW.out⟩
        | false =>
          rw [hf] at k1''
          obtain ⟨j, rfl⟩ : ∃ j, k = j + 1 := ⟨k - 1, by omega⟩
          have HD := Lib.hid ((entsGo_step hf).symm.trans HG.out)
          have hol : out.length + 1 ≤ 2000 := by rcases hbd with h | h; exact absurd (hf.symm.trans h) (by simp); omega
          have hbd' : out.length + 1 + j ≤ 2000 := by rcases hbd with h | h; exact absurd (hf.symm.trans h) (by simp); omega
          clear HG hbd
          obtain ⟨⟨a, r2⟩, ha⟩ : ∃ d, numR r' = d := ⟨_, rfl⟩
          obtain ⟨⟨b, r3⟩, hb⟩ : ∃ d, numR r2 = d := ⟨_, rfl⟩
          obtain ⟨⟨q, r4⟩, hq⟩ : ∃ d, numR r3 = d := ⟨_, rfl⟩
          obtain ⟨⟨pl, r5⟩, hp⟩ : ∃ d, payR r4 = d := ⟨_, rfl⟩
          have HER5 : Hid (entR r' = (⟨a, b, q, pl⟩, r5)) := Lib.hid (by unfold entR; rw [ha]; simp only; rw [hb]; simp only; rw [hq]; simp only; rw [hp])
          have HA := Lib.hid ha; have HB := Lib.hid hb; have HQ := Lib.hid hq; have HP := Lib.hid hp
          clear ha hb hq hp hf
          go_wp2_with fail
          refine (rnumber_any w0 p r' wr HRS.out).mono ?_
          rintro en w2 ⟨rfl, hr2, hw2⟩
          rw [HA.out] at hr2 ⊢
          have H2 := Lib.hid hr2; have W2 := Lib.hid hw2
          clear hr2 hw2
          go_wp2_with fail
          refine (rnumber_any w0 p r2 w2 H2.out).mono ?_
          rintro en w3 ⟨rfl, hr2, hw2⟩
          rw [HB.out] at hr2 ⊢
          have H3 := Lib.hid hr2; have W3 := Lib.hid (W2.out.trans hw2)
          clear hr2 hw2
          go_wp2_with fail
          refine (rnumber_any w0 p r3 w3 H3.out).mono ?_
          rintro en w4 ⟨rfl, hr2, hw2⟩
          rw [HQ.out] at hr2 ⊢
          have H4 := Lib.hid hr2; have W4 := Lib.hid (W3.out.trans hw2)
          clear hr2 hw2
          go_wp2_with fail
          refine (rpayload_any w0 p r4 w4 H4.out).mono ?_
          rintro en w5 ⟨rfl, hr2, hw2⟩
          rw [HP.out] at hr2 ⊢
          have H5 := Lib.hid hr2; have W5 := Lib.hid (W4.out.trans hw2)
          clear hr2 hw2
          have HO5 := Lib.hid (W5.out.ob HO.out (fun k hk => (hvp.out k hk).1))
          have hszw : Hid (w.heap.size ≤ w5.heap.size) := Lib.hid (Nat.le_trans HW.out.size W5.out.size)
          go_wp2_with (first
            | (at_builtin; refine push_e entE rfl (.tmp 23) (.tmp 33) rfl _ w.heap.size _ out (by rfl) _ 1 1 [⟨a, b, q, pl⟩] (by rfl) rfl (ent1_row ⟨a, b, q, pl⟩ w5) (HO5.out.ext (Ext.new _ _)) ent_good (by omega) (by have := hszw.out; simp; omega) ?_; intro v6 w6 ho6 hg6 hs6))
          have HO6 := Lib.hid ho6
          have H6 : Hid (RS w0 p w6 r5) := Lib.hid (hg6.rs (H5.out.ext (Ext.new _ _)) (fun k hk => ⟨(hvp.out k hk).1, (hvp.out k hk).2.1⟩))
          have W6 : Hid (Wrote p w w6) := Lib.hid (hg6.wrote (B := w.heap.size) ((HW.out.trans W5.out).trans (Wrote.of (Ext.new _ _))) (Nat.le_refl _) (fun k hk => (hvp.out k hk).2.2))
          clear ho6 hg6 hs6
          go_roundw
          case rel => exact ⟨j, out ++ [⟨a, b, q, pl⟩], r5, _, rfl, by go_num, Lib.hid (by rw [← HD.out, HER5.out]), .inr (by simp; omega), by omega, HO6, H6, W6⟩
          case measure => simp [intOf]
      · have hk0 : k = 0 := by omega
        subst hk0
        have HD : Hid ((out, r') = entsR r) := HG
        clear HG
        go_wp2
        go_ret
        rw [← HD.out]
        obtain ⟨A3, c3, rfl, h1, h2, _⟩ := HO.out.slice
        exact ⟨A3, c3, rfl, h1, h2, HO.out, HRS.out, HW.out⟩
end Go.Proofs.YtponbabbabnaeaaGreat
