/- Part 11 of the proof: contracts of functions that the statement reaches. Conditions: as each theorem says. -/
import Derived.Test.YtponbabbabnaeaaGreatQa10
import Derived.Test.YtponbabbabnaeaaGreatQa05
import Derived.Test.YtponbabbabnaeaaGreatQa08
import Derived.Test.YtponbabbabnaeaaGreatQa09
namespace Go.Proofs.YtponbabbabnaeaaGreat
open Go.RowKit
theorem step_push_e {α : Type} {ops : Array Oper} {o : Oper} {a : Act} {K : Act → World → Prop} {Q : Exit → Act → World → Prop} {X : Prop} (E : Elem α) (hgd : o.guard = none) (s x : Operand)
    (ho : o.op = .call { callee := .builtin .append, args := #[s, x], argTypes := #[E.st, E.st] })
    (W : World) (B : Nat) (v : Value) (l : List α) (hs : a.eval s = v) (ad : Addr) (m c : Nat) (news : List α) (hx : a.eval x = .slice (some ad) m c) (hm : m = news.length) (hr : Row W (some ad) (E.cells news)) (hp : 0 < m)
    (hob : E.OB W B v l) (hgood : ∀ q ∈ news, E.ok q ∧ ∀ r ∈ E.inn q, Row W r.1 r.2 ∧ Apt v r) (hl : l.length + m ≤ 20000000) (hB : B ≤ W.heap.size)
    (h : ∀ v' w', E.OB w' B v' (l ++ news) → Grew W w' v → Stems W v v' → K (a.put o.dst v') w') : if Region.wanted o (yielded ops a.tmps) = true then Oper.wp Tryz.prog o a W K Q else X := by
  have hw : Region.wanted o (yielded ops a.tmps) = true := by simp [Region.wanted, hgd]
  rw [if_pos hw]
  exact wp_push_e E s x ho W B v l hs ad m c news hx hm hr hp hob hgood hl hB h
theorem grew_cell {a b : World} {v : Value} (g : Grew a b v) {p i : Nat} (hp : p < a.heap.size) (hv : ∀ k, v.ownBlock = some k → k ≠ p) : b.cell? ⟨p, i, none⟩ = a.cell? ⟨p, i, none⟩ :=
  World.cell?_of_block (a := ⟨p, i, none⟩) (g.block p hp (fun e => hv p e.symm rfl))
theorem ints3_row (x y z : Int) (w : World) : Row (w.alloc (.cells #[.int .i64 x, .int .i64 y, .int .i64 z] 3)) (some ⟨w.heap.size, 0, none⟩) (ints [x, y, z]) := by
  intro _
  refine ⟨w.heap.size, 0, rfl, by simp, fun j q hj => ?_⟩
  simp only [ints, List.map_cons, List.map_nil] at hj
  match j, hj with
  | 0, hj => simpa using hj
  | 1, hj => simpa using hj
  | 2, hj => simpa using hj
theorem ints1_row (x : Int) (w : World) : Row (w.alloc (.cells #[.int .i64 x] 3)) (some ⟨w.heap.size, 0, none⟩) (ints [x]) := by
  intro _
  refine ⟨w.heap.size, 0, rfl, by simp, fun j q hj => ?_⟩
  simp only [ints, List.map_cons, List.map_nil] at hj
  match j, hj with
  | 0, hj => simpa using hj
theorem ints2_row (x y : Int) (w : World) : Row (w.alloc (.cells #[.int .i64 x, .int .i64 y] 3)) (some ⟨w.heap.size, 0, none⟩) (ints [x, y]) := by
  intro _
  refine ⟨w.heap.size, 0, rfl, by simp, fun j q hj => ?_⟩
  simp only [ints, List.map_cons, List.map_nil] at hj
  match j, hj with
  | 0, hj => simpa using hj
  | 1, hj => simpa using hj
theorem rowd {w : World} {n m off : Nat} {xs : List Value} (h : Row w (some ⟨m, off, none⟩) xs) (hn : n = m) : Row w.drew (some ⟨n, off, none⟩) xs := by subst hn; exact h.ext Ext.drew1
theorem br2_row (a b : BrM) (w : World) : Row (w.alloc (.cells #[.slice a.A a.bs.length a.c, .slice b.A b.bs.length b.c] 29)) (some ⟨w.heap.size, 0, none⟩) (brE.cells [a, b]) := by
  intro _
  refine ⟨w.heap.size, 0, rfl, by simp, fun j q hj => ?_⟩
  simp only [Elem.cells, brE, List.flatMap_cons, List.flatMap_nil, List.append_nil, List.cons_append, List.nil_append] at hj
  match j, hj with
  | 0, hj => simpa using hj
  | 1, hj => simpa using hj
theorem br2_good {w : World} {v : Value} {A1 A2 : Option Addr} {c1 c2 : Nat} {b1 b2 : List UInt8} (h1 : Row w A1 (bytesV b1)) (h2 : Row w A2 (bytesV b2)) (k1 : b1.length ≤ c1) (k1' : c1 ≤ maxLen) (k2 : b2.length ≤ c2) (k2' : c2 ≤ maxLen) (a1 : Apt v (A1, bytesV b1)) (a2 : Apt v (A2, bytesV b2)) :
    ∀ q ∈ [(⟨A1, c1, b1⟩ : BrM), ⟨A2, c2, b2⟩], brE.ok q ∧ ∀ r ∈ brE.inn q, Row w r.1 r.2 ∧ Apt v r := by
  intro q hq
  simp only [List.mem_cons, List.not_mem_nil, or_false] at hq
  rcases hq with rfl | rfl
  · exact ⟨⟨k1, k1'⟩, fun r hr => by simp only [brE, List.mem_cons, List.not_mem_nil, or_false] at hr; subst hr; exact ⟨h1, a1⟩⟩
  · exact ⟨⟨k2, k2'⟩, fun r hr => by simp only [brE, List.mem_cons, List.not_mem_nil, or_false] at hr; subst hr; exact ⟨h2, a2⟩⟩
theorem Elem.own_new {α : Type} (E : Elem α) (w : World) (l : List α) : E.Own (w.alloc (.cells (E.cells l).toArray E.ty)) w.heap.size (.slice (some ⟨w.heap.size, 0, none⟩) l.length l.length) l ∨ maxLen < l.length := by
  rcases Nat.lt_or_ge maxLen l.length with h | h
  · exact .inr h
  · exact .inl ⟨by rw [E.cells_len], .inr ⟨w.heap.size, l.length, (E.cells l).toArray, rfl, Nat.le_refl _, (by show (w.heap.push _)[w.heap.size]? = _; simp), Nat.le_refl _, h, by simp [E.cells_len], by rw [List.take_of_length_le (by rw [E.cells_len]; exact Nat.le_refl _)]⟩⟩
theorem flat_app (a b : List BrM) : flat (a ++ b) = flat a ++ flat b := by simp [flat]
theorem ents_snoc {l : List Ent} {k : Nat} {e : Ent} (h : l[k]? = some e) : (l.take (k + 1)).flatMap entF = (l.take k).flatMap entF ++ entF e := by rw [List.take_add_one, h]; simp
theorem entF_len {e : Ent} {m : Nat} (h : e.p.length ≤ m) (hm : m ≤ 100000000) : (entF e).length ≤ m + 44 := by
  have h1 := numsF_len [e.v, e.o, e.q]
  have h2 := encU_len10 (v := e.p.length) (by unfold U64; omega)
  unfold entF strF
  simp only [List.length_append, List.length_cons, List.length_nil] at *
  omega
theorem ents_len {l : List Ent} (h : ∀ e ∈ l, e.p.length ≤ 6000) : (l.flatMap entF).length ≤ 6044 * l.length := by
  induction l with
  | nil => simp
  | cons e l ih =>
    have h1 := entF_len (h e (by simp)) (by omega)
    have h2 := ih (fun e he => h e (by simp [he]))
    simp only [List.flatMap_cons, List.length_append, List.length_cons]
    omega
set_option maxRecDepth 100000 in
set_option maxHeartbeats 1000000 in
theorem appendEntries_any (A Al : Option Addr) (c cl : Nat) (body : List UInt8) (log : List Ent) (w : World) (hb : Row w A (bytesV body)) (hbl : body.length ≤ 1000) (hbc : body.length ≤ c ∧ c ≤ maxLen) (hr : Row w Al (entE.cells log)) (hn : log.length ≤ 2000) (hp : ∀ e ∈ log, e.p.length ≤ 6000) :
    Calls Tryz.prog 52 #[.slice A body.length c, .slice Al log.length cl] w (GivesB w (body ++ entsF log)) := by
  have H := Lib.hid hb; have HR := Lib.hid hr; have HP := Lib.hid hp
  obtain ⟨hbc1, hbc2⟩ := hbc
  clear hb hr hp
  have E0 : Hid (Ext w (w.alloc (.cells #[.int .i64 (log.length : Int)] 3))) := Lib.hid (Ext.new _ _)
  go_enter Tryz.func52, Tryz.ntmps52
  go_wp2_with fail
  refine (numbers_any _ 1 [(log.length : Int)] _ (ints1_row _ _) (by simp)).mono ?_
  rintro e w1 ⟨A1, c1, rfl, h11, h12, ho1, hx1⟩
  have X1 := Lib.hid (E0.out.trans hx1)
  have HR1 := Lib.hid ho1.row
  clear ho1 hx1
  have HB2 : Hid (brE.OB (w1.alloc (.cells #[.slice A body.length c, .slice A1 (numsF [(log.length : Int)]).length c1] 29)) w.heap.size (.slice (some ⟨w1.heap.size, 0, none⟩) 2 2) [⟨A, c, body⟩, ⟨A1, c1, numsF [(log.length : Int)]⟩]) := Lib.hid ⟨((brE.own_new w1 [⟨A, c, body⟩, ⟨A1, c1, numsF [(log.length : Int)]⟩]).resolve_right (by unfold maxLen; simp)).base X1.out.size, br2_good (H.out.ext (X1.out.trans (Ext.new _ _))) (HR1.out.ext (Ext.new _ _)) hbc1 hbc2 h11 h12 (fun p q hne hp hq => by cases hq; have := row_lt (H.out.ext X1.out) hne hp; simp at this ⊢; omega) (fun p q hne hp hq => by cases hq; have := row_lt HR1.out hne hp; simp at this ⊢; omega)⟩
  have X2 : Hid (Ext w (w1.alloc (.cells #[.slice A body.length c, .slice A1 (numsF [(log.length : Int)]).length c1] 29))) := Lib.hid (X1.out.trans (Ext.new _ _))
  go_wp2
  go_loopw [5, 16] (fun v i wr => ∃ (k : Nat) (l : List BrM) (v' : Value), v' = v ∧ k ≤ log.length ∧ i = .int .i64 k ∧ Hid (flat l = body ++ numsF [(log.length : Int)] ++ (log.take k).flatMap entF) ∧ Hid (l.length = 2 + 2 * k) ∧ Hid (brE.OB wr w.heap.size v l) ∧ Hid (Ext w wr)) (fun _ i _ => log.length - (intOf i).toNat)
  case atStart => exact ⟨0, _, _, rfl, Nat.zero_le _, rfl, Lib.hid (by simp [flat]), Lib.hid rfl, HB2, X2⟩
  case round =>
    obtain ⟨k, l, v, rfl, hk, rfl, HF, HLL, HO, HX⟩ := hrel
    by_cases hlt : k < log.length
    · obtain ⟨b, off, e, rfl, hb, c0, c1', c2', c3', HE⟩ := ents_at (HR.out.ext HX.out) hlt
      have hep : e.p.length ≤ 100000000 := by have := HP.out e (List.mem_of_getElem? HE.out); omega
      go_wp2
      refine E_begin 15 (fun w' => w'.cell? ⟨wr.heap.size, 0, none⟩ = some (.int .i64 e.v) ∧ w'.cell? ⟨wr.heap.size, 1, none⟩ = some (.int .i64 e.o) ∧ w'.cell? ⟨wr.heap.size, 2, none⟩ = some (.int .i64 e.q) ∧ w'.cell? ⟨wr.heap.size, 3, none⟩ = some (.string (strB e.p))) (by kernel_rfl) ⟨by simp, by simp, by simp, by simp⟩ (fun hHeld => ?_)
      refine E_tk 0 (oi := ⟨some 20, _, _, _, _, _⟩) (v := ?_) ?_ ?_
      rotate_left
      · (intro w9 hSw; (try dsimp only at hSw); go_simp <;> with_reducible rfl)
      try simp only [Act.put, l1, l2, l3]
      refine E_tk 1 (oi := ⟨some 21, _, _, _, _, _⟩) (v := ?_) ?_ ?_
      rotate_left
      · (intro w9 hSw; (try dsimp only at hSw); go_simp <;> with_reducible rfl)
      try simp only [Act.put, l1, l2, l3]
      refine E_tk 2 (oi := ⟨some 22, _, _, _, _, _⟩) (v := ?_) ?_ ?_
      rotate_left
      · (intro w9 hSw; (try dsimp only at hSw); go_simp <;> with_reducible rfl)
      try simp only [Act.put, l1, l2, l3]
      refine E_tk 3 (oi := ⟨some 23, _, _, _, _, _⟩) (v := ?_) ?_ ?_
      rotate_left
      · (intro w9 hSw; (try dsimp only at hSw); go_simp <;> with_reducible rfl)
      try simp only [Act.put, l1, l2, l3]
      refine E_tk 4 (oi := ⟨some 24, _, _, _, _, _⟩) (v := ?_) ?_ ?_
      rotate_left
      · (intro w9 hSw; (try dsimp only at hSw); go_simp <;> with_reducible rfl)
      try simp only [Act.put, l1, l2, l3]
      refine E_tk 5 (oi := ⟨some 25, _, _, _, _, _⟩) (v := ?_) ?_ ?_
      rotate_left
      · (intro w9 hSw; (try dsimp only at hSw); go_simp <;> with_reducible rfl)
      try simp only [Act.put, l1, l2, l3]
      refine E_tk 6 (oi := ⟨some 26, _, _, _, _, _⟩) (v := ?_) ?_ ?_
      rotate_left
      · (intro w9 hSw; (try dsimp only at hSw); go_simp <;> with_reducible rfl)
      try simp only [Act.put, l1, l2, l3]
      refine E_tk 9 (oi := ⟨some 29, _, _, _, _, _⟩) (v := ?_) ?_ ?_
      rotate_left
      · (intro w9 hSw; (try dsimp only at hSw); go_simp <;> with_reducible rfl)
      try simp only [Act.put, l1, l2, l3]
      refine E_tk 10 (oi := ⟨some 30, _, _, _, _, _⟩) (v := ?_) ?_ ?_
      rotate_left
      · (intro w9 hSw; (try dsimp only at hSw); go_simp <;> with_reducible rfl)
      try simp only [Act.put, l1, l2, l3]
      refine E_ready [7] (by kernel_rfl) (by simp) ?_
      refine AllE.cons (o := ⟨some 27, _, _, _, _, _⟩) rfl (fun K hK => ?_) AllE.nil
      go_simp
      clear hHeld
      refine hK.out _ _ ⟨by simp, by simp, by simp, by simp⟩ (fun hHeld => ?_)
      clear hK K
      try simp only [Act.put, l1, l2, l3]
      refine E_ready [8] (by kernel_rfl) (by simp) ?_
      refine AllE.cons (o := ⟨some 28, _, _, _, _, _⟩) rfl (fun K hK => ?_) AllE.nil
      go_simp
      go_at_call 48
      refine (numbers_any _ 3 [e.v, e.o, e.q] _ (by exact rowd (ints3_row _ _ _ _) (by simp)) (by simp)).mono ?_
      rintro e1 w1 ⟨A1, c1, rfl, h11, h12, ho1, hx1⟩
      have X1 : Hid (Ext (wr.alloc (.cells #[.int .i64 e.v, .int .i64 e.o, .int .i64 e.q, .string (strB e.p)] 66)) w1) := Lib.hid (((Ext.new _ _).trans Ext.drew1).trans hx1)
      have HR1 : Hid (Row w1 A1 (bytesV (numsF [e.v, e.o, e.q]))) := Lib.hid ho1.row
      have HN1 : Hid (∀ p, bytesV (numsF [e.v, e.o, e.q]) ≠ [] → A1 = some p → wr.heap.size ≤ p.block) := Lib.hid (fun p _ hp => by subst hp; have := (ho1.lt p.block rfl).1; simp at this; omega)
      clear ho1 hx1
      have r0_w1 : w1.cell? ⟨wr.heap.size, 0, none⟩ = some (.int .i64 e.v) := by rw [X1.out.cell_new]; rfl
      have r1_w1 : w1.cell? ⟨wr.heap.size, 1, none⟩ = some (.int .i64 e.o) := by rw [X1.out.cell_new]; rfl
      have r2_w1 : w1.cell? ⟨wr.heap.size, 2, none⟩ = some (.int .i64 e.q) := by rw [X1.out.cell_new]; rfl
      have r3_w1 : w1.cell? ⟨wr.heap.size, 3, none⟩ = some (.string (strB e.p)) := by rw [X1.out.cell_new]; rfl
      clear hHeld
      refine hK.out _ _ ⟨r0_w1, r1_w1, r2_w1, r3_w1⟩ (fun hHeld => ?_)
      clear hK K
      try simp only [Act.put, l1, l2, l3]
      refine E_ready [11] (by kernel_rfl) (by simp) ?_
      refine AllE.cons (o := ⟨some 31, _, _, _, _, _⟩) rfl (fun K hK => ?_) AllE.nil
      go_simp
      go_at_call 120
      refine (appendString_any none 0 [] e.p _ (Row.nil _ _) (by simp) hep).mono ?_
      rintro e2 w2 ⟨A2, c2, rfl, h21, h22, ho2, hx2⟩
      have X2 : Hid (Ext (wr.alloc (.cells #[.int .i64 e.v, .int .i64 e.o, .int .i64 e.q, .string (strB e.p)] 66)) w2) := Lib.hid (X1.out.trans hx2)
      have HR12 : Hid (Row w2 A1 (bytesV (numsF [e.v, e.o, e.q]))) := Lib.hid (HR1.out.ext hx2)
      have HR2 : Hid (Row w2 A2 (bytesV (strF e.p))) := Lib.hid ho2.row
      have HN2 : Hid (∀ p, bytesV (strF e.p) ≠ [] → A2 = some p → wr.heap.size ≤ p.block) := Lib.hid (fun p _ hp => by subst hp; have := (ho2.lt p.block rfl).1; have := X1.out.size; simp at this; omega)
      clear ho2 hx2
      have r0_w2 : w2.cell? ⟨wr.heap.size, 0, none⟩ = some (.int .i64 e.v) := by rw [X2.out.cell_new]; rfl
      have r1_w2 : w2.cell? ⟨wr.heap.size, 1, none⟩ = some (.int .i64 e.o) := by rw [X2.out.cell_new]; rfl
      have r2_w2 : w2.cell? ⟨wr.heap.size, 2, none⟩ = some (.int .i64 e.q) := by rw [X2.out.cell_new]; rfl
      have r3_w2 : w2.cell? ⟨wr.heap.size, 3, none⟩ = some (.string (strB e.p)) := by rw [X2.out.cell_new]; rfl
      clear hHeld
      refine hK.out _ _ ⟨r0_w2, r1_w2, r2_w2, r3_w2⟩ (fun hHeld => ?_)
      clear hK K
      try simp only [Act.put, l1, l2, l3]
      refine E_ready [12] (by kernel_rfl) (by simp) ?_
      refine AllE.cons (o := ⟨some 32, _, _, _, _, _⟩) rfl (fun K hK => ?_) AllE.nil
      go_simp
      have X3 : Hid (Ext (wr.alloc (.cells #[.int .i64 e.v, .int .i64 e.o, .int .i64 e.q, .string (strB e.p)] 66)) (w2.alloc (.cells #[.slice A1 (numsF [e.v, e.o, e.q]).length c1, .slice A2 (strF e.p).length c2] 29))) := Lib.hid (X2.out.trans (Ext.new _ _))
      have HRB : Hid (Row (w2.alloc (.cells #[.slice A1 (numsF [e.v, e.o, e.q]).length c1, .slice A2 (strF e.p).length c2] 29)) (some ⟨w2.heap.size, 0, none⟩) (brE.cells [⟨A1, c1, numsF [e.v, e.o, e.q]⟩, ⟨A2, c2, strF e.p⟩])) := Lib.hid (br2_row _ _ _)
      have HO3 := Lib.hid (HO.out.ext ((Ext.new wr _).trans X3.out))
      have HG3 : Hid (∀ q ∈ [(⟨A1, c1, numsF [e.v, e.o, e.q]⟩ : BrM), ⟨A2, c2, strF e.p⟩], brE.ok q ∧ ∀ r ∈ brE.inn q, Row (w2.alloc (.cells #[.slice A1 (numsF [e.v, e.o, e.q]).length c1, .slice A2 (strF e.p).length c2] 29)) r.1 r.2 ∧ Apt v r) := Lib.hid (br2_good (HR12.out.ext (Ext.new _ _)) (HR2.out.ext (Ext.new _ _)) h11 h12 h21 h22 (apt_new (E := brE) (l := l) HN1.out HO.out.1) (apt_new (E := brE) (l := l) HN2.out HO.out.1))
      generalize w2.alloc (.cells #[.slice A1 (numsF [e.v, e.o, e.q]).length c1, .slice A2 (strF e.p).length c2] 29) = w3 at *
      have r0_w3 : w3.cell? ⟨wr.heap.size, 0, none⟩ = some (.int .i64 e.v) := by rw [X3.out.cell_new]; rfl
      have r1_w3 : w3.cell? ⟨wr.heap.size, 1, none⟩ = some (.int .i64 e.o) := by rw [X3.out.cell_new]; rfl
      have r2_w3 : w3.cell? ⟨wr.heap.size, 2, none⟩ = some (.int .i64 e.q) := by rw [X3.out.cell_new]; rfl
      have r3_w3 : w3.cell? ⟨wr.heap.size, 3, none⟩ = some (.string (strB e.p)) := by rw [X3.out.cell_new]; rfl
      clear hHeld
      refine hK.out _ _ ⟨r0_w3, r1_w3, r2_w3, r3_w3⟩ (fun hHeld => ?_)
      clear hK K
      try simp only [Act.put, l1, l2, l3]
      refine E_ready [13] (by kernel_rfl) (by simp) ?_
      refine AllE.cons (o := ⟨some 33, _, _, _, _, _⟩) rfl (fun K hK => ?_) AllE.nil
      refine step_push_e brE rfl (.tmp 20) (.tmp 32) rfl w3 w.heap.size v l (by rfl) _ 2 2 [⟨A1, c1, numsF [e.v, e.o, e.q]⟩, ⟨A2, c2, strF e.p⟩] (by rfl) rfl HRB.out (by decide) HO3.out HG3.out (by have := HLL.out; omega) (by have := X3.out.size; have := HX.out.size; simp at *; omega) ?_
      intro v4 w4 ho4 hg4 hs4
      have HO4 := Lib.hid ho4
      have X4 : Hid (Ext w w4) := Lib.hid (hg4.below (HX.out.trans ((Ext.new wr _).trans X3.out)) (by have := X3.out.size; have := HX.out.size; simp at *; omega) (fun k hk => (HO.out.1.lt k hk).1))
      have Y4 : Hid (∀ i, w4.cell? ⟨wr.heap.size, i, none⟩ = w3.cell? ⟨wr.heap.size, i, none⟩) := Lib.hid (fun i => grew_cell hg4 (by have := X3.out.size; simp at this; omega) (fun k hk => by have := (HO.out.1.lt k hk).2; omega))
      have r0_w4 : w4.cell? ⟨wr.heap.size, 0, none⟩ = some (.int .i64 e.v) := (Y4.out 0).trans r0_w3
      have r1_w4 : w4.cell? ⟨wr.heap.size, 1, none⟩ = some (.int .i64 e.o) := (Y4.out 1).trans r1_w3
      have r2_w4 : w4.cell? ⟨wr.heap.size, 2, none⟩ = some (.int .i64 e.q) := (Y4.out 2).trans r2_w3
      have r3_w4 : w4.cell? ⟨wr.heap.size, 3, none⟩ = some (.string (strB e.p)) := (Y4.out 3).trans r3_w3
      clear ho4 hg4 hs4
      clear hHeld
      refine hK.out _ _ ⟨r0_w4, r1_w4, r2_w4, r3_w4⟩ (fun hHeld => ?_)
      clear hK K
      try simp only [Act.put, l1, l2, l3]
      refine E_tk 14 (oi := ⟨some 5, _, _, _, _, _⟩) (v := ?_) ?_ ?_
      rotate_left
      · (intro w9 hSw; (try dsimp only at hSw); go_simp <;> with_reducible rfl)
      try simp only [Act.put, l1, l2, l3]
      refine E_end (by kernel_rfl) (by rfl) ?_
      go_wp2
      go_roundw
      case rel => exact ⟨k + 1, _, _, rfl, by omega, by go_num, Lib.hid (by rw [flat_app, HF.out, ents_snoc HE.out]; simp [flat, entF]), Lib.hid (by have := HLL.out; simp; omega), HO4, X4⟩
      case measure => simp [intOf]; omega
    · have hkl : log.take k = log := List.take_of_length_le (by omega)
      rw [hkl] at HF
      have hfl : Hid ((flat l).length ≤ 100000000) := Lib.hid (by
        rw [HF.out]
        have h1 := numsF_len [(log.length : Int)]
        have h2 := ents_len HP.out
        simp only [List.length_append, List.length_cons, List.length_nil] at *
        omega)
      obtain ⟨A2, c2, rfl, h21, h22, HBX⟩ : ∃ A c', v = .slice A l.length c' ∧ l.length ≤ c' ∧ c' ≤ maxLen ∧ Hid (brE.Box wr A l) := by
        obtain ⟨A, c', h1, h2, h3, h4⟩ := HO.out.slice
        exact ⟨A, c', h1, h2, h3, Lib.hid h4⟩
      go_wp2_with fail
      refine (concat_any A2 c2 l wr HBX.out (by have := HLL.out; omega) hfl.out).mono ?_
      rintro e w2 ⟨A3, c3, rfl, h31, h32, ho3, hx3⟩
      go_wp2
      go_ret
      have hf : flat l = body ++ entsF log := by rw [HF.out]; unfold entsF; rw [List.append_assoc]
      rw [← hf]
      exact ⟨A3, c3, rfl, h31, h32, ho3.base HX.out.size, HX.out.trans hx3⟩
end Go.Proofs.YtponbabbabnaeaaGreat
namespace Go.Proofs.YtponbabbabnaeaaGreat
open Go.RowKit
set_option maxRecDepth 100000 in
theorem payload_raw (b : BM) (st : Int) (Ap : Option Addr) (seq : Int) (j : Nat) (p : List UInt8) (w : World) (hAp : b.Ap = Ap) (h : b.Reads w) (hn : b.pend.length ≤ 1000000000) (hs : 0 ≤ b.sent ∧ b.sent ≤ 1099511627776) (hq : 0 ≤ seq ∧ seq ≤ 1099511627776)
    (hj : (b.pend.length : Int) - 1 - (b.sent - seq) = (j : Int)) (hp : b.pend[j]? = some p) :
    Calls Tryz.prog 112 #[.agg #[.int .i64 b.self, .slice b.Av b.vs.length b.cv, .int .i64 b.base, .slice b.Al b.log.length b.cl, .int .i64 st, .int .i64 b.sent, .slice Ap b.pend.length b.cp, .slice b.Am b.marks.length b.cm, .slice b.Af b.fls.length b.cf], .int .i64 seq] w fun e w' => e = .returned (.string (strB p)) ∧ Ext w w' := by
  have H0 := Lib.hid (Ext.new w (.cells (b.cells3 st Ap) 28))
  have hjl : j < b.pend.length := (List.getElem?_eq_some_iff.1 hp).1
  obtain ⟨bb, off, p', rfl, hb, c0, HP⟩ := strs_at (show Row w Ap (strE.cells b.pend) by rw [← hAp]; exact h.pend) hjl
  have hpp : p' = p := by have := HP.out.symm.trans hp; exact Option.some.inj this
  subst hpp
  have hw1 : IntKind.i64.wrap ((b.pend.length : Int) - 1) = (b.pend.length : Int) - 1 := IntWalk.i64_in _ (by omega)
  have hw2 : IntKind.i64.wrap (b.sent - seq) = b.sent - seq := IntWalk.i64_in _ (by omega)
  have hw3 : IntKind.i64.wrap ((b.pend.length : Int) - 1 - (b.sent - seq)) = (j : Int) := by rw [IntWalk.i64_in _ (by omega)]; exact hj
  have k1 : (0 : Int) ≤ (j : Int) := by omega
  have k2 : (j : Int) < (b.pend.length : Int) := by omega
  clear hj hp hs hq hAp h HP
  unfold BM.cells3 at H0
  go_enter Tryz.func112, Tryz.ntmps112
  go_wp2
  go_ret
  exact ⟨rfl, H0.out⟩
end Go.Proofs.YtponbabbabnaeaaGreat
namespace Go.Proofs.YtponbabbabnaeaaGreat
open Go.RowKit
theorem fl_cells_set : ∀ (l : List FlM) (k : Nat) (f : FlM) (A : Option Addr) (c : Nat), l[k]? = some f → flE.cells (l.set k ⟨f.m, f.b, A, c, f.log⟩) = (flE.cells l).set (k * 3 + 2) (.slice A f.log.length c) := by
  intro l
  induction l with
  | nil => intro k f A c h; simp at h
  | cons x l ih =>
    intro k f A c h
    match k, h with
    | 0, h => simp only [List.getElem?_cons_zero, Option.some.injEq] at h; subst h; rfl
    | k + 1, h =>
      rw [List.set_cons_succ, flE.cells_cons, flE.cells_cons, ih k f A c (by simpa using h)]
      have e1 : (k + 1) * 3 + 2 = k * 3 + 2 + 1 + 1 + 1 := by omega
      rw [e1]
      rfl
theorem fls_set {w : World} {B g cap : Nat} {l : List FlM} {k : Nat} {f : FlM} {A : Option Addr} {c : Nat} (h : flE.OB w B (.slice (some ⟨g, 0, none⟩) l.length cap) l) (hf : l[k]? = some f) (h1 : f.log.length ≤ c) (h2 : c ≤ maxLen) (hr : Row w A (entE.cells f.log)) (hap : Apt (.slice (some ⟨g, 0, none⟩) l.length cap) (A, entE.cells f.log)) :
    flE.OB (w.setCell ⟨g, k * 3 + 2, none⟩ (.slice A f.log.length c)) B (.slice (some ⟨g, 0, none⟩) l.length cap) (l.set k ⟨f.m, f.b, A, c, f.log⟩) := by
  have far : ∀ {r : Option Addr × List Value}, Row w r.1 r.2 → Apt (.slice (some ⟨g, 0, none⟩) l.length cap) r → Row (w.setCell ⟨g, k * 3 + 2, none⟩ (.slice A f.log.length c)) r.1 r.2 := fun h1 h2 =>
    row_set_far h1 (fun q hne hq => Ne.symm (h2 q g hne hq rfl))
  refine ⟨?_, fun q hq => ?_⟩
  · obtain ⟨h1, h2⟩ := h.1
    refine ⟨by rw [flE.cells_len], .inr ?_⟩
    rcases h2 with ⟨h2, _⟩ | ⟨g', cap', cur, hv, h3, hh, h4, h5, h6, h7⟩
    · cases h2
    · simp only [Value.slice.injEq, Option.some.injEq, Addr.mk.injEq, and_true, true_and] at hv
      obtain ⟨rfl, rfl⟩ := hv
      refine ⟨g, cap, cur.setIfInBounds (k * 3 + 2) (.slice A f.log.length c), by rw [List.length_set], h3, ?_, by rw [List.length_set]; exact h4, h5, by simpa using h6, ?_⟩
      · exact heap_setCell_same _ _ _ _ _ _ hh
      · rw [List.length_set, Array.toList_setIfInBounds, List.take_set, h7, fl_cells_set l k f A c hf]
  · rcases List.mem_or_eq_of_mem_set hq with hq | rfl
    · exact ⟨(h.2 q hq).1, fun r hr' => ⟨far ((h.2 q hq).2 r hr').1 ((h.2 q hq).2 r hr').2, ((h.2 q hq).2 r hr').2⟩⟩
    · refine ⟨⟨h1, h2⟩, fun r hr' => ?_⟩
      simp only [flE, List.mem_cons, List.not_mem_nil, or_false] at hr'
      subst hr'
      exact ⟨far (r := (A, entE.cells f.log)) hr hap, hap⟩
def flv (l : List FlM) : List Fls := l.map FlM.v
theorem flv_set {l : List FlM} {k : Nat} {f : FlM} {A : Option Addr} {c : Nat} (h : l[k]? = some f) : flv (l.set k ⟨f.m, f.b, A, c, f.log⟩) = flv l := by
  unfold flv
  rw [List.map_set]
  apply List.ext_getElem?
  intro i
  by_cases hi : k = i
  · subst hi
    rw [List.getElem?_set]
    obtain ⟨hk, he⟩ := List.getElem?_eq_some_iff.1 h
    simp [hk, he, FlM.v]
  · rw [List.getElem?_set]; simp [hi]
end Go.Proofs.YtponbabbabnaeaaGreat
namespace Go.Proofs.YtponbabbabnaeaaGreat
open Go.RowKit
def ColR (col : Nat → Nat) (k : Nat) (A : Option Addr) (xs : List Value) : Prop := ∀ p, xs ≠ [] → A = some p → col p.block = k
def ColV (col : Nat → Nat) (k : Nat) (v : Value) : Prop := ∀ q, v.ownBlock = some q → col q = k
def BIs (w : World) (p : Nat) (vals : Array Value) (t : TypeId) : Prop := w.heap[p]? = some (.cells vals t (0, 0))
theorem BIs.lt {w : World} {p : Nat} {vals : Array Value} {t : TypeId} (h : BIs w p vals t) : p < w.heap.size := by
  rcases Nat.lt_or_ge p w.heap.size with hlt | hge
  · exact hlt
  · unfold BIs at h; rw [Array.getElem?_eq_none hge] at h; cases h
theorem BIs.cell {w : World} {p : Nat} {vals : Array Value} {t : TypeId} (h : BIs w p vals t) (i : Nat) : w.cell? ⟨p, i, none⟩ = vals[i]? := cell_of_row w p i vals t (0, 0) h
theorem BIs.free {w : World} {p : Nat} {vals : Array Value} {t : TypeId} (h : BIs w p vals t) (i : Nat) : w.frozen? ⟨p, i, none⟩ = false := by
  unfold BIs at h; simp [World.frozen?, h]
theorem BIs.set {w : World} {p : Nat} {vals : Array Value} {t : TypeId} (h : BIs w p vals t) (i : Nat) (v : Value) : BIs (w.setCell ⟨p, i, none⟩ v) p (vals.setIfInBounds i v) t := heap_setCell_same _ _ _ _ _ _ h
theorem BIs.same {w w' : World} {p : Nat} {vals : Array Value} {t : TypeId} (h : BIs w p vals t) (e : w'.heap[p]? = w.heap[p]?) : BIs w' p vals t := by unfold BIs; rw [e]; exact h
theorem BIs.ext {w w' : World} {p : Nat} {vals : Array Value} {t : TypeId} (h : BIs w p vals t) (e : Ext w w') : BIs w' p vals t := h.same (e.block p h.lt)
theorem BIs.new (w : World) (vals : Array Value) (t : TypeId) : BIs (w.alloc (.cells vals t)) w.heap.size vals t := by
  show (w.heap.push _)[w.heap.size]? = _; simp
structure Off (col : Nat → Nat) (c : Nat) (w w' : World) : Prop where
  size : w.heap.size ≤ w'.heap.size
  block : ∀ k, k < w.heap.size → col k ≠ c → w'.heap[k]? = w.heap[k]?
theorem Off.ext {col : Nat → Nat} (c : Nat) {w w' : World} (e : Ext w w') : Off col c w w' := ⟨e.size, fun k hk _ => e.block k hk⟩
theorem Off.row {col : Nat → Nat} {c k : Nat} {w w' : World} {A : Option Addr} {xs : List Value} (o : Off col c w w') (h : Row w A xs) (hc : ColR col k A xs) (hk : k ≠ c) : Row w' A xs := by
  intro hx
  obtain ⟨b, off, h1, h2, h3⟩ := h hx
  refine ⟨b, off, h1, Nat.lt_of_lt_of_le h2 o.size, fun j u hj => ?_⟩
  have hb : w'.heap[b]? = w.heap[b]? := o.block b h2 (by rw [hc _ hx h1]; exact hk)
  exact (World.cell?_of_block (a := ⟨b, off + j, none⟩) hb).trans (h3 j u hj)
theorem Off.own {α : Type} {E : Elem α} {col : Nat → Nat} {c k B : Nat} {w w' : World} {v : Value} {l : List α} (o : Off col c w w') (h : E.Own w B v l) (hc : ColV col k v) (hk : k ≠ c) : E.Own w' B v l :=
  h.keep fun q hq hlt => o.block q hlt (by rw [hc q hq]; exact hk)
theorem Off.box {α : Type} {E : Elem α} {col : Nat → Nat} {c : Nat} {w w' : World} {A : Option Addr} {l : List α} (o : Off col c w w') (h : E.Box w A l) (h1 : ColR col 0 A (E.cells l)) (h2 : ∀ a ∈ l, ∀ r ∈ E.inn a, ColR col 0 r.1 r.2) (hk : 0 ≠ c) : E.Box w' A l :=
  ⟨o.row h.1 h1 hk, fun a ha => ⟨(h.2 a ha).1, fun r hr => o.row ((h.2 a ha).2 r hr) (h2 a ha r hr) hk⟩⟩
def paint (col : Nat → Nat) (n c : Nat) : Nat → Nat := fun k => if k < n then col k else c
theorem paint_old {col : Nat → Nat} {n c k : Nat} (h : k < n) : paint col n c k = col k := by unfold paint; rw [if_pos h]
theorem paint_new {col : Nat → Nat} {n c k : Nat} (h : n ≤ k) : paint col n c k = c := by unfold paint; rw [if_neg (by omega)]
theorem ColR.old {col col' : Nat → Nat} {k : Nat} {w : World} {A : Option Addr} {xs : List Value} (h : ColR col k A xs) (hr : Row w A xs) (hc : ∀ q, q < w.heap.size → col' q = col q) : ColR col' k A xs :=
  fun p hne hp => (hc _ (row_lt hr hne hp)).trans (h p hne hp)
theorem ColV.old {α : Type} {E : Elem α} {B : Nat} {l : List α} {col col' : Nat → Nat} {k : Nat} {w : World} {v : Value} (h : ColV col k v) (hr : E.Own w B v l) (hc : ∀ q, q < w.heap.size → col' q = col q) : ColV col' k v :=
  fun q hq => (hc q (hr.lt q hq).2).trans (h q hq)
structure BM.Lies (w : World) (B : Nat) (col : Nat → Nat) (b : BM) : Prop where
  vs : viewE.Box w b.Av b.vs
  vc : ColR col 0 b.Av (viewE.cells b.vs)
  vi : ∀ v ∈ b.vs, ColR col 0 v.A (ints v.xs)
  log : entE.Own w B (.slice b.Al b.log.length b.cl) b.log
  lc : ColV col 2 (.slice b.Al b.log.length b.cl)
  pend : Row w b.Ap (strE.cells b.pend)
  pc : ColR col 6 b.Ap (strE.cells b.pend)
  marks : markE.Own w B (.slice b.Am b.marks.length b.cm) b.marks
  mc : ColV col 3 (.slice b.Am b.marks.length b.cm)
  fls : flE.Own w B (.slice b.Af b.fls.length b.cf) b.fls
  fc : ColV col 4 (.slice b.Af b.fls.length b.cf)
  fi : ∀ f ∈ b.fls, flE.ok f ∧ Row w f.A (entE.cells f.log) ∧ ColR col 0 f.A (entE.cells f.log)
theorem BM.Lies.reads {w : World} {B : Nat} {col : Nat → Nat} {b : BM} (h : b.Lies w B col) : b.Reads w :=
  ⟨h.vs, h.log.row, h.pend, h.marks.row, h.fls.row, fun a ha => ⟨(h.fi a ha).1, fun r hr => by
    simp only [flE, List.mem_cons, List.not_mem_nil, or_false] at hr
    subst hr
    exact (h.fi a ha).2.1⟩⟩
theorem BM.Lies.off {w w' : World} {B c : Nat} {col col' : Nat → Nat} {b : BM} (h : b.Lies w B col) (o : Off col c w w') (hc : c ≠ 0 ∧ c ≠ 2 ∧ c ≠ 3 ∧ c ≠ 4 ∧ c ≠ 6) (hcol : ∀ k, k < w.heap.size → col' k = col k) : b.Lies w' B col' := by
  obtain ⟨c0, c2, c3, c4, c6⟩ := hc
  refine ⟨o.box h.vs h.vc (fun a ha r hr => ?_) (Ne.symm c0), h.vc.old h.vs.1 hcol, fun v hv => (h.vi v hv).old ((h.vs.2 v hv).2 (v.A, ints v.xs) (by simp [viewE])) hcol, o.own h.log h.lc (Ne.symm c2), h.lc.old h.log hcol, o.row h.pend h.pc (Ne.symm c6), h.pc.old h.pend hcol,
    o.own h.marks h.mc (Ne.symm c3), h.mc.old h.marks hcol, o.own h.fls h.fc (Ne.symm c4), h.fc.old h.fls hcol, fun f hf => ⟨(h.fi f hf).1, o.row (h.fi f hf).2.1 (h.fi f hf).2.2 (Ne.symm c0), (h.fi f hf).2.2.old (h.fi f hf).2.1 hcol⟩⟩
  simp only [viewE, List.mem_cons, List.not_mem_nil, or_false] at hr
  subst hr
  exact h.vi a ha
theorem BM.Lies.ext {w w' : World} {B : Nat} {col col' : Nat → Nat} {b : BM} (h : b.Lies w B col) (e : Ext w w') (hcol : ∀ k, k < w.heap.size → col' k = col k) : b.Lies w' B col' :=
  h.off (Off.ext 1 e) (by decide) hcol
theorem BM.Lies.base {w : World} {B B' : Nat} {col : Nat → Nat} {b : BM} (h : b.Lies w B col) (hb : B' ≤ B) : b.Lies w B' col :=
  ⟨h.vs, h.vc, h.vi, h.log.base hb, h.lc, h.pend, h.pc, h.marks.base hb, h.mc, h.fls.base hb, h.fc, h.fi⟩
theorem BIs.free9 {w : World} {p : Nat} {vals : Array Value} {t : TypeId} (h : BIs w p vals t) :
    w.frozen? ⟨p, 0, none⟩ = false ∧ w.frozen? ⟨p, 1, none⟩ = false ∧ w.frozen? ⟨p, 2, none⟩ = false ∧ w.frozen? ⟨p, 3, none⟩ = false ∧ w.frozen? ⟨p, 4, none⟩ = false ∧ w.frozen? ⟨p, 5, none⟩ = false ∧ w.frozen? ⟨p, 6, none⟩ = false ∧ w.frozen? ⟨p, 7, none⟩ = false ∧ w.frozen? ⟨p, 8, none⟩ = false :=
  ⟨h.free _, h.free _, h.free _, h.free _, h.free _, h.free _, h.free _, h.free _, h.free _⟩
end Go.Proofs.YtponbabbabnaeaaGreat
