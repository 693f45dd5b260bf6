/- Part 22 of the proof: contracts of functions that the statement reaches. Conditions: as each theorem says. -/
import Derived.Test.YtponbabbabnaeaaGreatQb01
import Derived.Test.YtponbabbabnaeaaGreatQb21
import Derived.Test.YtponbabbabnaeaaGreatQb18
namespace Go.Proofs.YtponbabbabnaeaaGreat
def AscK (l : List Int) : Prop := l.Pairwise (· < ·) ∧ ∀ k ∈ l, 0 < k
theorem asc_iff {l : List Int} : (∀ i k, l[i]? = some k → (if i = 0 then 0 else (l[i - 1]?).getD 0) < k) ↔ AscK l := by
 constructor
 ·intro h
  have h2 : ∀ (j i : Nat) (hj : j < l.length) (hi : i < j), l[i]'(by omega) < l[j] := by
   intro j
   induction j with
   | zero => intro i hj hi; omega
   | succ j ih =>
    intro i hj hi
    have h3 := h (j + 1) l[j + 1] (List.getElem?_eq_getElem hj)
    rw [if_neg (by omega), Nat.add_sub_cancel, List.getElem?_eq_getElem (by omega)] at h3
    simp only [Option.getD_some] at h3
    by_cases he : i = j
    ·subst he; exact h3
    ·have := ih i (by omega) (by omega); omega
  refine ⟨List.pairwise_iff_getElem.2 (fun i j hi hj hij => h2 j i hj hij), fun k hk => ?_⟩
  obtain ⟨i, hi, rfl⟩ := List.mem_iff_getElem.1 hk
  have h0 := h 0 l[0] (List.getElem?_eq_getElem (by omega))
  rw [if_pos rfl] at h0
  by_cases he : i = 0
  ·subst he; exact h0
  ·have := h2 i 0 hi (by omega); omega
 ·rintro ⟨h1, h2⟩ i k hk
  obtain ⟨hi, rfl⟩ := List.getElem?_eq_some_iff.1 hk
  split
  ·exact h2 _ (List.getElem_mem hi)
  ·rw [List.getElem?_eq_getElem (by omega)]
   exact List.pairwise_iff_getElem.1 h1 (i - 1) i (by omega) hi (by omega)
theorem put_asc {α : Type} (key : α → Int) (x : α) : ∀ (l : List α), (l.map key).Pairwise (· < ·) →
  (((l[(l.takeWhile fun y => decide (key y < key x)).length]?).map key = some (key x) → ((l.set (l.takeWhile fun y => decide (key y < key x)).length x).map key).Pairwise (· < ·)) ∧
   ((l[(l.takeWhile fun y => decide (key y < key x)).length]?).map key ≠ some (key x) → ((l.take (l.takeWhile fun y => decide (key y < key x)).length ++ x :: l.drop (l.takeWhile fun y => decide (key y < key x)).length).map key).Pairwise (· < ·)))
 | [], _ => by simp
 | y :: l, h => by
  have hl : (l.map key).Pairwise (· < ·) := by simp only [List.map_cons, List.pairwise_cons] at h; exact h.2
  have hy : ∀ z ∈ l, key y < key z := by
   simp only [List.map_cons, List.pairwise_cons, List.mem_map, forall_exists_index, and_imp, forall_apply_eq_imp_iff₂] at h
   exact h.1
  obtain ⟨i1, i2⟩ := put_asc key x l hl
  by_cases hlt : key y < key x
  ·simp only [List.takeWhile_cons, hlt, decide_true, if_true, List.length_cons, List.getElem?_cons_succ, List.set_cons_succ, List.take_succ_cons, List.drop_succ_cons, List.map_cons, List.cons_append, List.pairwise_cons]
   refine ⟨fun he => ⟨fun a ha => ?_, i1 he⟩, fun he => ⟨fun a ha => ?_, i2 he⟩⟩
   ·obtain ⟨z, hz, rfl⟩ := List.mem_map.1 ha
    rcases List.mem_or_eq_of_mem_set hz with hz | rfl
    ·exact hy z hz
    ·exact hlt
   ·obtain ⟨z, hz, rfl⟩ := List.mem_map.1 ha
    rcases List.mem_append.1 hz with hz | hz
    ·exact hy z (List.mem_of_mem_take hz)
    ·rcases List.mem_cons.1 hz with rfl | hz
     ·exact hlt
     ·exact hy z (List.mem_of_mem_drop hz)
  ·simp only [List.takeWhile_cons, hlt, decide_false, Bool.false_eq_true, if_false, List.length_nil, List.getElem?_cons_zero, Option.map_some, Option.some.injEq, List.set_cons_zero, List.map_cons, List.take_zero, List.nil_append, List.drop_zero, List.pairwise_cons]
   refine ⟨fun he => ⟨fun a ha => ?_, hl⟩, fun he => ⟨fun a ha => ?_, ?_, hl⟩⟩
   ·obtain ⟨z, hz, rfl⟩ := List.mem_map.1 ha
    rw [← he]; exact hy z hz
   ·rcases List.mem_cons.1 ha with rfl | ha
    ·exact Int.lt_iff_le_and_ne.2 ⟨Int.not_lt.1 hlt, fun e => he (congrArg some e.symm)⟩
    ·obtain ⟨z, hz, rfl⟩ := List.mem_map.1 ha
     have := hy z hz
     show key x < key z
     omega
   ·intro a ha
    obtain ⟨z, hz, rfl⟩ := List.mem_map.1 ha
    exact hy z hz
theorem mem_put {α : Type} {l : List α} {k : Nat} {x z : α} (h : z ∈ l.take k ++ x :: l.drop k) : z = x ∨ z ∈ l := by
 rcases List.mem_append.1 h with h | h
 ·exact .inr (List.mem_of_mem_take h)
 ·rcases List.mem_cons.1 h with h | h
  ·exact .inl h
  ·exact .inr (List.mem_of_mem_drop h)
def MkOk (s : St) (m : Int × Int) : Prop := m.1 ≠ s.self ∧ hasB (lastV s.views).2 m.1 = true ∧ 0 ≤ m.2 ∧ m.2 ≤ s.log.length
theorem lists_iff {s : St} : listsB s = true ↔ (s.marks = [] ∨ (openB s = true ∧ leadB s = true)) ∧ (s.fls = [] ∨ (openB s = false ∧ leadB s = true)) ∧ (AscK (s.marks.map Prod.fst) ∧ ∀ m ∈ s.marks, MkOk s m) ∧ (AscK (s.fls.map Prod.fst) ∧ ∀ f ∈ s.fls, isId f.1 = true ∧ possB s.views f = true) := by
 unfold listsB
 simp only [Bool.and_eq_true, Bool.or_eq_true, decide_eq_true_eq, List.all_eq_true, List.mem_range, Bool.not_eq_true', List.length_eq_zero_iff]
 refine and_congr Iff.rfl (and_congr Iff.rfl (and_congr ?_ ?_))
 ·rw [← asc_iff]
  constructor
  ·intro h
   have h1 : ∀ i m, s.marks[i]? = some m → okMark s i m = true := by
    intro i m hm
    have := h i (List.getElem?_eq_some_iff.1 hm).1
    unfold okMarkAt at this
    rw [hm] at this
    exact this
   refine ⟨fun i k hk => ?_, fun m hm => ?_⟩
   ·rw [List.getElem?_map] at hk
    obtain ⟨m, hm, rfl⟩ := Option.map_eq_some_iff.1 hk
    have := h1 i m hm
    unfold okMark befM at this
    simp only [Bool.and_eq_true, decide_eq_true_eq] at this
    have h2 := this.1
    rw [List.getElem?_map]
    cases hx : s.marks[i - 1]? with
    | none => rw [hx] at h2; simpa using h2
    | some y => rw [hx] at h2; simpa using h2
   ·obtain ⟨i, hi, rfl⟩ := List.mem_iff_getElem.1 hm
    have := h1 i _ (List.getElem?_eq_getElem hi)
    unfold okMark at this
    simp only [Bool.and_eq_true, decide_eq_true_eq] at this
    exact this.2
  ·rintro ⟨h1, h2⟩ i hi
   unfold okMarkAt
   rw [List.getElem?_eq_getElem hi]
   have h3 := h1 i (s.marks[i]).1 (by rw [List.getElem?_map, List.getElem?_eq_getElem hi]; rfl)
   have h4 := h2 _ (List.getElem_mem hi)
   unfold okMark befM
   simp only [Bool.and_eq_true, decide_eq_true_eq]
   refine ⟨?_, h4⟩
   rw [List.getElem?_map] at h3
   cases hx : s.marks[i - 1]? with
   | none => rw [hx] at h3; simpa using h3
   | some y => rw [hx] at h3; simpa using h3
 ·rw [← asc_iff]
  constructor
  ·intro h
   have h1 : ∀ i m, s.fls[i]? = some m → okFl s i m = true := by
    intro i m hm
    have := h i (List.getElem?_eq_some_iff.1 hm).1
    unfold okFlAt at this
    rw [hm] at this
    exact this
   refine ⟨fun i k hk => ?_, fun m hm => ?_⟩
   ·rw [List.getElem?_map] at hk
    obtain ⟨m, hm, rfl⟩ := Option.map_eq_some_iff.1 hk
    have := h1 i m hm
    unfold okFl befF at this
    simp only [Bool.and_eq_true, decide_eq_true_eq] at this
    have h2 := this.1
    rw [List.getElem?_map]
    cases hx : s.fls[i - 1]? with
    | none => rw [hx] at h2; simpa using h2
    | some y => rw [hx] at h2; simpa using h2
   ·obtain ⟨i, hi, rfl⟩ := List.mem_iff_getElem.1 hm
    have := h1 i _ (List.getElem?_eq_getElem hi)
    unfold okFl at this
    simp only [Bool.and_eq_true, decide_eq_true_eq] at this
    exact this.2
  ·rintro ⟨h1, h2⟩ i hi
   unfold okFlAt
   rw [List.getElem?_eq_getElem hi]
   have h3 := h1 i (s.fls[i]).1 (by rw [List.getElem?_map, List.getElem?_eq_getElem hi]; rfl)
   have h4 := h2 _ (List.getElem_mem hi)
   unfold okFl befF
   simp only [Bool.and_eq_true, decide_eq_true_eq]
   refine ⟨?_, h4⟩
   rw [List.getElem?_map] at h3
   cases hx : s.fls[i - 1]? with
   | none => rw [hx] at h3; simpa using h3
   | some y => rw [hx] at h3; simpa using h3
structure VS (s : St) : Prop where
 self : isId s.self = true
 vs : validVs s.views = true
 sent0 : 0 ≤ s.sent
 sent : s.sent ≤ 1099511627776
 based : basedB s.log s.base = true
 known : s.base = -1 ∨ ∃ v, knownV s.views s.base = some v ∧ hasB v.2 s.self = true
 own : (ownN s.log s.self : Int) ≤ s.sent
 st0 : 0 ≤ s.stable
 st : s.stable ≤ s.log.length
 pl : s.pend.length ≤ 32
 pd : (s.pend.length : Int) = s.sent - ownN (s.log.take s.stable.toNat) s.self
 pp : ∀ p ∈ s.pend, p.length ≤ 6000
 mk0 : s.marks = [] ∨ (openB s = true ∧ leadB s = true)
 fl0 : s.fls = [] ∨ (openB s = false ∧ leadB s = true)
 mka : AscK (s.marks.map Prod.fst)
 mks : ∀ m ∈ s.marks, MkOk s m
 fla : AscK (s.fls.map Prod.fst)
 fls : ∀ f ∈ s.fls, isId f.1 = true ∧ possB s.views f = true
theorem vs_iff {s : St} : validS s = true ↔ VS s := by
 constructor
 ·intro h
  obtain ⟨h1, h2, h3, h4, h5, h6, h7, h8, h9, h10, h11, h12, h13⟩ := validS_inv h
  obtain ⟨k1, k2, ⟨k3, k4⟩, k5, k6⟩ := lists_iff.1 h13
  exact ⟨h1, h2, h3, h4, h5, h6, h7, h8, h9, h10, h11, h12, k1, k2, k3, k4, k5, k6⟩
 ·intro h
  unfold validS
  simp only [Bool.and_eq_true, decide_eq_true_eq, Bool.or_eq_true, List.all_eq_true]
  refine ⟨h.self, h.vs, h.sent0, h.sent, h.based, ?_, h.own, h.st0, h.st, h.pl, h.pd, h.pp, lists_iff.2 ⟨h.mk0, h.fl0, ⟨h.mka, h.mks⟩, h.fla, h.fls⟩⟩
  rcases h.known with hk | ⟨v, hk, hv⟩
  ·exact .inl hk
  ·right; rw [hk]; exact hv
theorem vnum {l : List Vw} (h : validVs l = true) : ∀ i, i < l.length → (vwAt l i).1 = (vwAt l 0).1 + i := by
 obtain ⟨_, _, _, h4⟩ := validVs_inv h
 intro i
 induction i with
 | zero => intro _; simp
 | succ i ih => intro hi; have h5 := (follow_valid (h4 i (by omega))).2; have := ih (by omega); rw [h5, this]; push_cast; omega
theorem vwAt_get {l : List Vw} {i : Nat} (h : i < l.length) : vwAt l i = l[i] := by unfold vwAt; rw [List.getElem?_eq_getElem h]; rfl
theorem known_at {l : List Vw} (h : validVs l = true) {i : Nat} (hi : i < l.length) : knownV l (vwAt l i).1 = some (vwAt l i) := by
 unfold knownV
 refine List.find?_eq_some_iff_getElem.2 ⟨by simp, i, hi, (vwAt_get hi).symm, fun j hj => ?_⟩
 have h1 := vnum h i hi; have h2 := vnum h j (by omega)
 rw [vwAt_get (by omega)] at h2
 simp; omega
theorem known_last {l : List Vw} (h : validVs l = true) : knownV l (lastV l).1 = some (lastV l) := known_at h (by have := (validVs_inv h).1; omega)
theorem VS.last {s : St} (h : VS s) : validB (lastV s.views).1 (lastV s.views).2 = true := validVs_last h.vs
theorem VS.open_base {s : St} (h : VS s) (ho : openB s = true) : s.base = (lastV s.views).1 ∧ s.base ≠ -1 := by
 unfold openB at ho
 simp only [decide_eq_true_eq] at ho
 have := validB_num h.last
 exact ⟨ho, by omega⟩
theorem VS.log {s : St} (h : VS s) (hb : s.base ≠ -1) : 0 < s.log.length ∧ validLog s.log = true ∧ lastE s.log = s.base := by
 have := h.based
 unfold basedB at this
 rw [if_neg hb] at this
 simp only [Bool.and_eq_true, decide_eq_true_eq] at this
 exact this
theorem VS.lead_has {s : St} (h : VS s) (hl : leadB s = true) : hasB (lastV s.views).2 s.self = true := by
 unfold leadB seqrF at hl
 rw [if_pos h.last] at hl
 simp only [decide_eq_true_eq] at hl
 have h1 := (validB_len h.last).1
 rw [List.getElem?_eq_getElem (by omega)] at hl
 rw [hasB_iff, ← hl]
 exact List.getElem_mem _
theorem based_mk {l : List Ent} {b : Int} (h0 : 0 < l.length) (hv : validLog l = true) (hb : lastE l = b) (hn : b ≠ -1) : basedB l b = true := by
 unfold basedB
 rw [if_neg hn, hv, hb]
 simp [h0]
theorem VS.extend {s : St} (h : VS s) {ex : List Ent} (hb : basedB (s.log ++ ex) s.base = true) (ho : (ownN (s.log ++ ex) s.self : Int) ≤ s.sent) : VS { s with log := s.log ++ ex } := by
 have h1 := h.st; have h0 := h.st0
 refine ⟨h.self, h.vs, h.sent0, h.sent, hb, h.known, ho, h.st0, by simp; omega, h.pl, ?_, h.pp, h.mk0, h.fl0, h.mka, fun m hm => ?_, h.fla, h.fls⟩
 ·show (s.pend.length : Int) = s.sent - ownN ((s.log ++ ex).take s.stable.toNat) s.self
  rw [List.take_append_of_le_length (by omega)]; exact h.pd
 ·obtain ⟨m1, m2, m3, m4⟩ := h.mks m hm
  exact ⟨m1, m2, m3, by simp; omega⟩
theorem VS.raise {s : St} (h : VS s) {n : Int} (hn : s.stable < n) (hl : n ≤ s.log.length) : VS { s with pend := s.pend.drop (ownN (cutL s.log s.stable n) s.self), stable := n } := by
 have h1 := h.st; have h0 := h.st0; have hd := h.pd; have hp := h.pl; have ho := h.own
 have e1 : s.log.take n.toNat = s.log.take s.stable.toNat ++ cutL s.log s.stable n := by
  unfold cutL
  rw [show s.log.take s.stable.toNat = (s.log.take n.toNat).take s.stable.toNat by rw [List.take_take, Nat.min_eq_left (by omega)], List.take_append_drop]
 have e2 : ownN (s.log.take n.toNat) s.self = ownN (s.log.take s.stable.toNat) s.self + ownN (cutL s.log s.stable n) s.self := by rw [e1, ownN_app]
 have e3 := ownN_take s.log n.toNat s.self
 refine ⟨h.self, h.vs, h.sent0, h.sent, h.based, h.known, h.own, by show 0 ≤ n; omega, hl, ?_, ?_, fun p hp => h.pp p (List.mem_of_mem_drop hp), h.mk0, h.fl0, h.mka, h.mks, h.fla, h.fls⟩
 ·simp only [List.length_drop]; omega
 ·show ((s.pend.drop (ownN (cutL s.log s.stable n) s.self)).length : Int) = s.sent - ownN (s.log.take n.toNat) s.self
  rw [List.length_drop]; omega
theorem VS.relog {s : St} (h : VS s) {l : List Ent} (hm : s.marks = []) (hb : basedB l (lastV s.views).1 = true) (hs : hasB (lastV s.views).2 s.self = true) (hp : begsB l (s.log.take s.stable.toNat) = true) (ho : (ownN l s.self : Int) ≤ s.sent) :
  VS { s with base := (lastV s.views).1, log := l, fls := [] } ∧ l.take s.stable.toNat = s.log.take s.stable.toNat := by
 have h1 := h.st; have h0 := h.st0
 unfold begsB at hp
 simp only [Bool.and_eq_true, decide_eq_true_eq, List.length_take] at hp
 have e : l.take s.stable.toNat = s.log.take s.stable.toNat := by
  have := hp.2
  rwa [Nat.min_eq_left (by omega)] at this
 refine ⟨⟨h.self, h.vs, h.sent0, h.sent, hb, .inr ⟨_, known_last h.vs, hs⟩, ho, h.st0, ?_, h.pl, ?_, h.pp, .inl hm, .inl rfl, h.mka, fun m hm' => ?_, ⟨List.Pairwise.nil, fun k hk => by cases hk⟩, fun f hf => by cases hf⟩, e⟩
 ·show s.stable ≤ (l.length : Int)
  have := hp.1; omega
 ·show (s.pend.length : Int) = s.sent - ownN (l.take s.stable.toNat) s.self
  rw [e]; exact h.pd
 ·have : m ∈ s.marks := hm'
  rw [hm] at this; cases this
end Go.Proofs.YtponbabbabnaeaaGreat
namespace Go.Proofs.YtponbabbabnaeaaGreat
open Go.RowKit
theorem ackM_set {l : List (Int × Int)} {fr n b : Int} {k : Nat} (hs : spotM l fr = k) (h : l[k]? = some (fr, b)) : ackM l fr n = l.set k (fr, max b n) := by
 unfold ackM
 rw [hs, h]; simp
theorem ackM_ins {l : List (Int × Int)} {fr n : Int} {k : Nat} {x : Int × Int} (hs : spotM l fr = k) (h : l[k]? = some x) (hx : x.1 ≠ fr) : ackM l fr n = l.take k ++ (fr, max 0 n) :: l.drop k := by
 unfold ackM
 rw [hs, h]
 obtain ⟨a, b⟩ := x
 simp only at hx ⊢
 rw [if_neg hx]
theorem ackM_at {l : List (Int × Int)} {fr n : Int} (hs : spotM l fr = l.length) : ackM l fr n = l ++ [(fr, max 0 n)] := by
 unfold ackM
 rw [hs, List.getElem?_eq_none (Nat.le_refl _)]
theorem ack_mem {l : List (Int × Int)} {fr n : Int} {y : Int × Int} (h : y ∈ ackM l fr n) : y ∈ l ∨ ∃ b, (b = 0 ∨ ∃ a, (a, b) ∈ l) ∧ y = (fr, max b n) := by
 unfold ackM at h
 split at h
 ·next a b hx =>
  by_cases he : a = fr
  ·rw [if_pos he] at h
   rcases List.mem_or_eq_of_mem_set h with h | h
   ·exact .inl h
   ·exact .inr ⟨b, .inr ⟨a, List.mem_of_getElem? hx⟩, by rw [h, he]⟩
  ·rw [if_neg he] at h
   rcases mem_put h with h | h
   ·exact .inr ⟨0, .inl rfl, h⟩
   ·exact .inl h
 ·rcases List.mem_append.1 h with h | h
  ·exact .inl h
  ·exact .inr ⟨0, .inl rfl, by simpa using h⟩
theorem ok_acks {s : St} (h : OkS s) {fr n : Int} (hn : ¬ (s.log.length : Int) < n) : OkS { s with marks := ackM s.marks fr n } := by
 refine ⟨h.vs, h.st0, h.st1, h.own, h.sent, h.pend, h.pn, h.log, h.lp, h.pp, fun y hy => ?_, h.mem⟩
 rcases ack_mem hy with hy | ⟨b, hb, rfl⟩
 ·exact h.mks y hy
 ·simp only
  rcases hb with rfl | ⟨a, hb⟩
  ·omega
  ·have := h.mks _ hb
   simp only at this
   omega
theorem mid_get {α : Type} {l : List α} {k : Nat} {x : α} {r : List α} (h : k ≤ l.length) : (l.take k ++ x :: r)[k]? = some x := by
 rw [List.getElem?_append_right (by rw [List.length_take]; omega), List.length_take, Nat.min_eq_left h]; simp
theorem mid_set {α : Type} {l : List α} {k : Nat} {x y : α} {r : List α} (h : k ≤ l.length) : (l.take k ++ x :: r).set k y = l.take k ++ y :: r := by
 rw [List.set_append_right _ _ (by rw [List.length_take]; omega), List.length_take, Nat.min_eq_left h]; simp
theorem mark_cell {w : World} {B g c k : Nat} {l : List (Int × Int)} {x : Int × Int} (h : markE.Own w B (.slice (some ⟨g, 0, none⟩) l.length c) l) (hx : l[k]? = some x) : w.cell? ⟨g, k * 2 + 1, none⟩ = some (.int .i64 x.2) := by
 obtain ⟨b, off, y, hA, hb, c0, c1, HX⟩ := marks_at h.row (List.getElem?_eq_some_iff.1 hx).1
 cases hA
 rw [hx] at HX
 have := HX.out; cases this
 simpa using c1
theorem mark_free {w : World} {B g c k : Nat} {l : List (Int × Int)} (h : markE.Own w B (.slice (some ⟨g, 0, none⟩) l.length c) l) (hk : k < l.length) (i : Nat) : w.frozen? ⟨g, i, none⟩ = false := by
 obtain ⟨g', c', hg', _, _, _, _, hfz⟩ := mark_own_some h (by omega)
 cases hg'
 exact hfz i
theorem acked_out {B p g c2 : Nat} {col col' : Nat → Nat} {w w3 w4 : World} {m M : CM} {fr n : Int} {MK NM : List (Int × Int)} (h : CS w B col p M) (hm : M = m) (ok : OkS ({ m.b with Am := some ⟨g, 0, none⟩, cm := c2, marks := NM } : BM).st)
  (hcv : ColV col' 3 (.slice (some ⟨g, 0, none⟩) MK.length c2)) (s3 : Stp B [1, 3] col w col' w3) (ho : markE.Own w4 B (.slice (some ⟨g, 0, none⟩) NM.length c2) NM) (bx : BIs w4 p ({ m with b := { m.b with Am := some ⟨g, 0, none⟩, cm := c2, marks := NM } } : CM).cells 86)
  (w34 : Wrote g w3 w4) (hBg : B ≤ g) (hll : MK.length = NM.length) (hNl : NM.length ≤ 50001) (hpc : col' p = 1) (hr : ackedF M.cs fr n = announceF { m.cs with s := { m.cs.s with marks := NM } }) (hdl : m.dl.length ≤ 100000) :
  Calls Tryz.prog 118 #[.pointer (some ⟨p, 0, none⟩)] w4.drew (Does B col p w (ackedF M.cs fr n)) := by
 subst hm
 have s4 : Stp B [1, 3] col w col' w4 := s3.trans (Stp.wrote w34 hBg (Nat.le_trans h.Bsz s3.size) (by rw [hcv g rfl]; simp))
 have hf := h.fits
 have c4 : CS w4 B col' p { M with b := { M.b with Am := some ⟨g, 0, none⟩, cm := c2, marks := NM } } := by
  refine ⟨bx, hpc, h.bp, h.lies.remarks s4 (by simp) (by simp) (by simp) (by simp) ho (by rw [← hll]; exact hcv), s4.own h.pk h.kc (by simp), s4.colV h.pk h.kc, h.kiK s4 (by simp), s4.own h.dl h.dc (by simp), s4.colV h.dl h.dc, ?_, h.cp⟩
  exact ⟨hf.vs, hf.vx, hf.log, hf.lp, hf.pend, hf.pp, by simp only; omega, hf.fls, hf.fl, hf.cl⟩
 refine (announce_any _ B _ p _ (c4.ext Ext.drew1) (by have := ok.vs; simpa [BM.st, vws_len] using this) ok.st0 (fun x hx => (ok.mks x hx).2) hdl (ok_maj ok).1 (fun n _ => ok_cut ok n)).mono ?_
 rintro en w9 ⟨m9, col9, rfl, hc9, hm9, hs9⟩
 rw [hr]
 exact ⟨m9, col9, rfl, hc9, hm9, (s4.mono (cs' := [1, 2, 3, 4, 5, 7]) (by simp)).trans ((Stp.ext' c4.Bsz Ext.drew1).trans hs9)⟩
set_option maxRecDepth 100000 in
set_option maxHeartbeats 1000000 in
theorem acked_any (m : CM) (B : Nat) (col : Nat → Nat) (p : Nat) (fr n : Int) (w : World) (h : CS w B col p m) (ok : OkS m.b.st) (hdl : m.dl.length ≤ 100000) (hmn : m.b.marks.length ≤ 50000) :
  Calls Tryz.prog 144 #[.pointer (some ⟨p, 0, none⟩), .int .i64 fr, .int .i64 n] w (Does B col p w (ackedF m.cs fr n)) := by
 have H := hJ h; have OK := hJ ok
 have hpl := h.lt
 have q3 := h.cell 3; have q7 := h.cell 7; have fz7 := h.free 7
 have hfl := h.fits.log
 obtain ⟨Am', cm', hv, hk1, hk2, _⟩ := mark_own_parts h.lies.marks
 simp only [Value.slice.injEq, true_and] at hv
 obtain ⟨hAm, hcm⟩ := hv
 rw [← hcm] at hk1 hk2
 clear h ok hcm hAm; obtain ⟨M, hM⟩ : ∃ x, x = m := ⟨_, rfl⟩
 have HM := hJ hM
 rw [← hM] at H OK ⊢
 clear hM; obtain ⟨⟨self, base, stable, sent, Av, cv, vs, Al, cl, log, Ap, cp, pend, Am, cm, marks, Af, cf, fls⟩, Ak, ck, pk, Ad, cd, dl⟩ := m
 simp only at hk1 hk2 hfl hdl hmn
 replace q3 : w.cell? ⟨p, 3, none⟩ = some (.slice Al log.length cl) := q3
 replace q7 : w.cell? ⟨p, 7, none⟩ = some (.slice Am marks.length cm) := q7
 by_cases hn : (log.length : Int) < n
 ·have HR : Hid (ackedF M.cs fr n = M.cs) := hJ (by unfold ackedF; rw [HM.out]; exact if_pos hn)
  have hd : decide ((log.length : Int) < n) = true := by simpa using hn
  clear hn; go_enter Tryz.func144, Tryz.ntmps144
  go_wp2; (try simp only [Exit.inBlock, Exit.then]); refine bodyPost_ret (results_none rfl _ _ _) rfl ?_
  rw [HR.out]
  exact ⟨M, col, rfl, H.out, rfl, Stp.refl _ _ _ _⟩
 ·have hd : decide ((log.length : Int) < n) = false := by simpa using hn
  obtain ⟨NM, hNM⟩ : ∃ l, l = ackM marks fr n := ⟨_, rfl⟩
  have HNM := hJ hNM
  have HR : Hid (ackedF M.cs fr n = announceF { (⟨⟨self, base, stable, sent, Av, cv, vs, Al, cl, log, Ap, cp, pend, Am, cm, marks, Af, cf, fls⟩, Ak, ck, pk, Ad, cd, dl⟩ : CM).cs with s := { (⟨⟨self, base, stable, sent, Av, cv, vs, Al, cl, log, Ap, cp, pend, Am, cm, marks, Af, cf, fls⟩, Ak, ck, pk, Ad, cd, dl⟩ : CM).cs.s with marks := NM } }) := hJ (by
   unfold ackedF; rw [HM.out, hNM]; exact if_neg hn)
  clear hNM; have OK4 : ∀ (g c2 : Nat), Hid (OkS (⟨self, base, stable, sent, Av, cv, vs, Al, cl, log, Ap, cp, pend, (some ⟨g, 0, none⟩), c2, NM, Af, cf, fls⟩ : BM).st) := fun g c2 => hJ (by
   have ok := OK.out
   rw [HM.out] at ok
   rw [HNM.out]
   exact ok_acks ok (by simpa [BM.st] using hn))
  have HN := hJ hn
  clear hn; have HMR : Hid (Row w Am (markE.cells marks)) := hJ (by have := H.out.lies.marks.row; rw [HM.out] at this; exact this)
  have HMO : Hid (markE.Own w B (.slice Am marks.length cm) marks) := hJ (by have := H.out.lies.marks; rw [HM.out] at this; exact this)
  have HMC : Hid (ColV col 3 (.slice Am marks.length cm)) := hJ (by have := H.out.lies.mc; rw [HM.out] at this; exact this)
  have HBX : Hid (BIs w p (⟨⟨self, base, stable, sent, Av, cv, vs, Al, cl, log, Ap, cp, pend, Am, cm, marks, Af, cf, fls⟩, Ak, ck, pk, Ad, cd, dl⟩ : CM).cells 86) := hJ (by have := H.out.box; rw [HM.out] at this; exact this)
  have HPC : Hid (col p = 1) := hJ H.out.pc
  have E0 : Hid (Ext w (w.alloc (.cells #[.int .i64 fr, .int .i64 0] 123))) := hJ (Ext.new _ _)
  have G0 : Hid (BIs (w.alloc (.cells #[.int .i64 fr, .int .i64 0] 123)) w.heap.size (markE.f (fr, 0)).toArray 123) := hJ (BIs.new _ _ _)
  have HGN : Hid (∀ k, (Value.slice Am marks.length cm).ownBlock = some k → k ≠ w.heap.size) := hJ (fun k hk => by have := (HMO.out.lt k hk).2; omega)
  go_enter Tryz.func144, Tryz.ntmps144
  go_wp2; go_loopw [6] (fun i wr => ∃ k : Nat, k ≤ marks.length ∧ i = .int .i64 (k : Int) ∧ Hid (∀ i y, i < k → marks[i]? = some y → y.1 < fr) ∧ w = wr) (fun i _ => marks.length - (intOf i).toNat)
  case atStart => exact ⟨0, Nat.zero_le _, rfl, hJ (fun i y hi => absurd hi (Nat.not_lt_zero _)), rfl⟩
  case round =>
   obtain ⟨k, hk, rfl, HK, rfl⟩ := hrel
   by_cases hlt : k < marks.length
   ·obtain ⟨b, off, x, hA, hb, c0, c1, HX⟩ := marks_at HMR.out hlt
    obtain ⟨g0, cg, hgv, _, _, hBg, hgs, hfz⟩ := mark_own_some HMO.out (by omega)
    simp only [Value.slice.injEq, true_and] at hgv
    obtain ⟨hAg, rfl⟩ := hgv
    rw [hAg] at hA
    simp only [Option.some.injEq, Addr.mk.injEq, and_true] at hA
    obtain ⟨rfl, rfl⟩ := hA
    simp only [Nat.zero_add] at c0 c1
    subst hAg
    by_cases hx : x.1 < fr
    ·have hx1 : decide (x.1 < fr) = true := by simpa using hx
     have HK' : Hid (∀ i y, i < k + 1 → marks[i]? = some y → y.1 < fr) := hJ (fun i y hi hy => by
      rcases Nat.lt_or_ge i k with h1 | h1
      ·exact HK.out i y h1 hy
      ·have : i = k := by omega
       subst this
       rw [HX.out] at hy; cases hy; exact hx)
     clear hx; go_wp2; go_roundw
     case rel => exact ⟨k + 1, by omega, by go_num, HK', by first | trivial | rfl⟩
     case measure => simp [intOf]; omega
    ·have hx1 : decide (x.1 < fr) = false := by simpa using hx
     have HS : Hid (spotM marks fr = k) := hJ (spotM_eq HK.out hk (fun y hy => by rw [HX.out] at hy; cases hy; exact hx))
     by_cases he : x.1 = fr
     ·have hx2 : (x.1 == fr) = true := by simpa using he
      have hx3 : (x.1 != fr) = false := by simpa using he
      obtain ⟨x0, n0⟩ := x
      simp only at he
      subst he
      have HSET : Hid (marks.set k (x0, max n0 n) = NM) := hJ (by rw [HNM.out, ackM_set HS.out HX.out])
      have hmx := HX
      have hml2 : marks.length ≤ 50001 := by omega
      have hkm : k < marks.length := hlt
      have HCV := HMC; have HO3 := HMO; have BX3 := HBX; have hpc := HPC
      have S3 : Hid (Stp B [1, 3] col w col w) := hJ (Stp.refl _ _ _ _)
      obtain ⟨g, rfl⟩ : ∃ x, x = g0 := ⟨_, rfl⟩
      have hgp : g ≠ p := fun e => by have := HCV.out g rfl; rw [e, hpc.out] at this; cases this
      have OK4 := OK4 g cm
      clear hx hfz; go_upto_region 6 with fail
      clear q3 q7 fz7 hd; have r7 : w.cell? ⟨p, 7, none⟩ = some (.slice (some ⟨g, 0, none⟩) marks.length cm) := BX3.out.cell 7
      have rg : w.cell? ⟨g, k * 2 + 1, none⟩ = some (.int .i64 n0) := mark_cell HO3.out hmx.out
      have fzg := mark_free HO3.out hkm (k * 2 + 1)
      have hpl3 : p < w.heap.size := BX3.out.lt
      have hgl3 : g < w.heap.size := (HO3.out.lt g rfl).2
      go_wp2; refine E_begin 17 (fun w' => w'.cell? ⟨p, 7, none⟩ = some (.slice (some ⟨g, 0, none⟩) marks.length cm) ∧ w'.cell? ⟨g, k * 2 + 1, none⟩ = some (.int .i64 n0)) (by kernel_rfl) ⟨r7, rg⟩ (fun hHeld => ?_)
      refine E_t 0 73 ?_; refine E_t 1 74 ?_; refine E_t 2 75 ?_; refine E_t 3 76 ?_; refine E_t 4 77 ?_; refine E_t 5 78 ?_; refine E_t 6 79 ?_; refine E_t 7 80 ?_; refine E_t 8 81 ?_; refine E_t 9 82 ?_; refine E_t 10 83 ?_; refine E_t 11 84 ?_; refine E_t 12 85 ?_; refine E_t 13 86 ?_; refine E_t 14 87 ?_; refine E_t 15 88 ?_; refine E_t 16 89 ?_; refine E_tail (by rfl) (by kernel_rfl) ?_
      go_wp2_with fail
      have W34 : Hid (Wrote g w (w.setCell ⟨g, k * 2 + 1, none⟩ (.int .i64 (max n0 n)))) := hJ (Wrote.set _ _ _ _)
      have hll : Hid (marks.length = NM.length) := hJ (by rw [← HSET.out, List.length_set])
      have hNl : NM.length ≤ 50001 := by rw [← hll.out]; exact hml2
      have HO4 : Hid (markE.Own (w.setCell ⟨g, k * 2 + 1, none⟩ (.int .i64 (max n0 n))) B (.slice (some ⟨g, 0, none⟩) NM.length cm) NM) := hJ (by
       have := marks_set (max n0 n) HO3.out hmx.out
       simp only at this
       rw [HSET.out, hll.out] at this
       exact this)
      have BX4 : Hid (BIs (w.setCell ⟨g, k * 2 + 1, none⟩ (.int .i64 (max n0 n))) p (⟨⟨self, base, stable, sent, Av, cv, vs, Al, cl, log, Ap, cp, pend, (some ⟨g, 0, none⟩), cm, NM, Af, cf, fls⟩, Ak, ck, pk, Ad, cd, dl⟩ : CM).cells 86) := hJ (by
       have := W34.out.bis BX3.out (Ne.symm hgp)
       simp only [CM.cells, hll.out] at this
       exact this)
      clear r7 rg fzg hHeld; generalize w.setCell ⟨g, k * 2 + 1, none⟩ (.int .i64 (max n0 n)) = w4 at *
      refine (acked_out H.out HM.out OK4.out HCV.out S3.out HO4.out BX4.out W34.out hBg hll.out hNl hpc.out HR.out hdl).mono ?_
      rintro en w9 ⟨m9, col9, rfl, hc9, hm9, hs9⟩
      go_wp2; go_end0; exact ⟨m9, col9, rfl, hc9, hm9, hs9⟩
     ·have hx2 : (x.1 == fr) = false := by simpa using he
      have hx3 : (x.1 != fr) = true := by simpa using he
      have HA : Hid (ackM marks fr n = marks.take k ++ (fr, max 0 n) :: marks.drop k) := hJ (ackM_ins HS.out HX.out he)
      clear hx he hfz; go_wp2_with fail
      refine (insM_any B (some ⟨g0, 0, none⟩) cm marks (fr, 0) k _ (HMO.out.ext E0.out) (Nat.le_trans H.out.Bsz E0.out.size) w.heap.size 1 G0.out HGN.out hlt (by omega)).mono ?_
      rintro en w2 ⟨v2, rfl, ho2, hg2, hs2⟩
      obtain ⟨MK, hMK⟩ : ∃ l, l = marks.take k ++ (fr, (0 : Int)) :: marks.drop k := ⟨_, rfl⟩
      rw [← hMK] at ho2
      have hml : MK.length = marks.length + 1 := by rw [hMK]; simp; omega
      have hml2 : MK.length ≤ 50001 := by omega
      have hkm : k < MK.length := by omega
      have hmx : Hid (MK[k]? = some (fr, 0)) := hJ (by rw [hMK]; exact mid_get hk)
      have HSET : Hid (MK.set k (fr, max 0 n) = NM) := hJ (by rw [HNM.out, HA.out, hMK]; exact mid_set hk)
      have HML := hJ hml
      clear hMK hml; obtain ⟨g, c2, rfl, h21, h22, hBg, hgs, hfz⟩ := mark_own_some ho2 (by omega)
      clear hfz; have HO2 := hJ ho2
      have HCV : Hid (ColV (paint col w.heap.size 3) 3 (.slice (some ⟨g, 0, none⟩) MK.length c2)) := hJ (colV_stems hs2 HMC.out E0.out.size (fun q hq => (HMO.out.lt q hq).2))
      have S2 : Hid (Stp B [3] col w (paint col w.heap.size 3) w2) := hJ ((Stp.ext (cs := [3]) H.out.Bsz E0.out (fun k hk => paint_old hk)).trans (Stp.grew hg2 (Nat.le_trans H.out.Bsz E0.out.size) (fun k hk => (HMO.out.lt k hk).1) (c := 3) (HMC.out.old HMO.out (fun k hk => paint_old hk)) (by simp)))
      have hpc : Hid ((paint col w.heap.size 3) p = 1) := hJ (by rw [paint_old H.out.lt]; exact H.out.pc)
      have hgp : g ≠ p := fun e => by have := HCV.out g rfl; rw [e, hpc.out] at this; cases this
      have BX2 : Hid (BIs w2 p (⟨⟨self, base, stable, sent, Av, cv, vs, Al, cl, log, Ap, cp, pend, (some ⟨g0, 0, none⟩), cm, marks, Af, cf, fls⟩, Ak, ck, pk, Ad, cd, dl⟩ : CM).cells 86) := hJ (S2.out.bis HBX.out (by rw [HPC.out]; simp))
      have k7 : w2.cell? ⟨p, 7, none⟩ = some (.slice (some ⟨g0, 0, none⟩) marks.length cm) := BX2.out.cell 7
      have fz2 := BX2.out.free 7
      have hpl2 : p < w2.heap.size := BX2.out.lt
      clear ho2 hg2 hs2 q3 q7 fz7 hd; go_upto_region 6 with fail
      have W23 : Hid (Wrote p w2 (w2.setCell ⟨p, 7, none⟩ (.slice (some ⟨g, 0, none⟩) MK.length c2))) := hJ (Wrote.set _ _ _ _)
      have BX3 : Hid (BIs (w2.setCell ⟨p, 7, none⟩ (.slice (some ⟨g, 0, none⟩) MK.length c2)) p (⟨⟨self, base, stable, sent, Av, cv, vs, Al, cl, log, Ap, cp, pend, (some ⟨g, 0, none⟩), c2, MK, Af, cf, fls⟩, Ak, ck, pk, Ad, cd, dl⟩ : CM).cells 86) := hJ (BX2.out.set 7 _)
      have HO3 : Hid (markE.Own (w2.setCell ⟨p, 7, none⟩ (.slice (some ⟨g, 0, none⟩) MK.length c2)) B (.slice (some ⟨g, 0, none⟩) MK.length c2) MK) := hJ (HO2.out.set_other (fun k hk => by cases hk; exact hgp) _)
      clear k7 fz2; generalize w2.setCell ⟨p, 7, none⟩ (.slice (some ⟨g, 0, none⟩) MK.length c2) = w3 at *
      have S3 : Hid (Stp B [1, 3] col w (paint col w.heap.size 3) w3) := hJ ((S2.out.mono (by simp)).trans (Stp.wrote W23.out H.out.bp (Nat.le_trans H.out.Bsz S2.out.size) (by rw [hpc.out]; simp)))
      have OK4 := OK4 g c2
      have r7 : w3.cell? ⟨p, 7, none⟩ = some (.slice (some ⟨g, 0, none⟩) MK.length c2) := BX3.out.cell 7
      have rg : w3.cell? ⟨g, k * 2 + 1, none⟩ = some (.int .i64 0) := mark_cell HO3.out hmx.out
      have fzg := mark_free HO3.out hkm (k * 2 + 1)
      have hpl3 : p < w3.heap.size := BX3.out.lt
      have hgl3 : g < w3.heap.size := (HO3.out.lt g rfl).2
      go_wp2; refine E_begin 17 (fun w' => w'.cell? ⟨p, 7, none⟩ = some (.slice (some ⟨g, 0, none⟩) MK.length c2) ∧ w'.cell? ⟨g, k * 2 + 1, none⟩ = some (.int .i64 0)) (by kernel_rfl) ⟨r7, rg⟩ (fun hHeld => ?_)
      refine E_t 0 73 ?_; refine E_t 1 74 ?_; refine E_t 2 75 ?_; refine E_t 3 76 ?_; refine E_t 4 77 ?_; refine E_t 5 78 ?_; refine E_t 6 79 ?_; refine E_t 7 80 ?_; refine E_t 8 81 ?_; refine E_t 9 82 ?_; refine E_t 10 83 ?_; refine E_t 11 84 ?_; refine E_t 12 85 ?_; refine E_t 13 86 ?_; refine E_t 14 87 ?_; refine E_t 15 88 ?_; refine E_t 16 89 ?_; refine E_tail (by rfl) (by kernel_rfl) ?_
      go_wp2_with fail
      have W34 : Hid (Wrote g w3 (w3.setCell ⟨g, k * 2 + 1, none⟩ (.int .i64 (max 0 n)))) := hJ (Wrote.set _ _ _ _)
      have hll : Hid (MK.length = NM.length) := hJ (by rw [← HSET.out, List.length_set])
      have hNl : NM.length ≤ 50001 := by rw [← hll.out]; exact hml2
      have HO4 : Hid (markE.Own (w3.setCell ⟨g, k * 2 + 1, none⟩ (.int .i64 (max 0 n))) B (.slice (some ⟨g, 0, none⟩) NM.length c2) NM) := hJ (by
       have := marks_set (max 0 n) HO3.out hmx.out
       simp only at this
       rw [HSET.out, hll.out] at this
       exact this)
      have BX4 : Hid (BIs (w3.setCell ⟨g, k * 2 + 1, none⟩ (.int .i64 (max 0 n))) p (⟨⟨self, base, stable, sent, Av, cv, vs, Al, cl, log, Ap, cp, pend, (some ⟨g, 0, none⟩), c2, NM, Af, cf, fls⟩, Ak, ck, pk, Ad, cd, dl⟩ : CM).cells 86) := hJ (by
       have := W34.out.bis BX3.out (Ne.symm hgp)
       simp only [CM.cells, hll.out] at this
       exact this)
      clear r7 rg fzg hHeld; generalize w3.setCell ⟨g, k * 2 + 1, none⟩ (.int .i64 (max 0 n)) = w4 at *
      refine (acked_out H.out HM.out OK4.out HCV.out S3.out HO4.out BX4.out W34.out hBg hll.out hNl hpc.out HR.out hdl).mono ?_
      rintro en w9 ⟨m9, col9, rfl, hc9, hm9, hs9⟩
      go_wp2; go_end0; exact ⟨m9, col9, rfl, hc9, hm9, hs9⟩
   ·have hkl : k = marks.length := by omega
    have HS : Hid (spotM marks fr = marks.length) := hJ (hkl ▸ spotM_eq HK.out hk (fun y hy => by rw [List.getElem?_eq_none (by omega)] at hy; cases hy))
    have HA : Hid (ackM marks fr n = marks ++ [(fr, max 0 n)]) := hJ (ackM_at HS.out)
    subst hkl
    go_wp2_with fail
    refine (insert_end B Am cm marks (fr, 0) _ (HMO.out.ext E0.out) (Nat.le_trans H.out.Bsz E0.out.size) w.heap.size 1 (mark1_row fr 0 w) (by omega) ⟨hk1, hk2⟩).mono ?_
    rintro en w2 ⟨v2, rfl, ho2, hg2, hs2⟩
    obtain ⟨MK, hMK⟩ : ∃ l, l = marks ++ [(fr, (0 : Int))] := ⟨_, rfl⟩
    rw [← hMK] at ho2
    have hml : MK.length = marks.length + 1 := by rw [hMK]; simp
    have hml2 : MK.length ≤ 50001 := by omega
    have hkm : marks.length < MK.length := by omega
    have hmx : Hid (MK[marks.length]? = some (fr, 0)) := hJ (by rw [hMK]; simp)
    have HSET : Hid (MK.set marks.length (fr, max 0 n) = NM) := hJ (by rw [HNM.out, HA.out, hMK]; simp)
    have HML := hJ hml
    clear hMK hml; obtain ⟨g, c2, rfl, h21, h22, hBg, hgs, hfz⟩ := mark_own_some ho2 (by omega)
    clear hfz; have HO2 := hJ ho2
    have HCV : Hid (ColV (paint col w.heap.size 3) 3 (.slice (some ⟨g, 0, none⟩) MK.length c2)) := hJ (colV_stems hs2 HMC.out E0.out.size (fun q hq => (HMO.out.lt q hq).2))
    have S2 : Hid (Stp B [3] col w (paint col w.heap.size 3) w2) := hJ ((Stp.ext (cs := [3]) H.out.Bsz E0.out (fun k hk => paint_old hk)).trans (Stp.grew hg2 (Nat.le_trans H.out.Bsz E0.out.size) (fun k hk => (HMO.out.lt k hk).1) (c := 3) (HMC.out.old HMO.out (fun k hk => paint_old hk)) (by simp)))
    have hpc : Hid ((paint col w.heap.size 3) p = 1) := hJ (by rw [paint_old H.out.lt]; exact H.out.pc)
    have hgp : g ≠ p := fun e => by have := HCV.out g rfl; rw [e, hpc.out] at this; cases this
    have BX2 : Hid (BIs w2 p (⟨⟨self, base, stable, sent, Av, cv, vs, Al, cl, log, Ap, cp, pend, Am, cm, marks, Af, cf, fls⟩, Ak, ck, pk, Ad, cd, dl⟩ : CM).cells 86) := hJ (S2.out.bis HBX.out (by rw [HPC.out]; simp))
    have k7 : w2.cell? ⟨p, 7, none⟩ = some (.slice Am marks.length cm) := BX2.out.cell 7
    have fz2 := BX2.out.free 7
    have hpl2 : p < w2.heap.size := BX2.out.lt
    clear ho2 hg2 hs2 q3 q7 fz7 hd; go_upto_region 6 with fail
    have W23 : Hid (Wrote p w2 (w2.setCell ⟨p, 7, none⟩ (.slice (some ⟨g, 0, none⟩) MK.length c2))) := hJ (Wrote.set _ _ _ _)
    have BX3 : Hid (BIs (w2.setCell ⟨p, 7, none⟩ (.slice (some ⟨g, 0, none⟩) MK.length c2)) p (⟨⟨self, base, stable, sent, Av, cv, vs, Al, cl, log, Ap, cp, pend, (some ⟨g, 0, none⟩), c2, MK, Af, cf, fls⟩, Ak, ck, pk, Ad, cd, dl⟩ : CM).cells 86) := hJ (BX2.out.set 7 _)
    have HO3 : Hid (markE.Own (w2.setCell ⟨p, 7, none⟩ (.slice (some ⟨g, 0, none⟩) MK.length c2)) B (.slice (some ⟨g, 0, none⟩) MK.length c2) MK) := hJ (HO2.out.set_other (fun k hk => by cases hk; exact hgp) _)
    clear k7 fz2; generalize w2.setCell ⟨p, 7, none⟩ (.slice (some ⟨g, 0, none⟩) MK.length c2) = w3 at *
    have S3 : Hid (Stp B [1, 3] col w (paint col w.heap.size 3) w3) := hJ ((S2.out.mono (by simp)).trans (Stp.wrote W23.out H.out.bp (Nat.le_trans H.out.Bsz S2.out.size) (by rw [hpc.out]; simp)))
    have OK4 := OK4 g c2
    have r7 : w3.cell? ⟨p, 7, none⟩ = some (.slice (some ⟨g, 0, none⟩) MK.length c2) := BX3.out.cell 7
    have rg : w3.cell? ⟨g, marks.length * 2 + 1, none⟩ = some (.int .i64 0) := mark_cell HO3.out hmx.out
    have fzg := mark_free HO3.out hkm (marks.length * 2 + 1)
    have hpl3 : p < w3.heap.size := BX3.out.lt
    have hgl3 : g < w3.heap.size := (HO3.out.lt g rfl).2
    go_wp2; refine E_begin 17 (fun w' => w'.cell? ⟨p, 7, none⟩ = some (.slice (some ⟨g, 0, none⟩) MK.length c2) ∧ w'.cell? ⟨g, marks.length * 2 + 1, none⟩ = some (.int .i64 0)) (by kernel_rfl) ⟨r7, rg⟩ (fun hHeld => ?_)
    refine E_t 0 73 ?_; refine E_t 1 74 ?_; refine E_t 2 75 ?_; refine E_t 3 76 ?_; refine E_t 4 77 ?_; refine E_t 5 78 ?_; refine E_t 6 79 ?_; refine E_t 7 80 ?_; refine E_t 8 81 ?_; refine E_t 9 82 ?_; refine E_t 10 83 ?_; refine E_t 11 84 ?_; refine E_t 12 85 ?_; refine E_t 13 86 ?_; refine E_t 14 87 ?_; refine E_t 15 88 ?_; refine E_t 16 89 ?_; refine E_tail (by rfl) (by kernel_rfl) ?_
    go_wp2_with fail
    have W34 : Hid (Wrote g w3 (w3.setCell ⟨g, marks.length * 2 + 1, none⟩ (.int .i64 (max 0 n)))) := hJ (Wrote.set _ _ _ _)
    have hll : Hid (MK.length = NM.length) := hJ (by rw [← HSET.out, List.length_set])
    have hNl : NM.length ≤ 50001 := by rw [← hll.out]; exact hml2
    have HO4 : Hid (markE.Own (w3.setCell ⟨g, marks.length * 2 + 1, none⟩ (.int .i64 (max 0 n))) B (.slice (some ⟨g, 0, none⟩) NM.length c2) NM) := hJ (by
     have := marks_set (max 0 n) HO3.out hmx.out
     simp only at this
     rw [HSET.out, hll.out] at this
     exact this)
    have BX4 : Hid (BIs (w3.setCell ⟨g, marks.length * 2 + 1, none⟩ (.int .i64 (max 0 n))) p (⟨⟨self, base, stable, sent, Av, cv, vs, Al, cl, log, Ap, cp, pend, (some ⟨g, 0, none⟩), c2, NM, Af, cf, fls⟩, Ak, ck, pk, Ad, cd, dl⟩ : CM).cells 86) := hJ (by
     have := W34.out.bis BX3.out (Ne.symm hgp)
     simp only [CM.cells, hll.out] at this
     exact this)
    clear r7 rg fzg hHeld; generalize w3.setCell ⟨g, marks.length * 2 + 1, none⟩ (.int .i64 (max 0 n)) = w4 at *
    refine (acked_out H.out HM.out OK4.out HCV.out S3.out HO4.out BX4.out W34.out hBg hll.out hNl hpc.out HR.out hdl).mono ?_
    rintro en w9 ⟨m9, col9, rfl, hc9, hm9, hs9⟩
    go_wp2; go_end0; exact ⟨m9, col9, rfl, hc9, hm9, hs9⟩
end Go.Proofs.YtponbabbabnaeaaGreat
