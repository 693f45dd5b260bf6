/- Part 28 of the proof: contracts of functions that the statement reaches. Conditions: as each theorem says. -/
import Derived.Test.YtponbabbabnaeaaGreatRows
import Derived.ProofKit
import Derived.OpenShut
import Derived.ShutString
import Derived.ChangeOld
import Derived.Below
import Derived.Lib.SmallJoins
import Derived.Test.YtponbabbabnaeaaGreatQa19
import Derived.Test.YtponbabbabnaeaaGreatQa09
import Derived.Test.YtponbabbabnaeaaGreatQa03
import Derived.Test.YtponbabbabnaeaaGreatQa02
import Derived.Test.YtponbabbabnaeaaGreatQa17
import Derived.Test.YtponbabbabnaeaaGreatQa01
namespace Go.Proofs.YtponbabbabnaeaaGreat
theorem prevV_app {l : List Ent} {e : Ent} {i : Nat} (h : i ≤ l.length) (h0 : 0 < i) : prevV (l ++ [e]) i = prevV l i := by
  unfold prevV
  rw [List.getElem?_append_left (by omega)]
theorem okEnt_app {l : List Ent} {e x : Ent} {i : Nat} (h : i < l.length) : okEnt (l ++ [e]) i x = okEnt l i x := by
  unfold okEnt
  by_cases h0 : i = 0
  · subst h0
    simp
  · rw [prevV_app (by omega) (by omega), List.take_append_of_le_length (by omega)]
theorem vlog_snoc {l : List Ent} {e : Ent} (h : validLog l = true) (hl : l.length < 2000) (he : okEnt (l ++ [e]) l.length e = true) : validLog (l ++ [e]) = true := by
  unfold validLog at *
  simp only [Bool.and_eq_true, decide_eq_true_eq, List.all_eq_true, List.mem_range] at h ⊢
  refine ⟨by simp; omega, fun i hi => ?_⟩
  simp only [List.length_append, List.length_cons, List.length_nil] at hi
  by_cases hlt : i < l.length
  · obtain ⟨x, hx⟩ : ∃ x, l[i]? = some x := ⟨l[i], by simp [hlt]⟩
    have h1 := h.2 i hlt
    rw [okAtL_eq hx] at h1
    rw [okAtL_eq (e := x) (by rw [List.getElem?_append_left hlt]; exact hx), okEnt_app hlt]
    exact h1
  · have : i = l.length := by omega
    subst this
    rw [okAtL_eq (e := e) (by simp)]
    exact he
theorem vlog_own {l : List Ent} {base self : Int} {p : List UInt8} (h : validLog l = true) (hl : l.length < 2000) (h0 : 0 < l.length) (hb : lastE l = base) (hi : isId self = true) (hp : p.length ≤ 6000) :
    validLog (l ++ [⟨base, self, (ownN l self : Int) + 1, p⟩]) = true ∧ lastE (l ++ [⟨base, self, (ownN l self : Int) + 1, p⟩]) = base := by
  have hpv : prevV (l ++ [⟨base, self, (ownN l self : Int) + 1, p⟩]) l.length = base := by
    rw [prevV_app (Nat.le_refl _) h0]
    exact hb
  refine ⟨vlog_snoc h hl ?_, ?_⟩
  · unfold okEnt
    rw [hpv, if_neg (by rintro (h | h); · omega
                        · exact h rfl), List.take_left]
    simp [hi, hp]
  · unfold lastE
    simp
theorem takeL_snoc (s : St) (j : Nat) : takeL s (j + 1) = takeL s j ++ [⟨s.base, s.self, (ownN (takeL s j) s.self : Int) + 1, pendAt s (ownN s.log s.self + 1 + j)⟩] := by
  rw [ownN_take_more, show ((ownN s.log s.self + j : Nat) : Int) + 1 = (ownN s.log s.self : Int) + 1 + j by omega]
  unfold takeL
  rw [List.range_succ, List.map_append, ← List.append_assoc]
  simp only [List.map_cons, List.map_nil]
theorem pendAt_le {s : St} (h : ∀ p ∈ s.pend, p.length ≤ 6000) (q : Int) : (pendAt s q).length ≤ 6000 := by
  unfold pendAt
  cases hx : s.pend[((s.pend.length : Int) - 1 - (s.sent - q)).toNat]? with
  | none => simp
  | some p => exact h p (List.mem_of_getElem? hx)
theorem takeL_valid {s : St} (h : validLog s.log = true) (h0 : 0 < s.log.length) (hb : lastE s.log = s.base) (hi : isId s.self = true) (hp : ∀ p ∈ s.pend, p.length ≤ 6000) : ∀ j, s.log.length + j ≤ 2000 → validLog (takeL s j) = true ∧ lastE (takeL s j) = s.base := by
  intro j
  induction j with
  | zero => intro _; simp only [takeL, List.range_zero, List.map_nil, List.append_nil]; exact ⟨h, hb⟩
  | succ j ih =>
    intro hj
    obtain ⟨h1, h2⟩ := ih (by omega)
    rw [takeL_snoc]
    exact vlog_own h1 (by rw [takeL_len]; omega) (by rw [takeL_len]; omega) h2 hi (pendAt_le hp _)
theorem valid_take {s : St} (h : validS s = true) (hm : s.marks = []) (hf : s.fls = []) (hbase : s.base ≠ -1) (hs : s.stable = 0) : validS (takeF s) = true := by
  unfold validS at h ⊢
  simp only [Bool.and_eq_true, decide_eq_true_eq, Bool.or_eq_true, List.all_eq_true] at h ⊢
  obtain ⟨h1, h2, h3, h4, h5, h6, h7, h8, h9, h10, h11, h12, h13⟩ := h
  unfold basedB at h5
  rw [if_neg hbase] at h5
  simp only [Bool.and_eq_true, decide_eq_true_eq] at h5
  obtain ⟨b1, b2, b3⟩ := h5
  have hl : s.log.length ≤ 2000 := by unfold validLog at b2; simp only [Bool.and_eq_true, decide_eq_true_eq] at b2; exact b2.1
  have hk : s.log.length + takeN s ≤ 2000 := by unfold takeN; omega
  obtain ⟨t1, t2⟩ := takeL_valid b2 b1 b3 h1 h12 (takeN s) hk
  have hll : (takeL s (takeN s)).length = s.log.length + takeN s := takeL_len _ _
  refine ⟨h1, h2, h3, h4, ?_, h6, ?_, h8, ?_, h10, ?_, h12, ?_⟩
  · show basedB (takeL s (takeN s)) s.base = true
    unfold basedB
    rw [if_neg hbase, t1, t2]
    simp only [Bool.and_eq_true, decide_eq_true_eq]
    exact ⟨by omega, trivial, trivial⟩
  · show (ownN (takeL s (takeN s)) s.self : Int) ≤ s.sent
    rw [ownN_take_more]; unfold takeN; omega
  · show s.stable ≤ ((takeL s (takeN s)).length : Int)
    omega
  · show (s.pend.length : Int) = s.sent - ownN ((takeL s (takeN s)).take s.stable.toNat) s.self
    rw [hs] at h11 ⊢
    simpa using h11
  · show listsB (takeF s) = true
    unfold listsB takeF
    simp [hm, hf]
structure Alone (v : Vw) (s : St) : Prop where
  val : validS s = true
  vs : s.views = [v]
  base : s.base = v.1
  v0 : 0 ≤ v.1
  two : 2 ≤ v.2.length
  st : s.stable = 0
  mks : s.marks = []
  fl : s.fls = []
theorem Alone.last {v : Vw} {s : St} (h : Alone v s) : lastV s.views = v := by rw [h.vs]; rfl
theorem Alone.open {v : Vw} {s : St} (h : Alone v s) : openB s = true := by unfold openB; rw [h.last, h.base]; simp
theorem Alone.take {v : Vw} {s : St} (h : Alone v s) : Alone v (takeF s) :=
  ⟨valid_take h.val h.mks h.fl (by rw [h.base]; have := h.v0; omega) h.st, h.vs, h.base, h.v0, h.two, h.st, h.mks, h.fl⟩
theorem follow_same (l : List Nat) : ∀ c : Cs, (l.foldl followStep c).s = c.s ∧ (l.foldl followStep c).dl = c.dl := by
  induction l with
  | nil => intro c; exact ⟨rfl, rfl⟩
  | cons x l ih => intro c; obtain ⟨h1, h2⟩ := ih (followStep c x); exact ⟨h1, h2⟩
theorem Alone.announce {v : Vw} {s : St} (h : Alone v s) : announceF ⟨s, [], []⟩ = ⟨s, [], []⟩ := by
  have h1 := (ok_maj (ok_valid h.val)).2.1
  rw [h.last] at h1
  have h2 := h.two
  unfold announceF
  rw [if_pos]
  show ((lensF s).length : Int) < majZ (lastV s.views).2.length
  rw [h.last]
  unfold lensF majZ
  rw [h.mks, if_pos (by omega)]
  simp
  omega
theorem Alone.tick {v : Vw} {s : St} (h : Alone v s) : Alone v (tickF s).s ∧ (tickF s).dl = [] := by
  unfold tickF
  rw [if_neg (by rw [h.val]; simp)]
  unfold tickC
  rw [if_pos h.open]
  cases hl : leadB (⟨s, [], []⟩ : Cs).s with
  | true =>
    simp only [if_true]
    unfold leadF
    simp only
    rw [h.take.announce]
    obtain ⟨k1, k2, _⟩ := leads_keep (lastV (takeF s).views).2 ⟨takeF s, [], []⟩
    rw [k1, k2]
    exact ⟨h.take, rfl⟩
  | false =>
    simp only [Bool.false_eq_true, if_false]
    unfold followF
    obtain ⟨k1, k2⟩ := follow_same (List.range (followN s)) (sendF ⟨s, [], []⟩ (seqrF (lastV s.views)) 13 (numsF [s.base, s.log.length]))
    simp only
    rw [k1, k2]
    exact ⟨h, rfl⟩
theorem Alone.more {v : Vw} {s : St} (h : Alone v s) {p : List UInt8} (hp : p.length ≤ 6000) (hl : s.pend.length < 32) : Alone v { s with sent := s.sent + 1, pend := s.pend ++ [p] } := by
  refine ⟨?_, h.vs, h.base, h.v0, h.two, h.st, h.mks, h.fl⟩
  have hv := h.val
  unfold validS at hv ⊢
  simp only [Bool.and_eq_true, decide_eq_true_eq, Bool.or_eq_true, List.all_eq_true] at hv ⊢
  obtain ⟨h1, h2, h3, h4, h5, h6, h7, h8, h9, h10, h11, h12, h13⟩ := hv
  have h11' : (s.pend.length : Int) = s.sent := by rw [h.st] at h11; simpa [ownN] using h11
  refine ⟨h1, h2, by omega, by omega, h5, h6, by omega, h8, h9, ?_, ?_, ?_, ?_⟩
  · simp; omega
  · rw [h.st]; simp [ownN]; omega
  · intro x hx
    rcases List.mem_append.1 hx with hx | hx
    · exact h12 x hx
    · simp only [List.mem_cons, List.not_mem_nil, or_false] at hx; subst hx; exact hp
  · unfold listsB
    simp [h.mks, h.fl]
theorem Alone.submit {v : Vw} {s : St} (h : Alone v s) {p : List UInt8} (hp : p.length ≤ 6000) : ((submitF s p).2 = 0 ∧ Alone v (submitF s p).1) ∨ ((submitF s p).2 = 5 ∧ s.pend.length = 32) := by
  have ok := ok_valid h.val
  have h11 : (s.pend.length : Int) = s.sent := by have := ok.pend; rw [h.st] at this; simpa [ownN] using this
  have h10 := ok.pn
  unfold submitF
  rw [if_neg (by rw [h.val]; simp)]
  by_cases hl : s.pend.length = 32
  · rw [if_pos (.inr (.inl hl))]
    exact .inr ⟨rfl, hl⟩
  · rw [if_neg (by omega)]
    refine .inl ⟨rfl, ?_⟩
    simp only
    split
    · exact (h.more hp (by omega)).take
    · exact h.more hp (by omega)
end Go.Proofs.YtponbabbabnaeaaGreat
namespace Go.Proofs.YtponbabbabnaeaaGreat
theorem readU_enc (n : Nat) : ∀ (i v : Nat) (r : List UInt8), i ≤ 8 → (i = 0 ∨ 0 < n) → n < 2 ^ (7 * (9 - i)) → readU (encU n ++ r) i v = (v + n * 2 ^ (7 * i), i + (encU n).length, 0) := by
  induction n using Nat.strongRecOn with
  | ind n ih =>
    intro i v r hi h0 hn
    by_cases hlt : n < 128
    · rw [encU_lo hlt]
      have ht : (UInt8.ofNat n).toNat = n := by rw [UInt8.toNat_ofNat']; omega
      simp only [List.cons_append, List.nil_append, readU, ht]
      rw [if_neg (by omega), if_pos hlt, Nat.mod_eq_of_lt hlt]
      rfl
    · have h128 : 128 ≤ n := by omega
      rw [encU_hi h128]
      have ht : (UInt8.ofNat (n % 128 + 128)).toNat = n % 128 + 128 := by rw [UInt8.toNat_ofNat']; omega
      have hi8 : i < 8 := by
        rcases Nat.lt_or_ge i 8 with h | h
        · exact h
        · have : i = 8 := by omega
          subst this
          simp at hn; omega
      simp only [List.cons_append, readU, ht]
      rw [if_neg (by omega), if_neg (by omega)]
      have hp : 2 ^ (7 * (9 - i)) = 128 * 2 ^ (7 * (9 - (i + 1))) := by rw [show 7 * (9 - i) = 7 + 7 * (9 - (i + 1)) by omega, Nat.pow_add]
      rw [ih (n / 128) (by omega) (i + 1) _ r (by omega) (.inr (by omega)) (by rw [hp] at hn; omega)]
      have hq : 2 ^ (7 * (i + 1)) = 128 * 2 ^ (7 * i) := by rw [show 7 * (i + 1) = 7 + 7 * i by omega, Nat.pow_add]
      have e1 : (n % 128 + 128) % 128 = n % 128 := by omega
      simp only [Prod.mk.injEq, and_true, List.length_cons]
      refine ⟨?_, by omega⟩
      rw [e1, hq, Nat.add_assoc, ← Nat.mul_assoc, ← Nat.add_mul]
      congr 2
      omega
theorem decU_enc {n : Nat} (h : n < 2 ^ 63) (r : List UInt8) : decU (encU n ++ r) = (n, (encU n).length, 0) := by
  unfold decU
  rw [readU_enc n 0 0 r (by omega) (.inl rfl) (by simpa using h)]
  simp
theorem unzig_zig {x : Int} (h : 0 ≤ x) (h2 : x ≤ 1000) : unzig (zig x) = x ∧ zig x < 2 ^ 63 := by
  unfold unzig zig
  constructor
  · split <;> split <;> omega
  · split <;> omega
theorem readL_enc (xs : List Int) : ∀ (pre : List UInt8) (l : List Int), (∀ x ∈ xs, 0 ≤ x ∧ x ≤ 1000) → readL (pre ++ encL xs) xs.length l pre.length = (l ++ xs, (pre ++ encL xs).length, 0) := by
  induction xs with
  | nil => intro pre l _; simp [readL, encL]
  | cons x xs ih =>
    intro pre l h
    obtain ⟨u1, u2⟩ := unzig_zig (h x (by simp)).1 (h x (by simp)).2
    have e : encL (x :: xs) = encU (zig x) ++ encL xs := by simp [encL]
    have d : decI ((pre ++ encL (x :: xs)).drop pre.length) = (x, (encU (zig x)).length, 0) := by
      rw [List.drop_left, e]
      unfold decI
      rw [decU_enc u2, u1]
    show (if (decI ((pre ++ encL (x :: xs)).drop pre.length)).2.2 = 0 then _ else _) = _
    rw [d, if_pos rfl]
    have := ih (pre ++ encU (zig x)) (l ++ [x]) (fun y hy => h y (by simp [hy]))
    rw [e, ← List.append_assoc]
    simp only [List.length_append, List.append_assoc] at this ⊢
    simpa using this
theorem decV_enc {n : Int} {xs : List Int} (h : validB n xs = true) : decV (encV n xs) = (n, xs, (encV n xs).length, 0) := by
  have h' := h
  unfold validB at h'
  simp only [Bool.and_eq_true, decide_eq_true_eq] at h'
  obtain ⟨⟨h1, h2⟩, h3⟩ := h'
  have hl := idsB_len (m := 16) h3
  have hr : ∀ x ∈ xs, 0 ≤ x ∧ x ≤ 1000 := by
    rw [idsB_mid (by omega) (by omega)] at h3
    intro x hx
    have := ((rises_iff xs 0).1 h3).2 x hx
    omega
  rw [encV_yes h, List.append_assoc]
  have d1 := decU_enc (n := n.toNat) (by omega) (encU xs.length ++ encL xs)
  have d2 := decU_enc (n := xs.length) (by omega) (encL xs)
  have d3 : decL (encU xs.length ++ encL xs) 16 = (xs, (encU xs.length ++ encL xs).length, 0) := by
    have d4 : decN (encU xs.length ++ encL xs) 16 = (xs.length, (encU xs.length).length, 0) := by
      unfold decN
      rw [d2]
      simp only [ne_eq, not_true_eq_false, if_false]
      exact if_neg (by omega)
    unfold decL
    rw [d4]
    simp only [ne_eq, not_true_eq_false, if_false]
    have := readL_enc xs (encU xs.length) [] hr
    simpa using this
  unfold decV
  rw [d1]
  simp only [List.drop_left, d3, ne_eq, not_true_eq_false, if_false]
  rw [if_neg (by omega), if_neg (by rw [h3]; simp)]
  simp only [Prod.mk.injEq, and_true, List.length_append]
  omega
end Go.Proofs.YtponbabbabnaeaaGreat
namespace Go.Proofs.YtponbabbabnaeaaGreat
theorem alone_genesis {v : Vw} {self : Int} (hv : validB v.1 v.2 = true) (hs : hasB v.2 self = true) (h2 : 2 ≤ v.2.length) : (genesisF v self).2 = 0 ∧ Alone v (genesisF v self).1 := by
  obtain ⟨n, xs⟩ := v
  simp only at hv hs h2
  have hv' := hv
  unfold validB at hv'
  simp only [Bool.and_eq_true, decide_eq_true_eq] at hv'
  obtain ⟨⟨h1, h3⟩, h4⟩ := hv'
  have hl := idsB_len (m := 16) h4
  rw [idsB_mid (by omega) (by omega)] at h4
  have hid : isId self = true := by
    have := ((rises_iff xs 0).1 h4).2 self (hasB_iff.1 hs)
    unfold isId
    simp; omega
  have hve : isViewE (viewEnt n xs) = true := by
    unfold isViewE
    have : (viewEnt n xs).p = encV n xs := rfl
    rw [this, decV_enc hv]
    simp
  have hlog : validLog [viewEnt n xs] = true := by
    unfold validLog okAtL okEnt
    simp [List.range_succ, hve]
  unfold genesisF
  simp only [hv, hs, Bool.and_self, if_true]
  refine ⟨trivial, ?_, rfl, rfl, h1, h2, rfl, rfl, rfl⟩
  unfold validS
  have hb : n ≠ -1 := by omega
  have ho : (ownN [viewEnt n xs] self : Int) = 0 := by
    unfold isId at hid
    simp at hid
    simp [ownN, viewEnt]
    omega
  simp only [Bool.and_eq_true, decide_eq_true_eq, Bool.or_eq_true, List.all_eq_true]
  refine ⟨hid, ?_, by omega, by omega, ?_, ?_, ?_, by omega, ?_, by simp, ?_, by simp, ?_⟩
  · simp [validVs, vwAt, hv]
  · unfold basedB; rw [if_neg hb, hlog]; simp [lastE, viewEnt]
  · right; simp [knownV, hs]
  · rw [ho]; omega
  · simp
  · simp [ownN]
  · simp [listsB]
end Go.Proofs.YtponbabbabnaeaaGreat
namespace Go.Proofs.YtponbabbabnaeaaGreat
open Go.ChangeShapes Go.WideShapes Go.ChangeAt Go.RowKit
theorem own : ownKnob Tryz.prog.godebug = none := by kernel_rfl
theorem laidOut : laidOutB Tryz.prog = true := by kernel_rfl
theorem row_of_nums {w : World} {a : Addr} {k : IntKind} {zs : List Int} {len : Nat} (hlen : len ≤ zs.length) (h : ∀ i, i < zs.length → w.cell? (a.add i) = some (.int k (zs.getD i 0))) :
    Row w (some a) ((zs.take len).map (Value.int k)) := by
  intro hne
  have hp : 0 < zs.length := by
    rcases Nat.eq_zero_or_pos zs.length with h0 | h0
    · have : zs = [] := List.eq_nil_of_length_eq_zero h0
      subst this; simp at hne
    · exact h0
  obtain ⟨b, off, rfl, hc⟩ := ints_at h hp
  refine ⟨b, off, rfl, ?_, fun j v hj => ?_⟩
  · have := World.block_lt_of_cell? w _ (hc 0 hp); exact this
  · simp only [List.getElem?_map, Option.map_eq_some_iff] at hj
    obtain ⟨x, hx, rfl⟩ := hj
    simp only [List.getElem?_take] at hx
    split at hx
    · have hj' := (List.getElem?_eq_some_iff.1 hx).1
      rw [hc j hj']; simp [List.getD, hx]
    · cases hx
section
variable {H : Type} {enc : TypeId × Value → H} {w : World} {base : Nat} {spare : Nat → Bool} {held : Bool}
theorem open_intsR {fuel : Nat} {cs : List Value} {x : DataW H × List MemPlace} (h : DataW.trod enc Tryz.prog w base spare held fuel 44 cs = some x) :
    ∃ A c, ∃ xs : List Int, cs = [.slice A xs.length c] ∧ xs.length ≤ c ∧ c ≤ maxLen ∧ Row w A (ints xs) ∧ ∀ x ∈ xs, I64 x := by
  rcases open_ints Tryz.underlying44 Tryz.underlying3 (by kernel_rfl) h with ⟨hcs, _⟩ | ⟨a, len, cap, zs, hcs, _, hl, hm, hz, _, hcell, hwz⟩
  · exact ⟨none, 0, [], hcs, Nat.le_refl _, Nat.zero_le _, Row.nil _ _, fun x hx => by simp at hx⟩
  · have hlz : len ≤ zs.length := by rw [hz]; split <;> omega
    refine ⟨some a, cap, zs.take len, by rw [hcs, List.length_take, Nat.min_eq_left hlz], by rw [List.length_take]; omega, hm, row_of_nums hlz hcell, fun x hx => ?_⟩
    have := bounds_i64 (hwz x (List.mem_of_mem_take hx))
    exact this
theorem open_bytesR {fuel : Nat} {cs : List Value} {x : DataW H × List MemPlace} (h : DataW.trod enc Tryz.prog w base spare held fuel 29 cs = some x) :
    ∃ A c, ∃ bs : List UInt8, cs = [.slice A bs.length c] ∧ bs.length ≤ c ∧ c ≤ maxLen ∧ Row w A (bytesV bs) := by
  rcases open_ints Tryz.underlying29 Tryz.underlying5 (by kernel_rfl) h with ⟨hcs, _⟩ | ⟨a, len, cap, zs, hcs, _, hl, hm, hz, _, hcell, hwz⟩
  · exact ⟨none, 0, [], hcs, Nat.le_refl _, Nat.zero_le _, Row.nil _ _⟩
  · have hlz : len ≤ zs.length := by rw [hz]; split <;> omega
    have hb : bytesV ((zs.take len).map fun z => UInt8.ofNat z.toNat) = (zs.take len).map (Value.int .u8) := by
      unfold bytesV
      rw [List.map_map]
      refine List.map_congr_left fun z hz' => ?_
      have hb := bounds_u8 (hwz z (List.mem_of_mem_take hz'))
      simp only [Function.comp, UInt8.toNat_ofNat']
      congr 1
      omega
    refine ⟨some a, cap, (zs.take len).map fun z => UInt8.ofNat z.toNat, by rw [hcs, List.length_map, List.length_take, Nat.min_eq_left hlz], by rw [List.length_map, List.length_take]; omega, hm, ?_⟩
    rw [hb]; exact row_of_nums hlz hcell
theorem open_i64R {fuel : Nat} {cs : List Value} {x : DataW H × List MemPlace} (h : DataW.trod enc Tryz.prog w base spare held fuel 3 cs = some x) : ∃ n, cs = [.int .i64 n] ∧ I64 n := by
  obtain ⟨n, h1, _, h3⟩ := DataW.trod_int Tryz.underlying3 h
  exact ⟨n, h1, bounds_i64 h3⟩
set_option maxRecDepth 100000 in
theorem argBytes {r : Reach} {b0 : Nat} {v : Value} {d : DataW H} {p : List MemPlace} (hv : Value.okWide Tryz.prog w r b0 29 v) (h : DataW.Trod enc Tryz.prog w base spare held 29 v d p) :
    ∃ A c, ∃ bs : List UInt8, v = .slice A bs.length c ∧ bs.length ≤ c ∧ c ≤ maxLen ∧ Row w A (bytesV bs) := by
  obtain ⟨a, len, cap, rfl⟩ := okWide_slice Tryz.underlying29 hv
  obtain ⟨fuel, hf⟩ := h
  obtain ⟨A, c, xs, hcs, hr⟩ := open_bytesR hf
  simp [Value.cells] at hcs
  obtain ⟨rfl, rfl, rfl⟩ := hcs
  exact ⟨_, _, xs, rfl, hr⟩
set_option maxRecDepth 100000 in
theorem argView {r : Reach} {b0 : Nat} {v : Value} {d : DataW H} {p : List MemPlace} (hv : Value.okWide Tryz.prog w r b0 46 v) (h : DataW.Trod enc Tryz.prog w base spare held 46 v d p) :
    ∃ n A c, ∃ xs : List Int, v = .agg #[.int .i64 n, .slice A xs.length c] ∧ I64 n ∧ xs.length ≤ c ∧ c ≤ maxLen ∧ Row w A (ints xs) ∧ ∀ x ∈ xs, I64 x := by
  obtain ⟨v0, v1, y0, y1, m, rfl, _, _, h0, h1⟩ := Joins.open_agg2 Tryz.underlying46 (by kernel_rfl) (by kernel_rfl) hv h
  obtain ⟨n, hn, hi⟩ := open_i64R h0
  obtain ⟨A, c, xs, hcs, hr⟩ := open_intsR h1
  simp at hn hcs
  subst hn hcs
  exact ⟨n, A, c, xs, rfl, hi, hr⟩
end
end Go.Proofs.YtponbabbabnaeaaGreat
