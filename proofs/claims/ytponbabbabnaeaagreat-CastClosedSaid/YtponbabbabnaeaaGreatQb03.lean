/- Part 3 of the proof: contracts of functions that the statement reaches. Conditions: as each theorem says. -/
import Derived.Deep.AppendLies
import Derived.Laws.BytesString
import Derived.Laws.Cells
import Derived.Lib.LazyBuf
import Derived.Test.YtponbabbabnaeaaGreatQb01
import Derived.Test.YtponbabbabnaeaaGreatQb02
namespace Go.Proofs.YtponbabbabnaeaaGreat
open Go.RowKit
def readU : List UInt8 → Nat → Nat → Nat × Nat × Int
 | [], _, _ => (0, 0, 2)
 | c :: cs, i, v =>
  if (i = 9 ∧ 1 < c.toNat) ∨ (0 < i ∧ c.toNat = 0) then (0, 0, 3)
  else if c.toNat < 128 then (v + c.toNat % 128 * 2 ^ (7 * i), i + 1, 0)
  else readU cs (i + 1) (v + c.toNat % 128 * 2 ^ (7 * i))
def decU (bs : List UInt8) : Nat × Nat × Int := readU bs 0 0
section
variable {bs : List UInt8} {k v : Nat} {c : UInt8}
theorem dropB (h : bs[k]? = some c) : bs.drop k = c :: bs.drop (k + 1) := by
 obtain ⟨hk, rfl⟩ := List.getElem?_eq_some_iff.1 h
 exact List.drop_eq_getElem_cons hk
theorem readU_end (h : ¬ k < bs.length) : readU (bs.drop k) k v = (0, 0, 2) := by rw [List.drop_of_length_le (by omega)]; rfl
theorem readU_bad (h : bs[k]? = some c) (hb : (k = 9 ∧ 1 < c.toNat) ∨ (0 < k ∧ c.toNat = 0)) : readU (bs.drop k) k v = (0, 0, 3) := by
 rw [dropB h, readU, if_pos hb]
theorem readU_last (h : bs[k]? = some c) (hb : ¬ ((k = 9 ∧ 1 < c.toNat) ∨ (0 < k ∧ c.toNat = 0))) (hc : c.toNat < 128) : readU (bs.drop k) k v = (v + c.toNat % 128 * 2 ^ (7 * k), k + 1, 0) := by
 rw [dropB h, readU, if_neg hb, if_pos hc]
theorem readU_next (h : bs[k]? = some c) (hb : ¬ ((k = 9 ∧ 1 < c.toNat) ∨ (0 < k ∧ c.toNat = 0))) (hc : ¬ c.toNat < 128) : readU (bs.drop k) k v = readU (bs.drop (k + 1)) (k + 1) (v + c.toNat % 128 * 2 ^ (7 * k)) := by
 rw [dropB h, readU, if_neg hb, if_neg hc]
end
theorem readU_in (bs : List UInt8) : ∀ i v, i ≤ 9 → v < 2 ^ (7 * i) → (readU bs i v).1 < U64 ∧ (readU bs i v).2.1 ≤ i + bs.length ∧ (readU bs i v).2.1 ≤ 10 := by
 induction bs with
 | nil => intro i v _ _; simp [readU, U64]
 | cons c cs ih =>
  intro i v hi hv
  unfold readU
  split
  ·simp [U64]
  ·next hb =>
   have hc : c.toNat % 128 < 128 := Nat.mod_lt _ (by decide)
   have hp : (2 : Nat) ^ (7 * (i + 1)) = 128 * 2 ^ (7 * i) := by rw [show 7 * (i + 1) = 7 + 7 * i by omega, Nat.pow_add]
   have hsum : v + c.toNat % 128 * 2 ^ (7 * i) < 2 ^ (7 * (i + 1)) := by
    rw [hp]
    have h1 : c.toNat % 128 * 2 ^ (7 * i) ≤ 127 * 2 ^ (7 * i) := Nat.mul_le_mul_right _ (by omega)
    omega
   split
   ·refine ⟨?_, by simp only [List.length_cons]; omega, by show i + 1 ≤ 10; omega⟩
    rcases Nat.lt_or_ge i 9 with h9 | h9
    ·have h2 : (2 : Nat) ^ (7 * (i + 1)) ≤ 2 ^ 63 := Nat.pow_le_pow_right (by decide) (by omega)
     unfold U64; simp only; omega
    ·have : i = 9 := by omega
     subst this
     have h1 : c.toNat % 128 ≤ 1 := by
      have : c.toNat ≤ 1 := by
       rcases Nat.lt_or_ge 1 c.toNat with h | h
       ·exact absurd (.inl ⟨rfl, h⟩) hb
       ·exact h
      omega
     have h2 : c.toNat % 128 * 2 ^ (7 * 9) ≤ 1 * 2 ^ 63 := Nat.mul_le_mul h1 (by decide)
     unfold U64; simp only
     have h3 : v < 2 ^ 63 := hv
     omega
   ·next hge =>
    have h9 : i < 9 := by
     rcases Nat.lt_or_ge i 9 with h | h
     ·exact h
     ·exact absurd (.inl ⟨by omega, by omega⟩) hb
    have := ih (i + 1) _ (by omega) hsum
    simp only [List.length_cons]
    omega
theorem decU_in (bs : List UInt8) : (decU bs).1 < U64 ∧ (decU bs).2.1 ≤ bs.length ∧ (decU bs).2.1 ≤ 10 := by
 have := readU_in bs 0 0 (by omega) (by decide)
 unfold decU; omega
theorem and127 (m : Fin 256) : bits .and .u8 (m.val : Int) 127 = ((m.val % 128 : Nat) : Int) := by revert m; decide +kernel
theorem and_127 {m : Nat} (h : m < 256) : bits .and .u8 (m : Int) 127 = ((m % 128 : Nat) : Int) := and127 ⟨m, h⟩
theorem or_u64 (a b : Nat) (ha : a < 18446744073709551616) (hb : b < 18446744073709551616) : bits .or .u64 (a : Int) (b : Int) = ((a ||| b : Nat) : Int) := by
 have e : ∀ x : Nat, x < 18446744073709551616 → (BitVec.ofInt 64 (x : Int)).toNat = x := fun x hx => by
  rw [BitVec.ofInt_natCast, BitVec.toNat_ofNat]; exact Nat.mod_eq_of_lt hx
 have hx : a ||| b < 2 ^ 64 := Nat.or_lt_two_pow (by omega) (by omega)
 show IntKind.u64.wrap ((BitVec.ofInt 64 (a : Int) ||| BitVec.ofInt 64 (b : Int)).toNat : Int) = _
 rw [BitVec.toNat_or, e a ha, e b hb, IntKind.wrap_u64]
 omega
theorem or_add (v x s : Nat) (hv : v < 2 ^ s) : v ||| x * 2 ^ s = v + x * 2 ^ s := by
 have := Nat.shiftLeft_add_eq_or_of_lt hv x
 rw [Nat.shiftLeft_eq] at this
 rw [Nat.or_comm, ← this]; omega
theorem or_step {v m k : Nat} (hm : m < 256) (hv : v < 2 ^ (7 * k)) (hk : k < 9) :
  bits BinOp.or IntKind.u64 (v : Int) (IntKind.u64.wrap (IntKind.u64.wrap (bits BinOp.and IntKind.u8 (m : Int) 127) * 2 ^ (7 * k))) = ((v + m % 128 * 2 ^ (7 * k) : Nat) : Int) := by
 have h1 : (2 : Nat) ^ (7 * k) ≤ 2 ^ 56 := Nat.pow_le_pow_right (by decide) (by omega)
 have h2 : m % 128 * 2 ^ (7 * k) ≤ 127 * 2 ^ 56 := Nat.mul_le_mul (by omega) h1
 have e0 : IntKind.u64.wrap (((m % 128 : Nat) : Int)) = ((m % 128 : Nat) : Int) := u64_nat (by unfold U64; omega)
 have e1 : ((m % 128 : Nat) : Int) * 2 ^ (7 * k) = ((m % 128 * 2 ^ (7 * k) : Nat) : Int) := by simp
 rw [and_127 hm, e0, e1, u64_nat (by unfold U64; omega), or_u64 _ _ (by omega) (by omega), or_add _ _ _ hv]
theorem or_nine {v m : Nat} (hm : m ≤ 1) (hv : v < 2 ^ (7 * 9)) :
  bits BinOp.or IntKind.u64 (v : Int) (IntKind.u64.wrap (IntKind.u64.wrap (bits BinOp.and IntKind.u8 (m : Int) 127) * 9223372036854775808)) = ((v + m % 128 * 2 ^ (7 * 9) : Nat) : Int) := by
 have hv' : v < 9223372036854775808 := hv
 have e0 : IntKind.u64.wrap (((m % 128 : Nat) : Int)) = ((m % 128 : Nat) : Int) := u64_nat (by unfold U64; omega)
 have e1 : ((m % 128 : Nat) : Int) * 9223372036854775808 = ((m % 128 * 2 ^ (7 * 9) : Nat) : Int) := by simp
 have h2 : m % 128 * 2 ^ (7 * 9) ≤ 1 * 2 ^ 63 := Nat.mul_le_mul (by omega) (by decide)
 rw [and_127 (by omega), e0, e1, u64_nat (by unfold U64; omega), or_u64 _ _ (by omega) (by omega), or_add _ _ _ hv]
theorem pow_next {v m k : Nat} (hv : v < 2 ^ (7 * k)) : v + m % 128 * 2 ^ (7 * k) < 2 ^ (7 * (k + 1)) := by
 have hp : (2 : Nat) ^ (7 * (k + 1)) = 128 * 2 ^ (7 * k) := by rw [show 7 * (k + 1) = 7 + 7 * k by omega, Nat.pow_add]
 have h1 : m % 128 * 2 ^ (7 * k) ≤ 127 * 2 ^ (7 * k) := Nat.mul_le_mul_right _ (by omega)
 omega
end Go.Proofs.YtponbabbabnaeaaGreat
namespace Go.Proofs.YtponbabbabnaeaaGreat
open Go.RowKit
theorem and_one (u : Nat) (h : u < 18446744073709551616) : bits BinOp.and IntKind.u64 (u : Int) 1 = ((u % 2 : Nat) : Int) := by
 have e : (BitVec.ofInt 64 (u : Int)).toNat = u := by rw [BitVec.ofInt_natCast, BitVec.toNat_ofNat]; exact Nat.mod_eq_of_lt h
 show IntKind.u64.wrap ((BitVec.ofInt 64 (u : Int) &&& BitVec.ofInt 64 1).toNat : Int) = _
 have e1 : (BitVec.ofInt 64 1).toNat = 1 := by decide
 rw [BitVec.toNat_and, e, e1, Nat.and_one_is_mod, IntKind.wrap_u64]
 omega
theorem xor_i64_zero (a : Nat) (h : a < 9223372036854775808) : bits BinOp.xor IntKind.i64 (a : Int) 0 = (a : Int) := by
 have e : (BitVec.ofInt 64 (a : Int)).toNat = a := by rw [BitVec.ofInt_natCast, BitVec.toNat_ofNat]; exact Nat.mod_eq_of_lt (by omega)
 show IntKind.i64.wrap ((BitVec.ofInt 64 (a : Int) ^^^ BitVec.ofInt 64 0).toNat : Int) = _
 simp only [BitVec.ofInt_ofNat, BitVec.xor_zero, e, IntKind.wrap_i64]
 omega
theorem xor_i64_ones (a : Nat) (h : a < 9223372036854775808) : bits BinOp.xor IntKind.i64 (a : Int) (-1) = -(a : Int) - 1 := by
 have e : (BitVec.ofInt 64 (a : Int)).toNat = a := by rw [BitVec.ofInt_natCast, BitVec.toNat_ofNat]; exact Nat.mod_eq_of_lt (by omega)
 show IntKind.i64.wrap ((BitVec.ofInt 64 (a : Int) ^^^ BitVec.ofInt 64 (-1)).toNat : Int) = _
 have e1 : BitVec.ofInt 64 (-1) = BitVec.allOnes 64 := by decide
 rw [e1, BitVec.xor_allOnes, BitVec.toNat_not, e, IntKind.wrap_i64]
 omega
theorem unzig_bits {u : Nat} (h : u < U64) : bits BinOp.xor IntKind.i64 (wrap64 ((u : Int) / 2)) (wrap64 (-wrap64 (bits BinOp.and IntKind.u64 (u : Int) 1))) = unzig u := by
 unfold U64 at h
 have h1 : wrap64 ((u : Int) / 2) = ((u / 2 : Nat) : Int) := by unfold wrap64; omega
 rw [and_one u h, h1]
 unfold unzig
 split
 ·next hm => rw [hm, show wrap64 (-wrap64 (((1 : Nat) : Int))) = -1 by unfold wrap64; omega, xor_i64_ones _ (by omega)]
 ·next hm => rw [show u % 2 = 0 by omega, show wrap64 (-wrap64 (((0 : Nat) : Int))) = 0 by unfold wrap64; omega, xor_i64_zero _ (by omega)]
def decI (bs : List UInt8) : Int × Nat × Int := (unzig (decU bs).1, (decU bs).2.1, (decU bs).2.2)
def decN (bs : List UInt8) (m : Nat) : Nat × Nat × Int :=
 if (decU bs).2.2 ≠ 0 then (0, 0, (decU bs).2.2) else if m < (decU bs).1 then (0, 0, 5) else ((decU bs).1, (decU bs).2.1, 0)
def readL (bs : List UInt8) : Nat → List Int → Nat → List Int × Nat × Int
 | 0, l, n => (l, n, 0)
 | c + 1, l, n => if (decI (bs.drop n)).2.2 = 0 then readL bs c (l ++ [(decI (bs.drop n)).1]) (n + (decI (bs.drop n)).2.1) else ([], 0, (decI (bs.drop n)).2.2)
def decL (bs : List UInt8) (m : Nat) : List Int × Nat × Int :=
 if (decN bs m).2.2 ≠ 0 then ([], 0, (decN bs m).2.2) else readL bs (decN bs m).1 [] (decN bs m).2.1
def decV (bs : List UInt8) : Int × List Int × Nat × Int :=
 if (decU bs).2.2 ≠ 0 then (0, [], 0, (decU bs).2.2)
 else if 1099511627776 < (decU bs).1 then (0, [], 0, 3)
 else if (decL (bs.drop (decU bs).2.1) 16).2.2 ≠ 0 then (0, [], 0, (decL (bs.drop (decU bs).2.1) 16).2.2)
 else if idsB (decL (bs.drop (decU bs).2.1) 16).1 16 = false then (0, [], 0, 3)
 else ((decU bs).1, (decL (bs.drop (decU bs).2.1) 16).1, (decU bs).2.1 + (decL (bs.drop (decU bs).2.1) 16).2.1, 0)
theorem decN_in (bs : List UInt8) (m : Nat) : (decN bs m).1 ≤ m ∧ (decN bs m).2.1 ≤ bs.length := by
 have := decU_in bs
 unfold decN
 split
 ·exact ⟨Nat.zero_le _, Nat.zero_le _⟩
 ·split
  ·exact ⟨Nat.zero_le _, Nat.zero_le _⟩
  ·exact ⟨by omega, this.2.1⟩
theorem decI_in (bs : List UInt8) : (decI bs).2.1 ≤ bs.length := (decU_in bs).2.1
theorem readL_step {bs : List UInt8} {c n : Nat} {l : List Int} (h : (decI (bs.drop n)).2.2 = 0) : readL bs (c + 1) l n = readL bs c (l ++ [(decI (bs.drop n)).1]) (n + (decI (bs.drop n)).2.1) := by rw [readL, if_pos h]
theorem readL_fail {bs : List UInt8} {c n : Nat} {l : List Int} (h : (decI (bs.drop n)).2.2 ≠ 0) : readL bs (c + 1) l n = ([], 0, (decI (bs.drop n)).2.2) := by rw [readL, if_neg h]
end Go.Proofs.YtponbabbabnaeaaGreat
namespace Go.Proofs.YtponbabbabnaeaaGreat
theorem find_mem (id : Int) (xs : List Int) : ∀ k, 0 ≤ find id xs k ↔ id ∈ xs := by
 induction xs with
 | nil => intro k; simp [find]
 | cons x xs ih =>
  intro k
  unfold find
  split
  ·next h => subst h; simp
  ·next h => rw [ih (k + 1)]; simp [Ne.symm h]
theorem hasB_iff {xs : List Int} {id : Int} : hasB xs id = true ↔ id ∈ xs := by
 unfold hasB place; rw [decide_eq_true_eq]; exact find_mem id xs 0
theorem hasB_no {xs : List Int} {id : Int} : hasB xs id = false ↔ id ∉ xs := by
 rw [← hasB_iff]; simp
theorem mem_among_f {l m : List Int} {x : Int} : x ∈ among l m false ↔ x ∈ l ∧ x ∉ m := by
 unfold among; rw [List.mem_filter]; simp [hasB_no]
theorem among_sorted {l m : List Int} {b : Bool} (h : l.Pairwise (· < ·)) : (among l m b).Pairwise (· < ·) := List.Pairwise.filter _ h
theorem mem_mergeL {a b : List Int} {x : Int} : x ∈ mergeL a b ↔ x ∈ a ∨ x ∈ b := by unfold mergeL; exact List.mem_merge
theorem len_mergeL (a b : List Int) : (mergeL a b).length = a.length + b.length := by unfold mergeL; simp
theorem mergeL_sorted : ∀ (a b : List Int), a.Pairwise (· < ·) → b.Pairwise (· < ·) → (∀ x, x ∈ a → x ∉ b) → (mergeL a b).Pairwise (· < ·) := by
 intro a
 induction a with
 | nil => intro b _ hb _; rw [nil_mergeL]; exact hb
 | cons x a iha =>
  intro b
  induction b with
  | nil => intro ha _ _; rw [mergeL_nil]; exact ha
  | cons y b ihb =>
   intro ha hb hd
   have ha' := List.pairwise_cons.1 ha
   have hb' := List.pairwise_cons.1 hb
   by_cases h : x ≤ y
   ·rw [mergeL_le h]
    refine List.pairwise_cons.2 ⟨fun z hz => ?_, iha (y :: b) ha'.2 hb (fun z hz => hd z (by simp [hz]))⟩
    rcases mem_mergeL.1 hz with hz | hz
    ·exact ha'.1 z hz
    ·have hne : x ≠ y := fun e => hd x (by simp) (by simp [e])
     rcases List.mem_cons.1 hz with rfl | hz
     ·omega
     ·have := hb'.1 z hz; omega
   ·rw [mergeL_gt (by omega)]
    refine List.pairwise_cons.2 ⟨fun z hz => ?_, ihb ha hb'.2 (fun z hz hz' => hd z hz (by simp [hz']))⟩
    rcases mem_mergeL.1 hz with hz | hz
    ·rcases List.mem_cons.1 hz with rfl | hz
     ·omega
     ·have := ha'.1 z hz; omega
    ·exact hb'.1 z hz
theorem nextF_inv {num : Int} {xs cut : List Int} {n : Int} {ys : List Int} (h : nextF num xs cut = (n, ys, 0)) :
  okCut num xs cut = true ∧ n = num + 1 ∧ num < 1099511627776 ∧ ys = mergeL (among xs cut false) (among cut xs false) ∧ ys.Pairwise (· < ·) ∧ (∀ x, x ∈ ys ↔ (x ∈ xs ∧ x ∉ cut) ∨ (x ∈ cut ∧ x ∉ xs)) ∧
  xs.length < 2 * (among xs cut false).length ∧ (among xs cut false).length + (among cut xs false).length ≤ 16 ∧ validB n ys = true := by
 cases ho : okCut num xs cut
 ·rw [show nextF num xs cut = (0, [], 1) from if_pos ho] at h; simp at h
 ·by_cases h1 : 2 * (survivors num xs cut).length ≤ xs.length
  ·rw [nextF_maj ho h1] at h; simp at h
  ·by_cases h2 : num = 1099511627776 ∨ 16 < (survivors num xs cut).length + (joiners num xs cut).length
   ·rw [nextF_lim ho h1 h2] at h; simp at h
   ·rw [nextF_ok ho h1 h2] at h
    simp only [Prod.mk.injEq, and_true] at h
    obtain ⟨rfl, rfl⟩ := h
    have hs : survivors num xs cut = among xs cut false := if_pos ho
    have hj : joiners num xs cut = among cut xs false := if_pos ho
    rw [hs] at h1
    rw [hs, hj] at h2
    have hv := okCut_iff.1 ho
    have hxs := idsB_sorted (validB_ids hv.1)
    have hcs := idsB_sorted hv.2
    have hnum := validB_num hv.1
    have hsort : (mergeL (among xs cut false) (among cut xs false)).Pairwise (· < ·) :=
     mergeL_sorted _ _ (among_sorted hxs) (among_sorted hcs) (fun x h h' => (mem_among_f.1 h').2 (mem_among_f.1 h).1)
    have hmem : ∀ x, x ∈ mergeL (among xs cut false) (among cut xs false) ↔ (x ∈ xs ∧ x ∉ cut) ∨ (x ∈ cut ∧ x ∉ xs) := fun x => by rw [mem_mergeL, mem_among_f, mem_among_f]
    refine ⟨rfl, rfl, by omega, by rw [hs, hj], by rw [hs, hj]; exact hsort, by rw [hs, hj]; exact hmem, by omega, by omega, ?_⟩
    rw [hs, hj]
    have h3 := len_mergeL (among xs cut false) (among cut xs false)
    rw [validB_mid (by omega) (by omega)]
    refine (idsB_iff (m := 16)).2 ⟨by omega, by omega, hsort, fun x hx => ?_⟩
    rcases (hmem x).1 hx with hx | hx
    ·exact ((idsB_iff (m := 16)).1 (validB_ids hv.1)).2.2.2 x hx.1
    ·exact ((idsB_iff (m := 32)).1 hv.2).2.2.2 x hx.1
end Go.Proofs.YtponbabbabnaeaaGreat
namespace Go.Proofs.YtponbabbabnaeaaGreat
end Go.Proofs.YtponbabbabnaeaaGreat
namespace Go.Proofs.YtponbabbabnaeaaGreat
structure Ent where
 v : Int
 o : Int
 q : Int
 p : List UInt8
 deriving DecidableEq
abbrev Vw := Int × List Int
abbrev Fls := Int × Int × List Ent
structure St where
 self : Int
 views : List Vw
 base : Int
 log : List Ent
 stable : Int
 sent : Int
 pend : List (List UInt8)
 marks : List (Int × Int)
 fls : List Fls
 deriving DecidableEq
def viewEnt (n : Int) (xs : List Int) : Ent := ⟨n, 0, n, encV n xs⟩
def isViewE (e : Ent) : Bool := decide ((decV e.p).2.2.2 = 0) && (decide ((decV e.p).2.2.1 = e.p.length) && decide (e = viewEnt (decV e.p).1 (decV e.p).2.1))
def ownN (l : List Ent) (o : Int) : Nat := l.countP fun e => e.o == o
def prevV (l : List Ent) (i : Nat) : Int := match l[i - 1]? with | some e => e.v | none => 0
def okEnt (l : List Ent) (i : Nat) (e : Ent) : Bool :=
 if i = 0 ∨ e.v ≠ prevV l i then (decide (i = 0) || decide (prevV l i ≤ e.v)) && isViewE e
 else isId e.o && (decide (e.p.length ≤ 6000) && decide (e.q = ownN (l.take i) e.o + 1))
def okAtL (l : List Ent) (i : Nat) : Bool := match l[i]? with | some e => okEnt l i e | none => true
def validLog (l : List Ent) : Bool := decide (l.length ≤ 2000) && (List.range l.length).all (okAtL l)
theorem okAtL_eq {l : List Ent} {i : Nat} {e : Ent} (h : l[i]? = some e) : okAtL l i = okEnt l i e := by unfold okAtL; rw [h]
theorem vlog_long {l : List Ent} (h : ¬ l.length ≤ 2000) : validLog l = false := by unfold validLog; rw [decide_eq_false h]; rfl
theorem vlog_no {l : List Ent} {i : Nat} {e : Ent} (h : l[i]? = some e) (hn : okEnt l i e = false) : validLog l = false := by
 unfold validLog
 rw [show (List.range l.length).all (okAtL l) = false from by
  rw [List.all_eq_false]
  exact ⟨i, List.mem_range.2 (List.getElem?_eq_some_iff.1 h).1, by rw [okAtL_eq h, hn]; simp⟩, Bool.and_false]
theorem vlog_yes {l : List Ent} (hl : l.length ≤ 2000) (h : ∀ i, i < l.length → okAtL l i = true) : validLog l = true := by
 unfold validLog
 rw [decide_eq_true hl, show (List.range l.length).all (okAtL l) = true from by rw [List.all_eq_true]; exact fun i hi => h i (List.mem_range.1 hi)]; rfl
theorem vlog_inv {l : List Ent} (h : validLog l = true) : l.length ≤ 2000 ∧ ∀ i, i < l.length → okAtL l i = true := by
 unfold validLog at h
 simp only [Bool.and_eq_true, decide_eq_true_eq, List.all_eq_true, List.mem_range] at h
 exact h
def followB (a b : Vw) : Bool := decide (nextF a.1 a.2 (diffF a.1 a.2 b.1 b.2) = (b.1, b.2, 0))
def vwAt (l : List Vw) (i : Nat) : Vw := (l[i]?).getD (0, [])
def validVs (l : List Vw) : Bool := decide (1 ≤ l.length) && (decide (l.length ≤ 2000) && (validB (vwAt l 0).1 (vwAt l 0).2 && (List.range (l.length - 1)).all fun i => followB (vwAt l i) (vwAt l (i + 1))))
def lastV (l : List Vw) : Vw := vwAt l (l.length - 1)
def knownV (l : List Vw) (n : Int) : Option Vw := l.find? fun v => v.1 == n
def lastE (l : List Ent) : Int := match l[l.length - 1]? with | some e => e.v | none => 0
def basedB (l : List Ent) (base : Int) : Bool := if base = -1 then decide (l.length = 0) else decide (0 < l.length) && (validLog l && decide (lastE l = base))
def possB (vs : List Vw) (f : Fls) : Bool :=
 (if f.2.1 = -1 then true else match knownV vs f.2.1 with | none => false | some v => decide (f.2.1 < (lastV vs).1) && hasB v.2 f.1) && basedB f.2.2 f.2.1
def seqrF (v : Vw) : Int := if validB v.1 v.2 then (v.2[0]?).getD 0 else 0
def openB (s : St) : Bool := decide (s.base = (lastV s.views).1)
def leadB (s : St) : Bool := decide (seqrF (lastV s.views) = s.self)
def befM (l : List (Int × Int)) (i : Nat) : Int := if i = 0 then 0 else ((l[i - 1]?).getD (0, 0)).1
def okMark (s : St) (i : Nat) (m : Int × Int) : Bool := decide (befM s.marks i < m.1) && (decide (m.1 ≠ s.self) && (hasB (lastV s.views).2 m.1 && (decide (0 ≤ m.2) && decide (m.2 ≤ s.log.length))))
def befF (l : List Fls) (i : Nat) : Int := if i = 0 then 0 else ((l[i - 1]?).getD (0, 0, [])).1
def okFl (s : St) (i : Nat) (f : Fls) : Bool := decide (befF s.fls i < f.1) && (isId f.1 && possB s.views f)
def okMarkAt (s : St) (i : Nat) : Bool := match s.marks[i]? with | some m => okMark s i m | none => true
def okFlAt (s : St) (i : Nat) : Bool := match s.fls[i]? with | some f => okFl s i f | none => true
def listsB (s : St) : Bool :=
 (decide (s.marks.length = 0) || (openB s && leadB s)) && ((decide (s.fls.length = 0) || (!openB s && leadB s)) && ((List.range s.marks.length).all (okMarkAt s) && (List.range s.fls.length).all (okFlAt s)))
def validS (s : St) : Bool :=
 isId s.self && (validVs s.views && (decide (0 ≤ s.sent) && (decide (s.sent ≤ 1099511627776) && (basedB s.log s.base &&
 ((decide (s.base = -1) || (match knownV s.views s.base with | none => false | some v => hasB v.2 s.self)) &&
 (decide ((ownN s.log s.self : Int) ≤ s.sent) && (decide (0 ≤ s.stable) && (decide (s.stable ≤ s.log.length) &&
 (decide (s.pend.length ≤ 32) && (decide ((s.pend.length : Int) = s.sent - ownN (s.log.take s.stable.toNat) s.self) &&
 ((s.pend.all fun p => decide (p.length ≤ 6000)) && listsB s)))))))))))
end Go.Proofs.YtponbabbabnaeaaGreat
namespace Go.Proofs.YtponbabbabnaeaaGreat
open Go.RowKit
structure Elem (α : Type) where
 f : α → List Value
 k : Nat
 ty : TypeId
 st : TypeId
 z : Value
 bytes : Nat
 inn : α → List (Option Addr × List Value)
 ok : α → Prop
 len : ∀ a, (f a).length = k
 one : ∀ a, ∀ u ∈ f a, u.oneCell' = true
 pos : 0 < k
 und : Tryz.prog.underlying st = some (.slice ty)
 info : (Tryz.prog.info? ty).map (fun i => (i.zero, i.size, i.bytes)) = some (some z, k, bytes)
 zk : z.cells.size = k
 small : bytes ≤ 512
section
variable {α : Type} (E : Elem α)
def Elem.cells (l : List α) : List Value := l.flatMap E.f
theorem Elem.cells_cons (a : α) (l : List α) : E.cells (a :: l) = E.f a ++ E.cells l := rfl
theorem Elem.cells_len (l : List α) : (E.cells l).length = l.length * E.k := by
 induction l with
 | nil => simp [Elem.cells]
 | cons a l ih => rw [E.cells_cons, List.length_append, E.len, ih, List.length_cons, Nat.succ_mul]; omega
theorem Elem.cells_append (a b : List α) : E.cells (a ++ b) = E.cells a ++ E.cells b := by simp [Elem.cells]
theorem Elem.cells_one (l : List α) : ∀ u ∈ E.cells l, u.oneCell' = true := by
 intro u hu
 obtain ⟨a, _, ha⟩ := List.mem_flatMap.1 hu
 exact E.one a u ha
theorem Elem.cells_at {l : List α} : ∀ {i : Nat} {a : α}, l[i]? = some a → ∀ j, j < E.k → (E.cells l)[i * E.k + j]? = (E.f a)[j]? := by
 induction l with
 | nil => intro i a h; simp at h
 | cons x l ih =>
  intro i a h j hj
  rw [E.cells_cons]
  match i, h with
  | 0, h =>
   simp only [List.getElem?_cons_zero, Option.some.injEq] at h; subst h
   rw [Nat.zero_mul, Nat.zero_add, List.getElem?_append_left (by rw [E.len]; exact hj)]
  | i + 1, h =>
   have h1 := ih (i := i) (a := a) (by simpa using h) j hj
   rw [List.getElem?_append_right (by rw [E.len, Nat.succ_mul]; omega), E.len, show (i + 1) * E.k + j - E.k = i * E.k + j from by rw [Nat.succ_mul]; omega]
   exact h1
theorem Elem.cells_inv {l : List α} {n : Nat} {u : Value} (h : (E.cells l)[n]? = some u) : ∃ i j a, n = i * E.k + j ∧ j < E.k ∧ l[i]? = some a ∧ (E.f a)[j]? = some u := by
 have hn := (List.getElem?_eq_some_iff.1 h).1
 rw [E.cells_len] at hn
 have hp := E.pos
 have hi : n / E.k < l.length := Nat.div_lt_of_lt_mul (by rw [Nat.mul_comm]; exact hn)
 have e : n = n / E.k * E.k + n % E.k := by rw [Nat.mul_comm]; exact (Nat.div_add_mod n E.k).symm
 have hm : n % E.k < E.k := Nat.mod_lt _ hp
 refine ⟨n / E.k, n % E.k, l[n / E.k], e, hm, List.getElem?_eq_getElem hi, ?_⟩
 rw [← E.cells_at (List.getElem?_eq_getElem hi) (n % E.k) hm, ← e]; exact h
def Elem.Box (w : World) (A : Option Addr) (l : List α) : Prop := Row w A (E.cells l) ∧ ∀ a ∈ l, E.ok a ∧ ∀ r ∈ E.inn a, Row w r.1 r.2
variable {E}
theorem Elem.Box.ext {w w' : World} {A : Option Addr} {l : List α} (h : E.Box w A l) (e : Ext w w') : E.Box w' A l := ⟨h.1.ext e, fun a ha => ⟨(h.2 a ha).1, fun r hr => ((h.2 a ha).2 r hr).ext e⟩⟩
theorem Elem.Box.nil (w : World) (A : Option Addr) : E.Box w A [] := ⟨Row.nil _ _, fun a ha => by simp at ha⟩
theorem Elem.Box.at_ {w : World} {A : Option Addr} {l : List α} {i : Nat} (h : E.Box w A l) (hi : i < l.length) :
  ∃ b off a, A = some ⟨b, off, none⟩ ∧ b < w.heap.size ∧ Hid (∀ j u, (E.f a)[j]? = some u → w.cell? ⟨b, off + i * E.k + j, none⟩ = some u) ∧ Hid (E.ok a ∧ ∀ r ∈ E.inn a, Row w r.1 r.2) ∧ Hid (l[i]? = some a) := by
 have hl : i * E.k < (E.cells l).length := by rw [E.cells_len]; exact Nat.mul_lt_mul_of_pos_right hi E.pos
 obtain ⟨b, off, h1, h2, h3⟩ := h.1.addr hl
 refine ⟨b, off, l[i], h1, h2, fun j u hj => ?_, h.2 _ (List.getElem_mem hi), List.getElem?_eq_getElem hi⟩
 have hjk : j < E.k := by have := (List.getElem?_eq_some_iff.1 hj).1; rwa [E.len] at this
 rw [Nat.add_assoc]
 exact h3 _ _ (by rw [E.cells_at (List.getElem?_eq_getElem hi) j hjk]; exact hj)
variable (E)
def Elem.Own (w : World) (B : Nat) (v : Value) (l : List α) : Prop := w.ownsRow B E.ty E.k v l.length (E.cells l)
variable {E}
theorem Elem.Own.nil (w : World) (B : Nat) : E.Own w B (.slice none 0 0) [] := ⟨by simp [Elem.cells], .inl ⟨rfl, rfl⟩⟩
theorem Elem.Own.slice {w : World} {B : Nat} {v : Value} {l : List α} (h : E.Own w B v l) : ∃ A c, v = .slice A l.length c ∧ l.length ≤ c ∧ c ≤ maxLen ∧ Row w A (E.cells l) := by
 obtain ⟨_, h2⟩ := h
 rcases h2 with ⟨rfl, hn⟩ | ⟨g, cap, cur, rfl, _, hh, h3, h4, h5, h6⟩
 ·have : l = [] := List.eq_nil_of_length_eq_zero hn
  subst this
  exact ⟨none, 0, rfl, Nat.le_refl _, Nat.zero_le _, Row.nil _ _⟩
 ·refine ⟨some ⟨g, 0, none⟩, cap, rfl, h3, h4, fun _ => ⟨g, 0, rfl, ?_, fun j u hj => ?_⟩⟩
  ·rcases Nat.lt_or_ge g w.heap.size with hlt | hge
   ·exact hlt
   ·rw [Array.getElem?_eq_none hge] at hh; cases hh
  ·have hc := cell_of_row w g (0 + j) cur E.ty (0, 0) hh
   rw [hc]
   rw [← h6] at hj
   simp only [List.getElem?_take] at hj
   split at hj
   ·simpa using hj
   ·cases hj
theorem Elem.Own.row {w : World} {B : Nat} {A : Option Addr} {n c : Nat} {l : List α} (h : E.Own w B (.slice A n c) l) : Row w A (E.cells l) := by
 obtain ⟨A', c', hv, _, _, hr⟩ := h.slice
 cases hv
 exact hr
theorem Elem.Own.lt {w : World} {B : Nat} {v : Value} {l : List α} (h : E.Own w B v l) : ∀ k, v.ownBlock = some k → B ≤ k ∧ k < w.heap.size := by
 obtain ⟨_, h2⟩ := h
 rcases h2 with ⟨rfl, _⟩ | ⟨k, cap, cur, rfl, h3, hh, _⟩
 ·intro k hk; simp [Value.ownBlock] at hk
 ·intro k' hk
  simp only [Value.ownBlock, Option.some.injEq] at hk
  subst hk
  refine ⟨h3, ?_⟩
  rcases Nat.lt_or_ge k w.heap.size with hlt | hge
  ·exact hlt
  ·rw [Array.getElem?_eq_none hge] at hh; cases hh
theorem Elem.Own.keep {a w' : World} {B : Nat} {v : Value} {l : List α} (h : E.Own a B v l) (hb : ∀ k, v.ownBlock = some k → k < a.heap.size → w'.heap[k]? = a.heap[k]?) : E.Own w' B v l := by
 have hlt := h.lt
 obtain ⟨h1, h2⟩ := h
 refine ⟨h1, ?_⟩
 rcases h2 with h2 | ⟨k, cap, cur, hv, h3, hh, r⟩
 ·exact .inl h2
 ·have hk : v.ownBlock = some k := by rw [hv]; rfl
  exact .inr ⟨k, cap, cur, hv, h3, by rw [hb k hk (hlt k hk).2]; exact hh, r⟩
theorem Elem.Own.ext {a w' : World} {B : Nat} {v : Value} {l : List α} (h : E.Own a B v l) (g : Ext a w') : E.Own w' B v l := h.keep fun k _ hlt => g.block k hlt
theorem Elem.Own.base {w : World} {B B' : Nat} {v : Value} {l : List α} (h : E.Own w B v l) (hb : B' ≤ B) : E.Own w B' v l := by
 obtain ⟨h1, h2⟩ := h
 refine ⟨h1, ?_⟩
 rcases h2 with h2 | ⟨k, cap, cur, hv, h3, r⟩
 ·exact .inl h2
 ·exact .inr ⟨k, cap, cur, hv, Nat.le_trans hb h3, r⟩
def Apt (v : Value) (r : Option Addr × List Value) : Prop := ∀ p q, r.2 ≠ [] → r.1 = some p → v.ownBlock = some q → q ≠ p.block
variable (E)
def Elem.OB (w : World) (B : Nat) (v : Value) (l : List α) : Prop := E.Own w B v l ∧ ∀ a ∈ l, E.ok a ∧ ∀ r ∈ E.inn a, Row w r.1 r.2 ∧ Apt v r
variable {E}
theorem Elem.OB.ext {w w' : World} {B : Nat} {v : Value} {l : List α} (h : E.OB w B v l) (e : Ext w w') : E.OB w' B v l := ⟨h.1.ext e, fun a ha => ⟨(h.2 a ha).1, fun r hr => ⟨((h.2 a ha).2 r hr).1.ext e, ((h.2 a ha).2 r hr).2⟩⟩⟩
theorem Elem.OB.nil (w : World) (B : Nat) : E.OB w B (.slice none 0 0) [] := ⟨Elem.Own.nil _ _, fun a ha => by simp at ha⟩
theorem Elem.OB.slice {w : World} {B : Nat} {v : Value} {l : List α} (h : E.OB w B v l) : ∃ A c, v = .slice A l.length c ∧ l.length ≤ c ∧ c ≤ maxLen ∧ E.Box w A l := by
 obtain ⟨A, c, hv, h1, h2, h3⟩ := h.1.slice
 exact ⟨A, c, hv, h1, h2, h3, fun a ha => ⟨(h.2 a ha).1, fun r hr => ((h.2 a ha).2 r hr).1⟩⟩
theorem row_lt {w : World} {A : Option Addr} {vs : List Value} {p : Addr} (h : Row w A vs) (hne : vs ≠ []) (hp : A = some p) : p.block < w.heap.size := by
 obtain ⟨b, off, h1, h2, _⟩ := h hne
 rw [hp] at h1; cases h1; exact h2
theorem Row.grown {a w' : World} {v : Value} {r : Option Addr × List Value} (h : Row a r.1 r.2) (g : Grew a w' v) (hne : Apt v r) : Row w' r.1 r.2 := by
 intro hx
 obtain ⟨b, off, h1, h2, h3⟩ := h hx
 refine ⟨b, off, h1, Nat.lt_of_lt_of_le h2 g.size, fun j u hj => ?_⟩
 have hb : w'.heap[b]? = a.heap[b]? := g.block b h2 (fun e => hne _ _ hx h1 e.symm rfl)
 have := h3 j u hj
 unfold World.cell? at *
 simpa only [hb] using this
theorem apt_push {W : World} {v v' : Value} {r : Option Addr × List Value} (h : Row W r.1 r.2) (ha : Apt v r) (hs : Stems W v v') : Apt v' r := by
 intro p q hne hp hq
 rcases hs with hs | ⟨k, hk, hle⟩
 ·exact ha p q hne hp (hs ▸ hq)
 ·have := row_lt h hne hp
  rw [hk] at hq; cases hq; omega
theorem apt_old {w wr : World} {v : Value} {l : List α} {B : Nat} {r : Option Addr × List Value} (h : Row w r.1 r.2) (hw : w.heap.size ≤ B) (ho : E.Own wr B v l) : Apt v r := by
 intro p q hne hp hq
 have := row_lt h hne hp
 have := (ho.lt q hq).1
 omega
theorem apt_new {wc : World} {v : Value} {l : List α} {B : Nat} {r : Option Addr × List Value} (h : ∀ p, r.2 ≠ [] → r.1 = some p → wc.heap.size ≤ p.block) (ho : E.Own wc B v l) : Apt v r := by
 intro p q hne hp hq
 have := h p hne hp
 have := (ho.lt q hq).2
 omega
theorem Elem.info_parts (E : Elem α) : ∃ i, Tryz.prog.info? E.ty = some i ∧ i.zero = some E.z ∧ i.size = E.k ∧ i.bytes = E.bytes := by
 have h := E.info
 cases hi : Tryz.prog.info? E.ty with
 | none => simp [hi] at h
 | some i => simp [hi] at h; exact ⟨i, rfl, h.1, h.2.1, h.2.2⟩
theorem wp_push_e {o : Oper} {a : Act} {K : Act → World → Prop} {Q : Exit → Act → World → Prop} (E : Elem α) (s x : Operand)
  (ho : o.op = .call { callee := .builtin .append, args := #[s, x], argTypes := #[E.st, E.st] })
  (W : World) (B : Nat) (v : Value) (l : List α) (hs : a.eval s = v) (ad : Addr) (m c : Nat) (news : List α) (hx : a.eval x = .slice (some ad) m c) (hm : m = news.length) (hr : Row W (some ad) (E.cells news)) (hp : 0 < m)
  (hob : E.OB W B v l) (hgood : ∀ q ∈ news, E.ok q ∧ ∀ r ∈ E.inn q, Row W r.1 r.2 ∧ Apt v r) (hl : l.length + m ≤ 20000000) (hB : B ≤ W.heap.size)
  (h : ∀ v' w', E.OB w' B v' (l ++ news) → Grew W w' v → Stems W v v' → K (a.put o.dst v') w') : Oper.wp Tryz.prog o a W K Q := by
 obtain ⟨i0, hi, hz0, hz1', hz2⟩ := E.info_parts
 have hne : E.cells news ≠ [] := by
  intro e
  have := E.cells_len news
  rw [e] at this
  have : 0 < news.length * E.k := Nat.mul_pos (by omega) E.pos
  simp at *; omega
 refine wp_append_lies W s x _ ho B _ i0 _ E.k E.bytes E.und hi hz0 hz1' hz2 E.zk E.pos v l.length (E.cells l) hs hob.1 ad m c (E.cells news) hx (by rw [E.cells_len, hm]) ?_ (E.cells_one _) hp (by unfold maxLen; omega) ?_ hB _ rfl ?_
 ·intro j u hj
  obtain ⟨b, off, hh, _, h3⟩ := hr hne
  cases hh
  have := h3 j u hj
  unfold Addr.add
  split
  ·next h0 => subst h0; simpa using this
  ·exact this
 ·calc (l.length + m) * E.bytes ≤ 20000000 * 512 := Nat.mul_le_mul hl E.small
   _ ≤ _ := by decide
 ·intro g cap w' h2 h3 h4 h5
  have hl1 : (l ++ news).length = l.length + m := by rw [List.length_append, hm]
  have hst : Stems W v (Value.slice (some ⟨g, 0, none⟩) (l.length + m) cap) := by
   rcases h4 with h4 | h4
   ·exact .inl (by rw [h4]; rfl)
   ·exact .inr ⟨g, rfl, Nat.le_of_eq h4.symm⟩
  refine h _ w' ⟨?_, fun q hq => ?_⟩ h3 hst
  ·unfold Elem.Own; rw [hl1, E.cells_append]; exact h2
  ·rcases List.mem_append.1 hq with hq | hq
   ·exact ⟨(hob.2 q hq).1, fun r hr => ⟨((hob.2 q hq).2 r hr).1.grown h3 ((hob.2 q hq).2 r hr).2, apt_push ((hob.2 q hq).2 r hr).1 ((hob.2 q hq).2 r hr).2 hst⟩⟩
   ·exact ⟨(hgood q hq).1, fun r hr => ⟨((hgood q hq).2 r hr).1.grown h3 ((hgood q hq).2 r hr).2, apt_push ((hgood q hq).2 r hr).1 ((hgood q hq).2 r hr).2 hst⟩⟩
theorem push_e {ops : Array Oper} {rest : List Oper} {o : Oper} {a : Act} {Q : Exit → Act → World → Prop} (E : Elem α) (hgd : o.guard = none) (s x : Operand)
  (ho : o.op = .call { callee := .builtin .append, args := #[s, x], argTypes := #[E.st, E.st] })
  (W : World) (B : Nat) (v : Value) (l : List α) (hs : a.eval s = v) (A : Option Addr) (m c : Nat) (news : List α) (hx : a.eval x = .slice A m c) (hm : m = news.length) (hr : Row W A (E.cells news))
  (hob : E.OB W B v l) (hgood : ∀ q ∈ news, E.ok q ∧ ∀ r ∈ E.inn q, Row W r.1 r.2 ∧ Apt v r) (hl : l.length + m ≤ 20000000) (hB : B ≤ W.heap.size)
  (h : ∀ v' w', E.OB w' B v' (l ++ news) → Grew W w' v → Stems W v v' → wpList Tryz.prog ops Q rest (a.put o.dst v') w') : wpList Tryz.prog ops Q (o :: rest) a W := by
 rcases Nat.eq_zero_or_pos m with hz | hp
 ·have hn : news = [] := List.eq_nil_of_length_eq_zero (by omega)
  subst hn
  subst hz
  obtain ⟨i0, hi, hz0, hz1', hz2⟩ := E.info_parts
  rcases A with _ | ad
  ·exact wp_append_nil W hgd s x _ ho B _ i0 E.k E.und hi v l.length (E.cells l) hs hob.1 c hx (h v W (by rw [List.append_nil]; exact hob) ⟨rfl, rfl, rfl, Nat.le_refl _, fun _ _ _ => rfl⟩ (.inl rfl))
  ·refine wpList_append_own_at _ hgd s x _ ho B _ i0 _ E.k E.bytes E.und hi hz0 hz1' hz2 E.zk E.pos v l.length (E.cells l) hs hob.1 ad 0 c [] hx (by simp) (fun j u hj => by simp at hj) (fun u hu => by simp at hu) (by unfold maxLen; omega) ?_ hB ?_
   ·calc (l.length + 0) * E.bytes ≤ 20000000 * 512 := Nat.mul_le_mul hl E.small
     _ ≤ _ := by decide
   ·intro v' w' h2 h3 _ h4
    have hst : Stems W v v' := by
     rcases h4 with h4 | h4
     ·exact .inl h4
     ·exact .inr ⟨_, h4, Nat.le_refl _⟩
    refine h v' w' ⟨?_, fun q hq => ?_⟩ h3 hst
    ·unfold Elem.Own; rw [List.append_nil]; rw [List.append_nil] at h2; exact h2
    ·rw [List.append_nil] at hq
     exact ⟨(hob.2 q hq).1, fun r hr => ⟨((hob.2 q hq).2 r hr).1.grown h3 ((hob.2 q hq).2 r hr).2, apt_push ((hob.2 q hq).2 r hr).1 ((hob.2 q hq).2 r hr).2 hst⟩⟩
 ·rcases A with _ | ad
  ·exfalso
   have hne : E.cells news ≠ [] := by
    intro e
    have := E.cells_len news
    rw [e] at this
    have : 0 < news.length * E.k := Nat.mul_pos (by omega) E.pos
    simp at *; omega
   obtain ⟨b, off, hh, _⟩ := hr hne
   cases hh
  ·exact wpList_plain hgd fun _ hK => wp_push_e E s x ho W B v l hs ad m c news hx hm hr hp hob hgood hl hB fun v' w' h1 h2 h3 => hK _ _ (h v' w' h1 h2 h3)
end
end Go.Proofs.YtponbabbabnaeaaGreat
namespace Go.Proofs.YtponbabbabnaeaaGreat
open Go.RowKit
def strB (bs : List UInt8) : ByteArray := (bs.map fun b => (b.toNat : Int)).foldl (fun r n => r.push (UInt8.ofNat n.toNat)) ByteArray.empty
theorem conv_bytes {w : World} {A : Option Addr} {bs : List UInt8} (c n : Nat) (h : Row w A (bytesV bs)) (hn : n = bs.length) :
  (convert 29 9 (.slice A n c)).run Tryz.prog w = .ok (.string (strB bs)) w := by
 subst hn
 rw [run_convert_bytes_string w _ _ 5 _ _ _ Tryz.underlying29 Tryz.underlying5 Tryz.underlying9]
 rcases A with _ | a
 ·have hb : bs = [] := by
   cases bs with
   | nil => rfl
   | cons b l => obtain ⟨_, _, hh, _⟩ := h (by simp [bytesV]); cases hh
  subst hb
  simp [Conv.bytesToString, strB]
 ·have e : bytesV bs = (bs.map fun b => (b.toNat : Int)).map (Value.int .u8) := by simp [bytesV]
  refine run_bytesToString w a bs.length c (bs.map fun b => (b.toNat : Int)) ?_
  have := run_loadCells_list (P := Tryz.prog) w a (bytesV bs) (fun j v hj => by
   obtain ⟨b, off, hh, _, h3⟩ := h.addr (List.getElem?_eq_some_iff.1 hj).1
   cases hh
   have := h3 j v hj
   unfold Addr.add
   split
   ·next h0 => subst h0; simpa using this
   ·exact this)
  rw [bytesV_len, e] at this
  exact this
end Go.Proofs.YtponbabbabnaeaaGreat
namespace Go.Proofs.YtponbabbabnaeaaGreat
open Go.RowKit
structure VwM where
 n : Int
 A : Option Addr
 c : Nat
 xs : List Int
def VwM.v (v : VwM) : Vw := (v.n, v.xs)
structure FlM where
 m : Int
 b : Int
 A : Option Addr
 c : Nat
 log : List Ent
def FlM.v (f : FlM) : Fls := (f.m, f.b, f.log)
structure PkM where
 t : Int
 A : Option Addr
 c : Nat
 bs : List UInt8
def viewE : Elem VwM where
 f v := [.int .i64 v.n, .slice v.A v.xs.length v.c]
 k := 2
 ty := 46
 st := 22
 z := .agg #[.int .i64 0, .slice none 0 0]
 bytes := 32
 inn v := [(v.A, ints v.xs)]
 ok v := v.xs.length ≤ v.c ∧ v.c ≤ maxLen
 len _ := rfl
 one a := by intro u hu; simp only [List.mem_cons, List.not_mem_nil, or_false] at hu; rcases hu with rfl | rfl <;> rfl
 pos := by decide
 und := Tryz.underlying22
 info := by kernel_rfl
 zk := rfl
 small := by decide
def entE : Elem Ent where
 f e := [.int .i64 e.v, .int .i64 e.o, .int .i64 e.q, .string (strB e.p)]
 k := 4
 ty := 66
 st := 23
 z := .agg #[.int .i64 0, .int .i64 0, .int .i64 0, .string ByteArray.empty]
 bytes := 40
 inn _ := []
 ok _ := True
 len _ := rfl
 one a := by intro u hu; simp only [List.mem_cons, List.not_mem_nil, or_false] at hu; rcases hu with rfl | rfl | rfl | rfl <;> rfl
 pos := by decide
 und := Tryz.underlying23
 info := by kernel_rfl
 zk := rfl
 small := by decide
def strE : Elem (List UInt8) where
 f p := [.string (strB p)]
 k := 1
 ty := 9
 st := 24
 z := .string ByteArray.empty
 bytes := 16
 inn _ := []
 ok _ := True
 len _ := rfl
 one a := by intro u hu; simp only [List.mem_cons, List.not_mem_nil, or_false] at hu; rcases hu with rfl; rfl
 pos := by decide
 und := Tryz.underlying24
 info := by kernel_rfl
 zk := rfl
 small := by decide
def markE : Elem (Int × Int) where
 f m := [.int .i64 m.1, .int .i64 m.2]
 k := 2
 ty := 123
 st := 25
 z := .agg #[.int .i64 0, .int .i64 0]
 bytes := 16
 inn _ := []
 ok _ := True
 len _ := rfl
 one a := by intro u hu; simp only [List.mem_cons, List.not_mem_nil, or_false] at hu; rcases hu with rfl | rfl <;> rfl
 pos := by decide
 und := Tryz.underlying25
 info := by kernel_rfl
 zk := rfl
 small := by decide
def flE : Elem FlM where
 f v := [.int .i64 v.m, .int .i64 v.b, .slice v.A v.log.length v.c]
 k := 3
 ty := 80
 st := 26
 z := .agg #[.int .i64 0, .int .i64 0, .slice none 0 0]
 bytes := 40
 inn v := [(v.A, entE.cells v.log)]
 ok v := v.log.length ≤ v.c ∧ v.c ≤ maxLen
 len _ := rfl
 one a := by intro u hu; simp only [List.mem_cons, List.not_mem_nil, or_false] at hu; rcases hu with rfl | rfl | rfl <;> rfl
 pos := by decide
 und := Tryz.underlying26
 info := by kernel_rfl
 zk := rfl
 small := by decide
def intE : Elem Int where
 f x := [.int .i64 x]
 k := 1
 ty := 3
 st := 44
 z := .int .i64 0
 bytes := 8
 inn _ := []
 ok _ := True
 len _ := rfl
 one a := by intro u hu; simp only [List.mem_cons, List.not_mem_nil, or_false] at hu; rcases hu with rfl; rfl
 pos := by decide
 und := Tryz.underlying44
 info := by kernel_rfl
 zk := rfl
 small := by decide
theorem intE_cells (xs : List Int) : intE.cells xs = ints xs := by
 induction xs with
 | nil => rfl
 | cons x l ih => rw [intE.cells_cons, ih]; rfl
theorem Row.none_nil {w : World} {xs : List Value} (h : Row w none xs) : xs = [] := by
 rcases xs with _ | ⟨u, l⟩
 ·rfl
 ·obtain ⟨b, off, hh, _⟩ := h (by simp)
  cases hh
theorem Elem.cells_nil {α : Type} {E : Elem α} {l : List α} (h : E.cells l = []) : l = [] := by
 have := E.cells_len l
 rw [h] at this
 have hp := E.pos
 exact List.eq_nil_of_length_eq_zero (by rcases Nat.eq_zero_or_pos l.length with h0 | h0; exact h0; have := Nat.mul_pos h0 hp; simp at *; omega)
theorem Elem.own_empty {α : Type} (E : Elem α) (w : World) : E.OB (w.alloc (.cells #[] E.ty)) w.heap.size (.slice (some ⟨w.heap.size, 0, none⟩) 0 0) [] :=
 ⟨⟨by simp [Elem.cells], .inr ⟨w.heap.size, 0, #[], rfl, Nat.le_refl _, (by show (w.heap.push _)[w.heap.size]? = _; simp), Nat.le_refl _, Nat.zero_le _, by simp, by simp [Elem.cells]⟩⟩, fun a ha => by simp at ha⟩
def Elem.Gives {α : Type} (E : Elem α) (w : World) (l : List α) (en : Ending) (w' : World) : Prop :=
 ∃ A c, en = .returned (.slice A l.length c) ∧ l.length ≤ c ∧ c ≤ maxLen ∧ E.OB w' w.heap.size (.slice A l.length c) l ∧ Ext w w'
theorem Elem.gives {α : Type} {E : Elem α} {w w' : World} {v : Value} {l : List α} (h : E.OB w' w.heap.size v l) (e : Ext w w') : E.Gives w l (.returned v) w' := by
 obtain ⟨A, c, hv, h1, h2, _⟩ := h.slice
 subst hv
 exact ⟨A, c, rfl, h1, h2, h, e⟩
theorem Elem.Box.good {α : Type} {E : Elem α} {w w' : World} {A : Option Addr} {l news : List α} {v : Value} {B : Nat} (h : E.Box w A news) (e : Ext w w') (hB : w.heap.size ≤ B) (ho : E.Own w' B v l) : ∀ q ∈ news, E.ok q ∧ ∀ r ∈ E.inn q, Row w' r.1 r.2 ∧ Apt v r :=
 fun q hq => ⟨(h.2 q hq).1, fun r hr => ⟨((h.2 q hq).2 r hr).ext e, apt_old ((h.2 q hq).2 r hr) hB ho⟩⟩
theorem eql_ints (w : World) (a : Option Addr) (l c : Nat) : (binOp .eql 44 (.slice a l c) (.slice none 0 0)).run Tryz.prog w = .ok (.bool a.isNone) w := run_eql_slice_nil w _ 3 a l c Tryz.underlying44
section
attribute [local go_sem] eql_ints Option.isNone_none Option.isNone_some
set_option maxRecDepth 100000 in
theorem clone_ints (A : Option Addr) (c : Nat) (l : List Int) (w : World) (h : intE.Box w A l) (hn : l.length ≤ 1000000) :
  Calls Tryz.prog 157 #[.slice A l.length c] w (intE.Gives w l) := by
 rcases A with _ | ad
 ·have hx : l = [] := Elem.cells_nil h.1.none_nil
  subst hx
  go_enter Tryz.func157, Tryz.ntmps157
  go_wp2; go_ret
  exact Elem.gives (Elem.OB.nil _ _) (Ext.refl _)
 ·have H := hJ h; clear h
  go_enter Tryz.func157, Tryz.ntmps157
  go_wp2_with (first
   | (at_builtin; refine push_e intE rfl (.tmp 5) (.tmp 6) rfl _ w.heap.size _ [] (by rfl) _ _ _ l (by rfl) rfl (H.out.1.ext (Ext.new _ _)) (intE.own_empty w) (H.out.good (Ext.new _ _) (Nat.le_refl _) (intE.own_empty w).1) (by simp; omega) (by simp) ?_; intro v1 w1 ho1 hg1 hs1))
  go_ret
  exact Elem.gives ho1 (hg1.below (Ext.new _ _) (by simp) (fun k hk => by simp [Value.ownBlock] at hk; omega))
end
theorem eql_views (w : World) (a : Option Addr) (l c : Nat) : (binOp .eql 22 (.slice a l c) (.slice none 0 0)).run Tryz.prog w = .ok (.bool a.isNone) w := run_eql_slice_nil w _ 46 a l c Tryz.underlying22
section
attribute [local go_sem] eql_views Option.isNone_none Option.isNone_some
set_option maxRecDepth 100000 in
theorem clone_views (A : Option Addr) (c : Nat) (l : List VwM) (w : World) (h : viewE.Box w A l) (hn : l.length ≤ 1000000) :
  Calls Tryz.prog 161 #[.slice A l.length c] w (viewE.Gives w l) := by
 rcases A with _ | ad
 ·have hx : l = [] := Elem.cells_nil h.1.none_nil
  subst hx
  go_enter Tryz.func161, Tryz.ntmps161
  go_wp2; go_ret
  exact Elem.gives (Elem.OB.nil _ _) (Ext.refl _)
 ·have H := hJ h; clear h
  go_enter Tryz.func161, Tryz.ntmps161
  go_wp2_with (first
   | (at_builtin; refine push_e viewE rfl (.tmp 5) (.tmp 6) rfl _ w.heap.size _ [] (by rfl) _ _ _ l (by rfl) rfl (H.out.1.ext (Ext.new _ _)) (viewE.own_empty w) (H.out.good (Ext.new _ _) (Nat.le_refl _) (viewE.own_empty w).1) (by simp; omega) (by simp) ?_; intro v1 w1 ho1 hg1 hs1))
  go_ret
  exact Elem.gives ho1 (hg1.below (Ext.new _ _) (by simp) (fun k hk => by simp [Value.ownBlock] at hk; omega))
end
theorem eql_ents (w : World) (a : Option Addr) (l c : Nat) : (binOp .eql 23 (.slice a l c) (.slice none 0 0)).run Tryz.prog w = .ok (.bool a.isNone) w := run_eql_slice_nil w _ 66 a l c Tryz.underlying23
section
attribute [local go_sem] eql_ents Option.isNone_none Option.isNone_some
set_option maxRecDepth 100000 in
theorem clone_ents (A : Option Addr) (c : Nat) (l : List Ent) (w : World) (h : entE.Box w A l) (hn : l.length ≤ 1000000) :
  Calls Tryz.prog 108 #[.slice A l.length c] w (entE.Gives w l) := by
 rcases A with _ | ad
 ·have hx : l = [] := Elem.cells_nil h.1.none_nil
  subst hx
  go_enter Tryz.func108, Tryz.ntmps108
  go_wp2; go_ret
  exact Elem.gives (Elem.OB.nil _ _) (Ext.refl _)
 ·have H := hJ h; clear h
  go_enter Tryz.func108, Tryz.ntmps108
  go_wp2_with (first
   | (at_builtin; refine push_e entE rfl (.tmp 5) (.tmp 6) rfl _ w.heap.size _ [] (by rfl) _ _ _ l (by rfl) rfl (H.out.1.ext (Ext.new _ _)) (entE.own_empty w) (H.out.good (Ext.new _ _) (Nat.le_refl _) (entE.own_empty w).1) (by simp; omega) (by simp) ?_; intro v1 w1 ho1 hg1 hs1))
  go_ret
  exact Elem.gives ho1 (hg1.below (Ext.new _ _) (by simp) (fun k hk => by simp [Value.ownBlock] at hk; omega))
end
theorem eql_strs (w : World) (a : Option Addr) (l c : Nat) : (binOp .eql 24 (.slice a l c) (.slice none 0 0)).run Tryz.prog w = .ok (.bool a.isNone) w := run_eql_slice_nil w _ 9 a l c Tryz.underlying24
section
attribute [local go_sem] eql_strs Option.isNone_none Option.isNone_some
set_option maxRecDepth 100000 in
theorem clone_strs (A : Option Addr) (c : Nat) (l : List (List UInt8)) (w : World) (h : strE.Box w A l) (hn : l.length ≤ 1000000) :
  Calls Tryz.prog 109 #[.slice A l.length c] w (strE.Gives w l) := by
 rcases A with _ | ad
 ·have hx : l = [] := Elem.cells_nil h.1.none_nil
  subst hx
  go_enter Tryz.func109, Tryz.ntmps109
  go_wp2; go_ret
  exact Elem.gives (Elem.OB.nil _ _) (Ext.refl _)
 ·have H := hJ h; clear h
  go_enter Tryz.func109, Tryz.ntmps109
  go_wp2_with (first
   | (at_builtin; refine push_e strE rfl (.tmp 5) (.tmp 6) rfl _ w.heap.size _ [] (by rfl) _ _ _ l (by rfl) rfl (H.out.1.ext (Ext.new _ _)) (strE.own_empty w) (H.out.good (Ext.new _ _) (Nat.le_refl _) (strE.own_empty w).1) (by simp; omega) (by simp) ?_; intro v1 w1 ho1 hg1 hs1))
  go_ret
  exact Elem.gives ho1 (hg1.below (Ext.new _ _) (by simp) (fun k hk => by simp [Value.ownBlock] at hk; omega))
end
theorem eql_marks (w : World) (a : Option Addr) (l c : Nat) : (binOp .eql 25 (.slice a l c) (.slice none 0 0)).run Tryz.prog w = .ok (.bool a.isNone) w := run_eql_slice_nil w _ 123 a l c Tryz.underlying25
section
attribute [local go_sem] eql_marks Option.isNone_none Option.isNone_some
set_option maxRecDepth 100000 in
theorem clone_marks (A : Option Addr) (c : Nat) (l : List (Int × Int)) (w : World) (h : markE.Box w A l) (hn : l.length ≤ 1000000) :
  Calls Tryz.prog 110 #[.slice A l.length c] w (markE.Gives w l) := by
 rcases A with _ | ad
 ·have hx : l = [] := Elem.cells_nil h.1.none_nil
  subst hx
  go_enter Tryz.func110, Tryz.ntmps110
  go_wp2; go_ret
  exact Elem.gives (Elem.OB.nil _ _) (Ext.refl _)
 ·have H := hJ h; clear h
  go_enter Tryz.func110, Tryz.ntmps110
  go_wp2_with (first
   | (at_builtin; refine push_e markE rfl (.tmp 5) (.tmp 6) rfl _ w.heap.size _ [] (by rfl) _ _ _ l (by rfl) rfl (H.out.1.ext (Ext.new _ _)) (markE.own_empty w) (H.out.good (Ext.new _ _) (Nat.le_refl _) (markE.own_empty w).1) (by simp; omega) (by simp) ?_; intro v1 w1 ho1 hg1 hs1))
  go_ret
  exact Elem.gives ho1 (hg1.below (Ext.new _ _) (by simp) (fun k hk => by simp [Value.ownBlock] at hk; omega))
end
theorem eql_fls (w : World) (a : Option Addr) (l c : Nat) : (binOp .eql 26 (.slice a l c) (.slice none 0 0)).run Tryz.prog w = .ok (.bool a.isNone) w := run_eql_slice_nil w _ 80 a l c Tryz.underlying26
section
attribute [local go_sem] eql_fls Option.isNone_none Option.isNone_some
set_option maxRecDepth 100000 in
theorem clone_fls (A : Option Addr) (c : Nat) (l : List FlM) (w : World) (h : flE.Box w A l) (hn : l.length ≤ 1000000) :
  Calls Tryz.prog 111 #[.slice A l.length c] w (flE.Gives w l) := by
 rcases A with _ | ad
 ·have hx : l = [] := Elem.cells_nil h.1.none_nil
  subst hx
  go_enter Tryz.func111, Tryz.ntmps111
  go_wp2; go_ret
  exact Elem.gives (Elem.OB.nil _ _) (Ext.refl _)
 ·have H := hJ h; clear h
  go_enter Tryz.func111, Tryz.ntmps111
  go_wp2_with (first
   | (at_builtin; refine push_e flE rfl (.tmp 5) (.tmp 6) rfl _ w.heap.size _ [] (by rfl) _ _ _ l (by rfl) rfl (H.out.1.ext (Ext.new _ _)) (flE.own_empty w) (H.out.good (Ext.new _ _) (Nat.le_refl _) (flE.own_empty w).1) (by simp; omega) (by simp) ?_; intro v1 w1 ho1 hg1 hs1))
  go_ret
  exact Elem.gives ho1 (hg1.below (Ext.new _ _) (by simp) (fun k hk => by simp [Value.ownBlock] at hk; omega))
end
end Go.Proofs.YtponbabbabnaeaaGreat
