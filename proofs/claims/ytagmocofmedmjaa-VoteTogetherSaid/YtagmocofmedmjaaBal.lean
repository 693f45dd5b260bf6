/- What a slice of ballots reads as. -/
import Derived.Test.YtagmocofmedmjaaOwn
import Derived.Test.YtagmocofmedmjaaSame
namespace Go.Proofs.Ytagmocofmedmjaa
open Go.RowKit

/-- a ballot as it lies in memory -/
structure Bal where
  m : Int
  A : Option Addr
  c : Nat
  cut : List Int

/-- what a ballot says -/
def Bal.pr (b : Bal) : Int × List Int := (b.m, b.cut)
def Bal.val (b : Bal) : Value := .slice b.A b.cut.length b.c
/-- the cells of a row of ballots -/
def balV (bs : List Bal) : List Value := bs.flatMap fun b => [.int .i64 b.m, .slice b.A b.cut.length b.c]
theorem balV_len (bs : List Bal) : (balV bs).length = bs.length * 2 := by
  induction bs with
  | nil => rfl
  | cons b bs ih => simp only [balV, List.flatMap_cons, List.length_append, List.length_cons, List.length_nil] at *; omega
theorem balV_append (a b : List Bal) : balV (a ++ b) = balV a ++ balV b := by simp [balV]
theorem balV_at {bs : List Bal} : ∀ {k : Nat} {b : Bal}, bs[k]? = some b → (balV bs)[k * 2]? = some (.int .i64 b.m) ∧ (balV bs)[k * 2 + 1]? = some (.slice b.A b.cut.length b.c) := by
  induction bs with
  | nil => intro k b h; simp at h
  | cons x bs ih =>
    intro k b h
    match k, h with
    | 0, h => simp at h; subst h; exact ⟨rfl, rfl⟩
    | k + 1, h =>
      have := ih (k := k) (b := b) (by simpa using h)
      have e1 : (k + 1) * 2 = k * 2 + 2 := by omega
      have e2 : (k + 1) * 2 + 1 = k * 2 + 1 + 2 := by omega
      rw [e2, e1]
      exact this

/-- the slice at A holds the ballots bs, and the cuts of theirs lie in memory -/
def Box (w : World) (A : Option Addr) (bs : List Bal) : Prop := Row w A (balV bs) ∧ ∀ b ∈ bs, Row w b.A (ints b.cut) ∧ b.cut.length ≤ b.c ∧ b.c ≤ maxLen
theorem Box.ext {w w' : World} {A : Option Addr} {bs : List Bal} (h : Box w A bs) (e : Ext w w') : Box w' A bs := ⟨h.1.ext e, fun b hb => ⟨(h.2 b hb).1.ext e, (h.2 b hb).2⟩⟩
theorem Box.nil (w : World) (A : Option Addr) : Box w A [] := ⟨Row.nil _ _, fun b hb => by simp at hb⟩
theorem Box.at_ {w : World} {A : Option Addr} {bs : List Bal} {k : Nat} (h : Box w A bs) (hk : k < bs.length) :
    ∃ b off m X c cut, A = some ⟨b, off, none⟩ ∧ b < w.heap.size ∧ w.cell? ⟨b, off + k * 2, none⟩ = some (.int .i64 m) ∧ w.cell? ⟨b, off + k * 2 + 1, none⟩ = some (.slice X cut.length c) ∧ Hid (Row w X (ints cut)) ∧ cut.length ≤ c ∧ c ≤ maxLen ∧ Hid (bs[k]? = some ⟨m, X, c, cut⟩) := by
  obtain ⟨b, off, h1, h2, h3⟩ := h.1.addr (k := k) (by rw [balV_len]; omega)
  have hb := List.getElem?_eq_getElem hk
  have hv := balV_at hb
  have hr := h.2 _ (List.getElem_mem hk)
  refine ⟨b, off, bs[k].m, bs[k].A, bs[k].c, bs[k].cut, h1, h2, h3 _ _ hv.1, ?_, hr.1, hr.2.1, hr.2.2, hb⟩
  rw [Nat.add_assoc]; exact h3 _ _ hv.2
def prs (bs : List Bal) : List (Int × List Int) := bs.map Bal.pr
theorem prs_len (bs : List Bal) : (prs bs).length = bs.length := by simp [prs]
theorem prs_at {bs : List Bal} {k : Nat} {m : Int} {X : Option Addr} {c : Nat} {cut : List Int} (h : bs[k]? = some ⟨m, X, c, cut⟩) : (prs bs)[k]? = some (m, cut) := by simp [prs, h, Bal.pr]

/-- the number of ballots for a cut -/
def votesF (ps : List (Int × List Int)) (cut : List Int) : Nat := ps.countP fun p => sameB p.2 cut
theorem votes_step {ps : List (Int × List Int)} {k : Nat} {p : Int × List Int} {cut : List Int} (h : ps[k]? = some p) : votesF (ps.take (k + 1)) cut = votesF (ps.take k) cut + if sameB p.2 cut then 1 else 0 := by
  unfold votesF
  rw [List.take_add_one, h]
  simp [List.countP_append, List.countP_cons]
theorem votes_all {ps : List (Int × List Int)} {k : Nat} {cut : List Int} (h : ¬ k < ps.length) : votesF (ps.take k) cut = votesF ps cut := by
  rw [List.take_of_length_le (by omega)]
theorem votes_le (ps : List (Int × List Int)) (cut : List Int) : votesF ps cut ≤ ps.length := List.countP_le_length
theorem votes_take (ps : List (Int × List Int)) (k : Nat) (cut : List Int) : votesF (ps.take k) cut ≤ k := Nat.le_trans (votes_le _ _) (by simp; omega)
end Go.Proofs.Ytagmocofmedmjaa
