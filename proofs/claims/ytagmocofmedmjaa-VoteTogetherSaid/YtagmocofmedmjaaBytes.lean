/- Bytes: slices of bytes that a call reads or makes. -/
import Derived.Test.YtagmocofmedmjaaOwn
namespace Go.Proofs.Ytagmocofmedmjaa
open Go.RowKit

def bytesV (bs : List UInt8) : List Value := bs.map fun b => .int .u8 (b.toNat : Int)
theorem bytesV_len (bs : List UInt8) : (bytesV bs).length = bs.length := by simp [bytesV]
theorem bytesV_app (a b : List UInt8) : bytesV (a ++ b) = bytesV a ++ bytesV b := by simp [bytesV]
theorem bytesV_drop (a : List UInt8) (k : Nat) : (bytesV a).drop k = bytesV (a.drop k) := by simp [bytesV]
theorem bytesV_one (bs : List UInt8) : ∀ u ∈ bytesV bs, u.oneCell' = true := by
  intro u hu; simp only [bytesV, List.mem_map] at hu; obtain ⟨x, _, rfl⟩ := hu; rfl
theorem Row.byte {w : World} {A : Option Addr} {bs : List UInt8} {k : Nat} (h : Row w A (bytesV bs)) (hk : k < bs.length) :
    ∃ b off, ∃ x : UInt8, A = some ⟨b, off, none⟩ ∧ w.cell? ⟨b, off + k, none⟩ = some (.int .u8 (x.toNat : Int)) ∧ Hid (bs[k]? = some x) := by
  obtain ⟨b, off, h1, _, h3⟩ := h.addr (k := k) (by simpa [bytesV] using hk)
  exact ⟨b, off, bs[k], h1, h3 k _ (by simp [bytesV, List.getElem?_eq_getElem hk]), List.getElem?_eq_getElem hk⟩

/-- append(s, x) at a slice of one-cell elements of the call's own; x lies in a block that was just made -/
theorem push_one {P : Program} {ops : Array Oper} {rest : List Oper} {o : Oper} {a : Act} {Q : Exit → Act → World → Prop} (hgd : o.guard = none) (s x : Operand) (t e : TypeId) (z : Value) (bytes : Nat)
    (ho : o.op = .call { callee := .builtin .append, args := #[s, x], argTypes := #[t, t] }) (ht : P.underlying t = some (.slice e))
    (hinfo : (P.info? e).map (fun i => (i.zero, i.size, i.bytes)) = some (some z, 1, bytes)) (hz1 : z.cells.size = 1) (hby : bytes ≤ 64)
    (W : World) (B : Nat) (v : Value) (xs : List Value) (hs : a.eval s = v) (u : Value) (h1 : u.oneCell' = true) (hx : a.eval x = .slice (some ⟨W.heap.size, 0, none⟩) 1 1)
    (hown : Own W B e v xs) (hl : xs.length < 1900000000) (hb : B ≤ W.heap.size)
    (h : ∀ v' w', Own w' B e v' (xs ++ [u]) → Grew W w' v → Stems W v v' → wpList P ops Q rest (a.put o.dst v') w') :
    wpList P ops Q (o :: rest) a (W.alloc (.cells #[u] e)) := by
  refine push_row hgd s x t e z bytes ho ht hinfo hz1 hby (W.alloc (.cells #[u] e)) B v xs hs (some ⟨W.heap.size, 0, none⟩) 1 1 [u] hx rfl ?_ (by simpa using h1) (hown.ext (Ext.new _ _)) (by omega) (by simp; omega) ?_
  · intro _
    refine ⟨W.heap.size, 0, rfl, by simp, fun j q hj => ?_⟩
    match j, hj with
    | 0, hj => simp at hj; subst hj; simp
  · intro v' w' h2 h3 h4
    refine h v' w' h2 ⟨h3.os, h3.tape, h3.output, Nat.le_trans (by simp) h3.size, fun k hk hne => (h3.block k (by simp; omega) hne).trans (Below.heap_alloc _ _ _ hk)⟩ ?_
    rcases h4 with h4 | ⟨g, h4, h5⟩
    · exact .inl h4
    · exact .inr ⟨g, h4, by simp at h5; omega⟩
end Go.Proofs.Ytagmocofmedmjaa
