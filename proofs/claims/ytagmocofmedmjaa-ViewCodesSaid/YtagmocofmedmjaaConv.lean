/- string(b) of bytes that lie in memory. -/
import Derived.Test.YtagmocofmedmjaaBytes
import Derived.Laws.BytesString
import Derived.Laws.Cells
namespace Go.Proofs.Ytagmocofmedmjaa
open Go.RowKit

/-- the text that bytes make -/
def strB (bs : List UInt8) : ByteArray := (bs.map fun b => (b.toNat : Int)).foldl (fun r n => r.push (UInt8.ofNat n.toNat)) ByteArray.empty

theorem conv_bytes {w : World} {A : Option Addr} {bs : List UInt8} (c n : Nat) (h : Row w A (bytesV bs)) (hn : n = bs.length) :
    (convert 54 9 (.slice A n c)).run Try.prog w = .ok (.string (strB bs)) w := by
  subst hn
  rw [run_convert_bytes_string w _ _ 5 _ _ _ Try.underlying54 Try.underlying5 Try.underlying9]
  rcases A with _ | a
  · have hb : bs = [] := by
      cases bs with
      | nil => rfl
      | cons b l => obtain ⟨_, _, hh, _⟩ := h (by simp [bytesV]); cases hh
    subst hb
    simp [Conv.bytesToString, strB]
  · have e : bytesV bs = (bs.map fun b => (b.toNat : Int)).map (Value.int .u8) := by simp [bytesV]
    refine run_bytesToString w a bs.length c (bs.map fun b => (b.toNat : Int)) ?_
    have := run_loadCells_list (P := Try.prog) w a (bytesV bs) (fun j v hj => by
      obtain ⟨b, off, hh, _, h3⟩ := h.addr (List.getElem?_eq_some_iff.1 hj).1
      cases hh
      have := h3 j v hj
      unfold Addr.add
      split
      · next h0 => subst h0; simpa using this
      · exact this)
    rw [bytesV_len, e] at this
    exact this
end Go.Proofs.Ytagmocofmedmjaa
