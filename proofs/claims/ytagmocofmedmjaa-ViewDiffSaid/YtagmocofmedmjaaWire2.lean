/- Contracts: bytes are copied, signed numbers and lists of them are appended (package wire, and the reference of layer 1). -/
import Derived.Test.YtagmocofmedmjaaArith
import Derived.Test.YtagmocofmedmjaaMerge
import Derived.Laws.CopyOwn
namespace Go.Proofs.Ytagmocofmedmjaa
open Go.RowKit

/-- n zero bytes -/
def zrow (n : Nat) : Array Value := madeCells #[.int .u8 0] n
theorem zrow_size (n : Nat) : (zrow n).size = n := size_madeCells _ _
theorem make_bytes (l n : Nat) (hn : n ≤ 1000000000) (W : World) :
    (Instr.makeSlice 54 (.int .i64 (l : Int)) (.int .i64 ((l : Int) + (n : Int)))).run Try.prog W = .ok (.slice (some ⟨W.heap.size, 0, none⟩) l (l + n)) (W.alloc (.cells (zrow (l + n)) 5)) ∨ 1000000000 < l := by
  rcases Nat.lt_or_ge 1000000000 l with h | h
  · exact .inr h
  · left
    obtain ⟨i0, hi, hz0, hz1, hz2⟩ := info_parts info_u8
    have hr := run_make (P := Try.prog) W 54 5 i0 (.int .u8 0) Try.underlying54 hi hz0 .i64 .i64 (l : Int) ((l : Int) + (n : Int)) (by omega) (by omega) (by rw [hz2]; omega) (by omega)
    rw [hz1] at hr
    have e1 : ((l : Int) + (n : Int)).toNat = l + n := by omega
    have e2 : ((l : Int)).toNat = l := by omega
    rw [e1, e2, Nat.mul_one] at hr
    exact hr

set_option maxRecDepth 100000 in
theorem extend_any (A : Option Addr) (c : Nat) (bs : List UInt8) (n : Nat) (w : World) (h : Row w A (bytesV bs)) (hl : bs.length ≤ 1000000000) (hn : n ≤ 1000000000) :
    Calls Try.prog 91 #[.slice A bs.length c, .int .i64 (n : Int)] w (GivesB w bs) := by
  have H := Lib.hid h; clear h
  have hmk : ∀ W : World, (Instr.makeSlice 54 (.int .i64 (bs.length : Int)) (.int .i64 ((bs.length : Int) + (n : Int)))).run Try.prog W = .ok (.slice (some ⟨W.heap.size, 0, none⟩) bs.length (bs.length + n)) (W.alloc (.cells (zrow (bs.length + n)) 5)) := fun W => (make_bytes bs.length n hn W).resolve_right (by omega)
  go_enter Try.func91, Try.ntmps91
  go_wp2_with (with_reducible refine wpList_copy_splice rfl (.tmp 13) (.tmp 14) 54 54 rfl 5 Try.underlying54 (by kernel_rfl) (some ⟨w.heap.size, 0, none⟩) A bs.length (bs.length + n) bs.length c rfl rfl w.heap.size 0 (zrow (bs.length + n)).toList 5 (heap_alloc_new w _) (bytesV bs) ?h1 ?h2 ?h3 (bytesV_one bs) w.heap.size w (Ext.new w _) (Nat.le_refl _) ?_; rotate_right; intro w1 hg1 hb1)
  case h1 => rw [bytesV_len]; exact (Nat.min_self _).symm
  case h2 =>
    intro hp
    try refine ⟨rfl, ?_⟩
    obtain ⟨b, off, rfl, hb, h3⟩ := H.out.addr hp
    refine ⟨_, rfl, fun j v hj => ?_⟩
    have := h3 j v hj
    rw [World.cell?_alloc_lt _ _ _ (by simpa [Addr.add] using (by split <;> exact hb : (if j = 0 then (⟨b, off, none⟩ : Addr) else ⟨b, off + j, none⟩).block < w.heap.size))]
    unfold Addr.add
    split
    · next h0 => subst h0; simpa using this
    · exact this
  case h3 => rw [bytesV_len]; simp [zrow_size]
  go_wp2
  go_ret
  show GivesB w bs (.returned (.slice (some ⟨w.heap.size, 0, none⟩) bs.length (bs.length + n))) w1
  refine gives_b ?_ hb1
  refine ⟨by simp, .inr ⟨w.heap.size, bs.length + n, _, by rw [bytesV_len], Nat.le_refl _, hg1.out, by rw [bytesV_len]; omega, by unfold maxLen; omega, ?_, ?_⟩⟩
  · rw [List.size_toArray, length_splice _ _ _ (by rw [bytesV_len]; simp [zrow_size])]; simp [zrow_size]
  · rw [Nat.mul_one]; simp [splice]

set_option maxRecDepth 100000 in
theorem putInt_any (B : Nat) (v : Value) (xs : List UInt8) (n : Int) (w : World) (ho : Own w B 5 v (bytesV xs)) (hB : B ≤ w.heap.size) (hl : xs.length ≤ 1000000000) (hn : Hid (I64 n)) :
    Calls Try.prog 92 #[v, .int .i64 n] w (Grows w B v (xs ++ encU (zig n))) := by
  have HO := Lib.hid ho; clear ho
  go_enter Try.func92, Try.ntmps92
  go_wp2_with fail
  rw [zig_bits hn.out]
  refine (putUint_any B v xs (zig n) w HO.out hB hl (zig_lt hn.out)).mono ?_
  rintro e w1 ⟨v1, rfl, ho1, hg1, hs1⟩
  go_wp2
  go_ret
  exact ⟨v1, rfl, ho1, hg1, hs1⟩

set_option maxRecDepth 100000 in
theorem zigzag_any (n : Int) (w : World) (hn : Hid (I64 n)) :
    Calls Try.prog 96 #[.int .i64 n] w fun e w' => e = .returned (.int .u64 (zig n : Int)) ∧ w = w' := by
  by_cases h : n < 0
  · go_enter Try.func96, Try.ntmps96
    go_wp2
    go_ret
    exact ⟨ret_int (zig_neg hn.out h), rfl⟩
  · go_enter Try.func96, Try.ntmps96
    go_wp2
    go_ret
    exact ⟨ret_int (zig_pos hn.out (by omega)), rfl⟩

set_option maxRecDepth 100000 in
theorem rInt_any (n : Int) (w : World) (hn : Hid (I64 n)) :
    Calls Try.prog 93 #[.int .i64 n] w (GivesB w (encU (zig n))) := by
  go_enter Try.func93, Try.ntmps93
  go_wp2_with fail
  refine (zigzag_any n w hn).mono ?_
  rintro e w1 ⟨rfl, rfl⟩
  go_wp2_with fail
  refine (rUint_any (zig n) w (zig_lt hn.out)).mono ?_
  rintro e w1 ⟨A1, c1, rfl, hc1, hm1, ho1, hx1⟩
  go_wp2
  go_ret
  exact ⟨A1, c1, rfl, hc1, hm1, ho1, hx1⟩

theorem appendUint_any (A : Option Addr) (c : Nat) (bs : List UInt8) (n : Nat) (w : World) (h : Row w A (bytesV bs)) (hl : bs.length ≤ 1000000) (hn : Hid (n < U64)) :
    Calls Try.prog 83 #[.slice A bs.length c, .int .u64 (n : Int)] w (GivesB w (bs ++ encU n)) := by
  have H := Lib.hid h; clear h
  go_enter Try.func83, Try.ntmps83
  go_wp2_with fail
  refine (extend_any A c bs 10 w H.out (by omega) (by omega)).mono ?_
  rintro e w1 ⟨A1, c1, rfl, hc1, hm1, ho1, hx1⟩
  go_wp2_with fail
  refine (putUint_any w.heap.size _ bs n w1 ho1 hx1.size (by omega) hn).mono ?_
  rintro e w2 ⟨v2, rfl, ho2, hg2, hs2⟩
  go_wp2
  go_ret
  exact gives_b ho2 (hg2.below hx1 hx1.size (fun k hk => (ho1.lt k hk).1))
end Go.Proofs.Ytagmocofmedmjaa
