/- Contracts: lists of ints are encoded; the encoding of a view. -/
import Derived.Test.YtagmocofmedmjaaWire2
import Derived.Test.YtagmocofmedmjaaDiff
namespace Go.Proofs.Ytagmocofmedmjaa
open Go.RowKit

def encL (xs : List Int) : List UInt8 := xs.flatMap fun x => encU (zig x)
theorem encL_snoc {xs : List Int} {k : Nat} {x : Int} (h : xs[k]? = some x) : encL (xs.take (k + 1)) = encL (xs.take k) ++ encU (zig x) := by
  unfold encL; rw [take_snoc h]; simp
theorem encL_all {xs : List Int} {k : Nat} (h : ¬ k < xs.length) : encL (xs.take k) = encL xs := by rw [List.take_of_length_le (by omega)]
theorem encL_len {xs : List Int} (h : ∀ x ∈ xs, I64 x) (k : Nat) : (encL (xs.take k)).length ≤ 11 * k := by
  induction k with
  | zero => simp [encL]
  | succ k ih =>
    cases hx : xs[k]? with
    | none =>
      have : xs.take (k + 1) = xs.take k := by rw [List.take_add_one, hx]; simp
      rw [this]; omega
    | some x =>
      rw [encL_snoc hx, List.length_append]
      have := encU_len10 (zig_lt (h x (List.mem_of_getElem? hx)))
      omega
theorem len_u64 {n : Nat} (h : n ≤ 1000000) : n < U64 := by unfold U64; omega

set_option maxRecDepth 100000 in
theorem appendInts_any (A A' : Option Addr) (c c' : Nat) (bs : List UInt8) (xs : List Int) (w : World) (h : Row w A (bytesV bs)) (h' : Row w A' (ints xs)) (hl : bs.length ≤ 1000000) (hn : xs.length ≤ 1000000) (hb : ∀ x ∈ xs, I64 x) :
    Calls Try.prog 82 #[.slice A bs.length c, .slice A' xs.length c'] w (GivesB w (bs ++ encU xs.length ++ encL xs)) := by
  have H := Lib.hid h; have H' := Lib.hid h'; have HB := Lib.hid hb
  clear h h' hb
  go_enter Try.func82, Try.ntmps82
  go_wp2_with fail
  rw [show (10 : Int) + 2 * (xs.length : Int) = ((10 + 2 * xs.length : Nat) : Int) by omega]
  refine (extend_any A c bs (10 + 2 * xs.length) w H.out (by omega) (by omega)).mono ?_
  rintro e w1 ⟨A1, c1, rfl, hc1, hm1, ho1, hx1⟩
  have hwl : IntKind.u64.wrap (xs.length : Int) = (xs.length : Int) := u64_nat (len_u64 hn)
  go_wp2_with fail
  refine (putUint_any w.heap.size _ bs xs.length w1 ho1 hx1.size (by omega) (len_u64 hn)).mono ?_
  rintro e w2 ⟨v2, rfl, ho2, hg2, hs2⟩
  have hx2 := Lib.hid (hg2.below hx1 hx1.size (fun k hk => (ho1.lt k hk).1))
  have hl2 := encU_len10 (len_u64 hn)
  clear hwl
  go_wp2
  go_loopw [5, 7, 20] (fun v _ i wr => ∃ k : Nat, k ≤ xs.length ∧ i = .int .i64 k ∧ Own wr w.heap.size 5 v (bytesV (bs ++ encU xs.length ++ encL (xs.take k))) ∧ Ext w wr) (fun _ _ i _ => xs.length - (intOf i).toNat)
  case atStart => exact ⟨0, Nat.zero_le _, rfl, by simpa [encL] using ho2, hx2.out⟩
  case round =>
    obtain ⟨k, hk, rfl, ho, hx⟩ := hrel
    have hel := encL_len HB.out k
    by_cases hlt : k < xs.length
    · obtain ⟨b, off, x, hA, hc, HX⟩ := (H'.out.ext hx).at_ hlt
      subst hA
      have hlen : (bs ++ encU xs.length ++ encL (xs.take k)).length ≤ 1000000000 := by simp only [List.length_append]; omega
      go_wp2_with fail
      refine (putInt_any w.heap.size _ _ x wr ho hx.size hlen (HB.out x (List.mem_of_getElem? HX.out))).mono ?_
      rintro e w3 ⟨v3, rfl, ho3, hg3, hs3⟩
      go_wp2
      go_roundw
      case rel => exact ⟨k + 1, by omega, by go_num, by rw [encL_snoc HX.out, ← List.append_assoc]; exact ho3, hg3.below hx hx.size (fun k hk => (ho.lt k hk).1)⟩
      case measure => simp [intOf]; omega
    · go_wp2
      go_ret
      exact gives_b (by rw [encL_all hlt] at ho; exact ho) hx

set_option maxRecDepth 100000 in
theorem rIntList_any (A' : Option Addr) (c' : Nat) (xs : List Int) (w : World) (h' : Row w A' (ints xs)) (hn : xs.length ≤ 1000000) (hb : ∀ x ∈ xs, I64 x) :
    Calls Try.prog 85 #[.slice A' xs.length c'] w (GivesB w (encU xs.length ++ encL xs)) := by
  have H' := Lib.hid h'; have HB := Lib.hid hb
  clear h' hb
  have hwl : IntKind.u64.wrap (xs.length : Int) = (xs.length : Int) := u64_nat (len_u64 hn)
  go_enter Try.func85, Try.ntmps85
  go_wp2_with fail
  refine (rUint_any xs.length w (len_u64 hn)).mono ?_
  rintro e w2 ⟨A2, c2, rfl, hc2, hm2, ho2, hx2⟩
  have hl2 := encU_len10 (len_u64 hn)
  clear hwl
  go_wp2
  go_loopw [3, 4] (fun v i wr => ∃ k : Nat, k ≤ xs.length ∧ i = .int .i64 k ∧ Own wr w.heap.size 5 v (bytesV (encU xs.length ++ encL (xs.take k))) ∧ Ext w wr) (fun _ i _ => xs.length - (intOf i).toNat)
  case atStart => exact ⟨0, Nat.zero_le _, rfl, by simpa [encL] using ho2, hx2⟩
  case round =>
    obtain ⟨k, hk, rfl, ho, hx⟩ := hrel
    have hel := encL_len HB.out k
    by_cases hlt : k < xs.length
    · obtain ⟨b, off, x, hA, hc, HX⟩ := (H'.out.ext hx).at_ hlt
      subst hA
      have hi := Lib.hid (HB.out x (List.mem_of_getElem? HX.out))
      have hzl := encU_len10 (zig_lt hi.out)
      have hlen : (bytesV (encU xs.length ++ encL (xs.take k))).length + (encU (zig x)).length < 2000000000 := by rw [bytesV_len]; simp only [List.length_append]; omega
      go_wp2_with fail
      refine (rInt_any x wr hi).mono ?_
      rintro e w3 ⟨A3, c3, rfl, hc3, hm3, ho3, hx3⟩
      have hx4 := Lib.hid (Ext.trans hx hx3)
      have ho4 := Lib.hid (ho.ext hx3)
      go_wp2_with (first
        | (at_builtin; refine push_row rfl (.tmp 15) (.tmp 20) _ 5 _ 1 rfl Try.underlying54 info_u8 rfl (by decide) w3 w.heap.size _ (bytesV (encU xs.length ++ encL (xs.take k))) (by rfl) _ _ _ (bytesV (encU (zig x))) (by rfl) (by rw [bytesV_len]) ho3.row (bytesV_one _) ho4.out hlen hx4.out.size ?_; intro v5 w5 ho5 hg5 hs5))
      go_roundw
      case rel => exact ⟨k + 1, by omega, by go_num, by rw [encL_snoc HX.out, ← List.append_assoc, bytesV_app]; exact ho5, hg5.below hx4.out hx4.out.size (fun k hk => (ho.lt k hk).1)⟩
      case measure => simp [intOf]; omega
    · go_wp2
      go_ret
      exact gives_b (by rw [encL_all hlt] at ho; exact ho) hx

/-- the encoding of a view -/
def encV (num : Int) (xs : List Int) : List UInt8 := if validB num xs then encU num.toNat ++ encU xs.length ++ encL xs else []
theorem encV_yes {num : Int} {xs : List Int} (h : validB num xs = true) : encV num xs = encU num.toNat ++ encU xs.length ++ encL xs := if_pos h
theorem encV_no {num : Int} {xs : List Int} (h : validB num xs = false) : encV num xs = [] := if_neg (by simp [h])
theorem valid_i64 {num : Int} {xs : List Int} (h : validB num xs = true) : ∀ x ∈ xs, I64 x := by
  intro x hx
  have := ((idsB_iff (m := 16)).1 (validB_ids h)).2.2.2 x hx
  unfold I64; omega
end Go.Proofs.Ytagmocofmedmjaa
