/- Contracts: a signed number and a length are read from bytes. -/
import Derived.Test.YtagmocofmedmjaaUint2
import Derived.Test.YtagmocofmedmjaaPlainL
namespace Go.Proofs.Ytagmocofmedmjaa
open Go.RowKit

def retI (r : Int × Nat × Int) : Ending := .returned (.tuple #[.int .i64 r.1, .int .i64 (r.2.1 : Int), .int .i64 r.2.2])

set_option maxRecDepth 100000 in
theorem int_any (A : Option Addr) (c : Nat) (bs : List UInt8) (w : World) (h : Row w A (bytesV bs)) (hl : bs.length ≤ 1000000000) :
    Calls Try.prog 88 #[.slice A bs.length c] w fun e w' => e = retI (decI bs) ∧ w = w' := by
  have H := Lib.hid h; clear h
  have HB := Lib.hid (unzig_bits (decU_in bs).1)
  go_enter Try.func88, Try.ntmps88
  go_wp2_with fail
  refine (uint_any A c bs w H.out hl).mono ?_
  rintro e w' ⟨rfl, rfl⟩
  unfold retU
  go_wp2
  go_ret3
  refine ⟨?_, rfl⟩
  unfold retI decI
  rw [← HB.out]
  rfl

set_option maxRecDepth 100000 in
theorem unzigzag_any (n : Nat) (w : World) (hn : Hid (n < U64)) :
    Calls Try.prog 95 #[.int .u64 (n : Int)] w fun e w' => e = .returned (.int .i64 (unzig n)) ∧ w = w' := by
  cases h : ((n : Int) % 2 == 1)
  · go_enter Try.func95, Try.ntmps95
    go_wp2
    go_ret
    exact ⟨ret_int (unzig_even hn.out h), rfl⟩
  · go_enter Try.func95, Try.ntmps95
    go_wp2
    go_ret
    exact ⟨ret_int (unzig_odd hn.out h), rfl⟩

set_option maxRecDepth 100000 in
theorem readInt_any (A : Option Addr) (c : Nat) (bs : List UInt8) (w : World) (h : Row w A (bytesV bs)) (hl : bs.length ≤ 1000000000) :
    Calls Try.prog 89 #[.slice A bs.length c] w fun e w' => e = retI (decI bs) ∧ w = w' := by
  have H := Lib.hid h; clear h
  have HU := Lib.hid (decU_in bs).1
  have HR := Lib.hid (show retI (decI bs) = .returned (.tuple #[.int .i64 (unzig (decU bs).1), .int .i64 ((decU bs).2.1 : Int), .int .i64 (decU bs).2.2]) from rfl)
  by_cases he : (decU bs).2.2 = 0
  · have hb : ((decU bs).2.2 != 0) = false := by simpa using he
    have HE := Lib.hid he; clear he
    go_enter Try.func89, Try.ntmps89
    go_wp2_with fail
    refine (readUint_any A c bs w H.out hl).mono ?_
    rintro e w' ⟨rfl, rfl⟩
    unfold retU
    go_wp2_with fail
    refine (unzigzag_any _ w HU).mono ?_
    rintro e w' ⟨rfl, rfl⟩
    go_wp2
    go_ret3
    refine ⟨?_, rfl⟩
    rw [HR.out, HE.out]
    rfl
  · have hb : ((decU bs).2.2 != 0) = true := by simpa using he
    have HE := Lib.hid (decU_err he); clear he
    go_enter Try.func89, Try.ntmps89
    go_wp2_with fail
    refine (readUint_any A c bs w H.out hl).mono ?_
    rintro e w' ⟨rfl, rfl⟩
    unfold retU
    go_wp2
    go_ret3
    refine ⟨?_, rfl⟩
    rw [HR.out, HE.out.1, HE.out.2]
    rfl

set_option maxRecDepth 100000 in
theorem length_any (A : Option Addr) (c : Nat) (bs : List UInt8) (m : Nat) (w : World) (h : Row w A (bytesV bs)) (hl : bs.length ≤ 1000000000) (hm : m ≤ 1000000000) :
    Calls Try.prog 94 #[.slice A bs.length c, .int .i64 (m : Int)] w fun e w' => e = retI (((decN bs m).1 : Int), (decN bs m).2.1, (decN bs m).2.2) ∧ w = w' := by
  have H := Lib.hid h; clear h
  have hwm : IntKind.u64.wrap (m : Int) = (m : Int) := u64_nat (by unfold U64; omega)
  by_cases he : (decU bs).2.2 = 0
  · have hb : ((decU bs).2.2 != 0) = false := by simpa using he
    have HE := Lib.hid he; clear he
    by_cases hg : m < (decU bs).1
    · have HF : Hid (decN bs m = (0, 0, 5)) := by unfold Hid decN; rw [if_neg (by simpa using HE.out), if_pos hg]
      go_enter Try.func94, Try.ntmps94
      go_wp2_with fail
      refine (uint_any A c bs w H.out hl).mono ?_
      rintro e w' ⟨rfl, rfl⟩
      unfold retU
      go_wp2
      go_ret3
      refine ⟨?_, rfl⟩
      rw [HF.out]
      rfl
    · have HF : Hid (decN bs m = ((decU bs).1, (decU bs).2.1, 0)) := by unfold Hid decN; rw [if_neg (by simpa using HE.out), if_neg hg]
      have hle : (decU bs).1 ≤ m := by omega
      clear hg
      go_enter Try.func94, Try.ntmps94
      go_wp2_with fail
      refine (uint_any A c bs w H.out hl).mono ?_
      rintro e w' ⟨rfl, rfl⟩
      unfold retU
      go_wp2
      go_ret3
      refine ⟨?_, rfl⟩
      rw [HF.out]
      rfl
  · have hb : ((decU bs).2.2 != 0) = true := by simpa using he
    have HF : Hid (decN bs m = (0, 0, (decU bs).2.2)) := by unfold Hid decN; rw [if_pos he]
    clear he
    go_enter Try.func94, Try.ntmps94
    go_wp2_with fail
    refine (uint_any A c bs w H.out hl).mono ?_
    rintro e w' ⟨rfl, rfl⟩
    unfold retU
    go_wp2
    go_ret3
    refine ⟨?_, rfl⟩
    rw [HF.out]
    rfl
end Go.Proofs.Ytagmocofmedmjaa
