/- Contracts: unsigned numbers are appended to bytes (package wire, and the reference of layer 1). -/
import Derived.Test.YtagmocofmedmjaaBytes
import Derived.Test.YtagmocofmedmjaaPlainB
namespace Go.Proofs.Ytagmocofmedmjaa
open Go.RowKit

theorem Grew.refl (a : World) (v : Value) : Grew a a v := ⟨rfl, rfl, rfl, Nat.le_refl _, fun _ _ _ => rfl⟩
theorem Stems.refl (a : World) (v : Value) : Stems a v v := .inl rfl
theorem Grew.size {a b : World} {v : Value} (h : Grew a b v) : a.heap.size ≤ b.heap.size := World.grownBy.size h
theorem Grew.trans {a b c : World} {v u : Value} (h : Grew a b v) (s : Stems a v u) (k : Grew b c u) : Grew a c v := by
  refine ⟨k.os.trans h.os, k.tape.trans h.tape, k.output.trans h.output, Nat.le_trans h.size k.size, fun i hi hne => ?_⟩
  refine (k.block i (Nat.lt_of_lt_of_le hi h.size) ?_).trans (h.block i hi hne)
  rcases s with s | ⟨g, s, hg⟩
  · rw [s]; exact hne
  · rw [s]; intro e; cases e; omega
theorem Stems.trans {a b : World} {v u t : Value} (h : Stems a v u) (hab : a.heap.size ≤ b.heap.size) (k : Stems b u t) : Stems a v t := by
  rcases k with k | ⟨g, k, hg⟩
  · rcases h with h | ⟨g, h, hg⟩
    · exact .inl (k.trans h)
    · exact .inr ⟨g, k.trans h, hg⟩
  · exact .inr ⟨g, k, by omega⟩
theorem Grew.ext {a b : World} {v : Value} {B : Nat} {e : TypeId} {xs : List Value} (h : Grew a b v) (ho : Own a B e v xs) (hB : B ≤ a.heap.size) : Below B a b :=
  (Below.refl _ _).grown h hB (fun k hk => (ho.lt k hk).1)

/-- the slice of bytes v, the call's own, is handed back longer -/
def Grows (w : World) (B : Nat) (v : Value) (bs : List UInt8) (en : Ending) (w' : World) : Prop :=
  ∃ v', en = .returned v' ∧ Own w' B 5 v' (bytesV bs) ∧ Grew w w' v ∧ Stems w v v'

theorem or128 (m : Fin 256) : bits .or .u8 (m.val : Int) 128 = ((m.val % 128 + 128 : Nat) : Int) := by revert m; decide +kernel
theorem or_128 (k : Nat) : bits .or .u8 ((k : Int) % 256) 128 = ((UInt8.ofNat (k % 128 + 128)).toNat : Int) := by
  have h := or128 ⟨k % 256, Nat.mod_lt _ (by decide)⟩
  have e : ((k % 256 : Nat) : Int) = (k : Int) % 256 := by omega
  simp only [e] at h
  rw [h, UInt8.toNat_ofNat']
  omega
theorem byte_lo {k : Nat} (_h : k < 128) : (k : Int) = ((UInt8.ofNat k).toNat : Int) := by rw [UInt8.toNat_ofNat']; omega
theorem u64_nat {k : Nat} (h : k < U64) : IntKind.u64.wrap (k : Int) = (k : Int) := IntWalk.u64_in _ (by unfold U64 at h; omega)
theorem u64_div {k : Nat} (h : k < U64) : IntKind.u64.wrap ((k : Int) / 128) = (k : Int) / 128 := IntWalk.u64_in _ (by unfold U64 at h; omega)
theorem byte_128 (k : Nat) : ((k : Int) % 128 + 128) = ((UInt8.ofNat (k % 128 + 128)).toNat : Int) := by rw [UInt8.toNat_ofNat']; omega

set_option maxRecDepth 100000 in
theorem putUint_any (B : Nat) (v : Value) (xs : List UInt8) (n : Nat) (w : World) (ho : Own w B 5 v (bytesV xs)) (hB : B ≤ w.heap.size) (hl : xs.length ≤ 1000000000) (hn : Hid (n < U64)) :
    Calls Try.prog 90 #[v, .int .u64 (n : Int)] w (Grows w B v (xs ++ encU n)) := by
  have HB := Lib.hid (show (xs ++ encU n).length ≤ 1000000011 by have := encU_len10 hn.out; simp; omega)
  have HO := Lib.hid ho
  clear ho
  go_enter Try.func90, Try.ntmps90
  go_wp2
  go_loopw [0, 1] (fun v' m wr => ∃ (k : Nat) (ys : List UInt8), m = .int .u64 (k : Int) ∧ Hid (ys ++ encU k = xs ++ encU n) ∧ Own wr B 5 v' (bytesV ys) ∧ Grew w wr v ∧ Stems w v v') (fun _ m _ => (intOf m).toNat)
  case atStart => exact ⟨n, xs, rfl, rfl, HO.out, Grew.refl _ _, Stems.refl _ _⟩
  case round =>
    obtain ⟨k, ys, rfl, HE, ho', hg', hs'⟩ := hrel
    have hyl : ys.length ≤ 1000000011 := by
      have h1 := HB.out; rw [← HE.out] at h1; simp at h1; omega
    have hB' : B ≤ wr.heap.size := Nat.le_trans hB hg'.size
    by_cases hlt : 128 ≤ k
    · have hd : decide ((128 : Int) ≤ (k : Int)) = true := by simp; omega
      go_wp2_with (first
        | (at_builtin; refine push_one rfl (.tmp 7) (.tmp 11) _ 5 _ 1 rfl Try.underlying54 info_u8 rfl (by decide) wr B _ (bytesV ys) (by rfl) _ (by rfl) (by rfl) ho' (by rw [bytesV_len]; omega) hB' ?_; intro v1 w1 ho1 hg1 hs1))
      go_roundw
      case rel =>
        refine ⟨k / 128, ys ++ [UInt8.ofNat (k % 128 + 128)], by go_num, enc_step hlt HE.out, ?_, hg'.trans hs' hg1, hs'.trans hg'.size hs1⟩
        rw [or_128] at ho1; rw [bytesV_app]; exact ho1
      case measure => simp [intOf]; omega
    · have hd : decide ((128 : Int) ≤ (k : Int)) = false := by simp; omega
      have hlt' : k < 128 := by omega
      go_wp2_with (first
        | (at_builtin; refine push_one rfl (.tmp 15) (.tmp 18) _ 5 _ 1 rfl Try.underlying54 info_u8 rfl (by decide) wr B _ (bytesV ys) (by rfl) _ (by rfl) (by rfl) ho' (by rw [bytesV_len]; omega) hB' ?_; intro v1 w1 ho1 hg1 hs1))
      go_ret
      refine ⟨v1, rfl, ?_, hg'.trans hs' hg1, hs'.trans hg'.size hs1⟩
      rw [← enc_end hlt' HE.out, bytesV_app]
      simp only [bytesV, List.map_cons, List.map_nil, ← byte_lo hlt']; exact ho1

/-- bytes in new memory are returned -/
def GivesB (w : World) (bs : List UInt8) (en : Ending) (w' : World) : Prop :=
  ∃ A c, en = .returned (.slice A bs.length c) ∧ bs.length ≤ c ∧ c ≤ maxLen ∧ Own w' w.heap.size 5 (.slice A bs.length c) (bytesV bs) ∧ Ext w w'
theorem gives_b {w w' : World} {v : Value} {bs : List UInt8} (h : Own w' w.heap.size 5 v (bytesV bs)) (e : Ext w w') : GivesB w bs (.returned v) w' := by
  obtain ⟨A, c, hv, h1, h2, _⟩ := h.slice
  rw [bytesV_len] at hv h1
  subst hv
  exact ⟨A, c, rfl, h1, h2, h, e⟩
theorem Grows.gives {w w' : World} {bs : List UInt8} {en : Ending} {v : Value} {xs : List Value} {e : TypeId} (h : Grows w w.heap.size v bs en w') (ho : Own w w.heap.size e v xs) : GivesB w bs en w' := by
  obtain ⟨v', rfl, h1, h2, _⟩ := h
  exact gives_b h1 (h2.ext ho (Nat.le_refl _))

set_option maxRecDepth 100000 in
theorem rUint_any (n : Nat) (w : World) (hn : Hid (n < U64)) :
    Calls Try.prog 84 #[.int .u64 (n : Int)] w (GivesB w (encU n)) := by
  have HB := Lib.hid (show (encU n).length ≤ 11 from encU_len10 hn.out)
  go_enter Try.func84, Try.ntmps84
  go_wp2
  go_loopw [0, 3] (fun m v' wr => ∃ (k : Nat) (ys : List UInt8), m = .int .u64 (k : Int) ∧ Hid (k < U64) ∧ Hid (ys ++ encU k = encU n) ∧ Own wr w.heap.size 5 v' (bytesV ys) ∧ Ext w wr) (fun m _ _ => (intOf m).toNat)
  case atStart => exact ⟨n, [], rfl, hn, rfl, Own.nil _ _ _, Ext.refl _⟩
  case round =>
    obtain ⟨k, ys, rfl, HK, HE, ho', hx'⟩ := hrel
    have hyl : ys.length ≤ 11 := by
      have h1 := HB.out; rw [← HE.out] at h1; simp at h1; omega
    by_cases hlt : 128 ≤ k
    · have hd : decide ((128 : Int) ≤ (k : Int)) = true := by simp; omega
      have hw := u64_div HK.out
      go_wp2_with (first
        | (at_builtin; refine push_one rfl (.tmp 6) (.tmp 11) _ 5 _ 1 rfl Try.underlying54 info_u8 rfl (by decide) wr w.heap.size _ (bytesV ys) (by rfl) _ (by rfl) (by rfl) ho' (by rw [bytesV_len]; omega) hx'.size ?_; intro v1 w1 ho1 hg1 hs1))
      go_roundw
      case rel =>
        refine ⟨k / 128, ys ++ [UInt8.ofNat (k % 128 + 128)], by go_num, by have := HK.out; show k / 128 < U64; omega, enc_step hlt HE.out, ?_, hg1.below hx' hx'.size (fun q hq => (ho'.lt q hq).1)⟩
        rw [bytesV_app]
        first | exact ho1 | (rw [byte_128] at ho1; exact ho1)
      case measure => simp [intOf]; omega
    · have hd : decide ((128 : Int) ≤ (k : Int)) = false := by simp; omega
      have hlt' : k < 128 := by omega
      go_wp2_with (first
        | (at_builtin; refine push_one rfl (.tmp 15) (.tmp 18) _ 5 _ 1 rfl Try.underlying54 info_u8 rfl (by decide) wr w.heap.size _ (bytesV ys) (by rfl) _ (by rfl) (by rfl) ho' (by rw [bytesV_len]; omega) hx'.size ?_; intro v1 w1 ho1 hg1 hs1))
      go_ret
      refine gives_b ?_ (hg1.below hx' hx'.size (fun q hq => (ho'.lt q hq).1))
      rw [← enc_end hlt' HE.out, bytesV_app]
      simp only [bytesV, List.map_cons, List.map_nil, ← byte_lo hlt']; exact ho1
end Go.Proofs.Ytagmocofmedmjaa
