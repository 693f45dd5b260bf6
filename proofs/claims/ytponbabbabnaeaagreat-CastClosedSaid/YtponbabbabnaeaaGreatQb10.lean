/- Part 10 of the proof: contracts of functions that the statement reaches. Conditions: as each theorem says. -/
import Derived.Lib.AppendZerosOnto
import Derived.Test.YtponbabbabnaeaaGreatQb01
import Derived.Test.YtponbabbabnaeaaGreatQb09
import Derived.Test.YtponbabbabnaeaaGreatQb04
namespace Go.Proofs.YtponbabbabnaeaaGreat
open Go.RowKit
def retS (r : List UInt8 × Nat × Int) : Ending := .returned (.tuple #[.string (strB r.1), .int .i64 (r.2.1 : Int), .int .i64 r.2.2])
set_option maxRecDepth 100000 in
theorem string_any (A : Option Addr) (c : Nat) (bs : List UInt8) (m : Nat) (w : World) (h : Row w A (bytesV bs)) (hc : bs.length ≤ c) (hl : bs.length ≤ 1000000000) (hm : m ≤ 1000000000) :
  Calls Tryz.prog 184 #[.slice A bs.length c, .int .i64 (m : Int)] w fun e w' => e = retS (decS bs m) ∧ w = w' := by
 have H := hJ h; clear h
 have hin := decN_in bs m
 obtain ⟨⟨size, n, er⟩, hd⟩ : ∃ r, decN bs m = r := ⟨_, rfl⟩
 have HD := hJ hd
 rw [hd] at hin
 clear hd; have hz : er = 0 → size ≤ m ∧ n ≤ bs.length := fun _ => hin
 by_cases he : er = 0
 ·subst he
  simp only at hin
  obtain ⟨h1, h2⟩ := hin
  by_cases hs : bs.length - n < size
  ·have HF : Hid (decS bs m = ([], 0, 2)) := hJ (by unfold decS; rw [HD.out]; simp only [ne_eq, not_true_eq_false, if_false]; rw [if_pos hs])
   have hd : decide ((bs.length : Int) - (n : Int) < (size : Int)) = true := by simp; omega
   go_enter Tryz.func184, Tryz.ntmps184
   go_wp2_with fail
   refine (length_any A c bs m w H.out hl hm).mono ?_
   rintro e w' ⟨rfl, rfl⟩
   rw [HD.out]
   unfold retI
   go_wp2; go_ret3
   refine ⟨?_, rfl⟩
   rw [HF.out]
   rfl
  ·have HF : Hid (decS bs m = ((bs.drop n).take size, n + size, 0)) := hJ (by unfold decS; rw [HD.out]; simp only [ne_eq, not_true_eq_false, if_false]; rw [if_neg hs])
   have hd : decide ((bs.length : Int) - (n : Int) < (size : Int)) = false := by simp; omega
   have hsl : ∀ W, (Instr.slice 29 (.slice A bs.length c) (some (.int .i64 (n : Int))) (some (.int .i64 ((n : Int) + (size : Int)))) none).run Tryz.prog W = .ok (.slice (subA A n c 1) size (c - n)) W := fun W => by
    have := bytE.slice_lh A bs.length c n (n + size) (n : Int) ((n : Int) + (size : Int)) rfl (by omega) (by omega) (by omega) W
    rw [show n + size - n = size by omega] at this; exact this
   have hcv : (convert 29 9 (.slice (subA A n c 1) size (c - n))).run Tryz.prog w = .ok (.string (strB ((bs.drop n).take size))) w :=
    conv_bytes _ _ (row_bytesV (by have := Elem.row_sub (row_bytes H.out) hc n (n + size); rw [List.drop_take, show n + size - n = size by omega] at this; exact this)) (by rw [List.length_take, List.length_drop]; omega)
   go_enter Tryz.func184, Tryz.ntmps184
   go_wp2_with fail
   refine (length_any A c bs m w H.out hl hm).mono ?_
   rintro e w' ⟨rfl, rfl⟩
   rw [HD.out]
   unfold retI
   go_wp2; go_ret3
   refine ⟨?_, rfl⟩
   rw [HF.out]
   rfl
 ·have HF : Hid (decS bs m = ([], 0, er)) := hJ (by unfold decS; rw [HD.out]; simp only [ne_eq]; rw [if_pos he])
  have hb : (er != 0) = true := by simpa using he
  go_enter Tryz.func184, Tryz.ntmps184
  go_wp2_with fail
  refine (length_any A c bs m w H.out hl hm).mono ?_
  rintro e w' ⟨rfl, rfl⟩
  rw [HD.out]
  unfold retI
  go_wp2; go_ret3
  refine ⟨?_, rfl⟩
  rw [HF.out]
  rfl
-- OPEN
def retO (w : World) (r : Int × List UInt8 × Nat × Int) (en : Ending) (w' : World) : Prop :=
 ∃ A c, en = .returned (.tuple #[.int .i64 r.1, .slice A r.2.1.length c, .int .i64 (r.2.2.1 : Int), .int .i64 r.2.2.2]) ∧ r.2.1.length ≤ c ∧ c ≤ maxLen ∧ Own w' w.heap.size 5 (.slice A r.2.1.length c) (bytesV r.2.1) ∧ Ext w w'
theorem retO_err {w w' : World} {r : Int × List UInt8 × Nat × Int} (er : Int) (h : r = (0, [], 0, er)) (hx : Ext w w') : retO w r (.returned (.tuple #[.int .i64 0, .slice none 0 0, .int .i64 0, .int .i64 er])) w' := by
 subst h; exact ⟨none, 0, rfl, Nat.le_refl _, Nat.zero_le _, Own.nil _ _ _, hx⟩
theorem Ext.drew1 {w : World} : Ext w w.drew := (Ext.refl w).drew
theorem results_tmp4 {fn : Func} {t u v x : Tmp} (h : fn.results = #[.tmp t, .tmp u, .tmp v, .tmp x]) (tmps : Array Value) (P : Program) (w : World) :
  (results fn tmps).run P w = .ok (.tuple #[tmps.getD t undef, tmps.getD u undef, tmps.getD v undef, tmps.getD x undef]) w := by
 simp [results, h]
theorem length_len (A : Option Addr) (c k : Nat) (bs : List UInt8) (m : Nat) (w : World) (h : Row w A (bytesV bs)) (hl : bs.length ≤ 1000000000) (hm : m ≤ 1000000000) (hk : k = bs.length) :
  Calls Tryz.prog 181 #[.slice A k c, .int .i64 (m : Int)] w fun e w' => e = retI (((decN bs m).1 : Int), (decN bs m).2.1, (decN bs m).2.2) ∧ w = w' := by subst hk; exact length_any A c bs m w h hl hm
theorem checksum_len (A : Option Addr) (c k : Nat) (bs : List UInt8) (w : World) (h : Row w A (bytesV bs)) (hl : bs.length ≤ 1000000000) (hk : k = bs.length) :
  Calls Tryz.prog 175 #[.slice A k c] w fun e w' => e = .returned (.int .u32 (crcF bs : Int)) ∧ w = w' := by subst hk; exact checksum_any A c bs w h hl
theorem extend_len (A : Option Addr) (c k : Nat) (bs : List UInt8) (n : Nat) (w : World) (h : Row w A (bytesV bs)) (hl : bs.length ≤ 1000000000) (hn : n ≤ 1000000000) (hk : k = bs.length) :
  Calls Tryz.prog 122 #[.slice A k c, .int .i64 (n : Int)] w (GivesB w bs) := by subst hk; exact extend_any A c bs n w h hl hn
theorem byte_ne {x : UInt8} {n : Nat} (h : x ≠ UInt8.ofNat n) : ((x.toNat : Int) != (n : Int)) = true := by
 simp only [bne_iff_ne, ne_eq]
 intro e
 apply h
 have : x.toNat = n := by omega
 rw [← this]; simp
set_option maxRecDepth 100000 in
set_option maxHeartbeats 1000000 in
theorem wopen_any (A : Option Addr) (c : Nat) (bs : List UInt8) (w : World) (h : Row w A (bytesV bs)) (hc : bs.length ≤ c) (hl : bs.length ≤ 1000000) :
  Calls Tryz.prog 137 #[.slice A bs.length c] w (retO w (openF bs)) := by
 have H := hJ h; clear h
 by_cases h3 : bs.length < 3
 ·have HF : Hid (openF bs = (0, [], 0, 2)) := hJ (by unfold openF; rw [if_pos h3])
  go_enter Tryz.func137, Tryz.ntmps137
  go_wp2; (try simp only [Exit.inBlock, Exit.then]); refine bodyPost_ret (results_tmp4 rfl _ _ _) rfl ?_
  exact retO_err _ HF.out (Ext.refl _)
 ·obtain ⟨b, off, x0, rfl, k0, HX0⟩ := H.out.byte (k := 0) (by omega)
  obtain ⟨b', off', x1, hA1, k1, HX1⟩ := H.out.byte (k := 1) (by omega)
  obtain ⟨b2, off2, x2, hA2, k2, HX2⟩ := H.out.byte (k := 2) (by omega)
  cases hA1; cases hA2
  rw [Nat.add_zero] at k0
  by_cases g : x0 ≠ 65 ∨ x1 ≠ 71 ∨ x2 = 0
  ·have HF : Hid (openF bs = (0, [], 0, 3)) := hJ (by
    unfold openF; rw [if_neg h3, if_pos]
    rw [HX0.out, HX1.out, HX2.out]; simpa using g)
   by_cases g0 : x0 = 65
   ·subst g0
    have k0' : w.cell? ⟨b, off, none⟩ = some (.int .u8 65) := k0
    by_cases g1 : x1 = 71
    ·subst g1
     have k1' : w.cell? ⟨b, off + 1, none⟩ = some (.int .u8 71) := k1
     have g2 : x2 = 0 := by simpa using g
     subst g2
     have k2' : w.cell? ⟨b, off + 2, none⟩ = some (.int .u8 0) := k2
     clear k0 k1 k2 g; go_enter Tryz.func137, Tryz.ntmps137
     go_wp2; (try simp only [Exit.inBlock, Exit.then]); refine bodyPost_ret (results_tmp4 rfl _ _ _) rfl ?_
     exact retO_err _ HF.out (Ext.refl _)
    ·have hb : ((x1.toNat : Int) != 71) = true := byte_ne (n := 71) g1
     clear k0 k2 g; go_enter Tryz.func137, Tryz.ntmps137
     go_wp2; (try simp only [Exit.inBlock, Exit.then]); refine bodyPost_ret (results_tmp4 rfl _ _ _) rfl ?_
     exact retO_err _ HF.out (Ext.refl _)
   ·have hb : ((x0.toNat : Int) != 65) = true := byte_ne (n := 65) g0
    clear k1 k2 g; go_enter Tryz.func137, Tryz.ntmps137
    go_wp2; (try simp only [Exit.inBlock, Exit.then]); refine bodyPost_ret (results_tmp4 rfl _ _ _) rfl ?_
    exact retO_err _ HF.out (Ext.refl _)
  ·simp only [ne_eq, not_or, Classical.not_not] at g
   obtain ⟨g0, g1, g2⟩ := g
   subst g0 g1
   have k0' : w.cell? ⟨b, off, none⟩ = some (.int .u8 65) := k0
   have k1' : w.cell? ⟨b, off + 1, none⟩ = some (.int .u8 71) := k1
   have hb2 : ((x2.toNat : Int) == 0) = false := by
    have := byte_ne (n := 0) g2
    simpa using this
   clear k0 k1; have hsl3 : ∀ W, (Instr.slice 29 (.slice (some ⟨b, off, none⟩) bs.length c) (some (.int .i64 3)) none none).run Tryz.prog W = .ok (.slice (subA (some ⟨b, off, none⟩) 3 c 1) (bs.length - 3) (c - 3)) W := fun W => bytE.slice_l (some ⟨b, off, none⟩) bs.length c 3 3 rfl (by omega) W
   have HR3 : Hid (Row w (subA (some ⟨b, off, none⟩) 3 c 1) (bytesV (bs.drop 3))) := hJ (row_bytesV (Elem.row_from (row_bytes H.out) hc 3))
   have hlen3 : (bs.drop 3).length = bs.length - 3 := List.length_drop
   have hin := decN_in (bs.drop 3) 16777216
   have HOP : Hid (∀ d, decN (bs.drop 3) 16777216 = d → openF bs = if d.2.2 ≠ 0 then (0, [], 0, d.2.2) else if bs.length - (3 + d.2.1) < d.1 + 4 then (0, [], 0, 2) else if le4 (crcF (bs.take (3 + d.2.1 + d.1))) ≠ (bs.drop (3 + d.2.1 + d.1)).take 4 then (0, [], 0, 4) else ((x2.toNat : Int), (bs.take (3 + d.2.1 + d.1)).drop (3 + d.2.1), 3 + d.2.1 + d.1 + 4, 0)) := hJ (by
    intro d hd
    subst hd
    unfold openF
    rw [if_neg h3, if_neg (by rw [HX0.out, HX1.out, HX2.out]; simpa using g2), HX2.out]; rfl)
   obtain ⟨⟨size, n, er⟩, hd⟩ : ∃ r, decN (bs.drop 3) 16777216 = r := ⟨_, rfl⟩
   have HD := hJ hd
   have HO2 := hJ (HOP.out _ hd)
   rw [hd, hlen3] at hin
   clear hd HOP g2 HX0 HX1; simp only at hin
   obtain ⟨hi1, hi2⟩ := hin
   by_cases he : er = 0
   ·subst he
    have HO3 : Hid (openF bs = if bs.length - (3 + n) < size + 4 then (0, [], 0, 2) else if le4 (crcF (bs.take (3 + n + size))) ≠ (bs.drop (3 + n + size)).take 4 then (0, [], 0, 4) else ((x2.toNat : Int), (bs.take (3 + n + size)).drop (3 + n), 3 + n + size + 4, 0)) := hJ (by rw [HO2.out]; simp only [ne_eq, not_true_eq_false, if_false])
    clear HO2; by_cases hs : bs.length - (3 + n) < size + 4
    ·have HF : Hid (openF bs = (0, [], 0, 2)) := hJ (by rw [HO3.out, if_pos hs])
     have hdd : decide ((bs.length : Int) - (3 + (n : Int)) < (size : Int) + 4) = true := by simp; omega
     clear HO3; go_enter Tryz.func137, Tryz.ntmps137
     go_wp2_with fail
     refine (length_len _ _ _ (bs.drop 3) 16777216 w HR3.out (by omega) (by omega) hlen3.symm).mono ?_
     rintro e w' ⟨rfl, rfl⟩
     rw [HD.out]
     unfold retI
     go_wp2; (try simp only [Exit.inBlock, Exit.then]); refine bodyPost_ret (results_tmp4 rfl _ _ _) rfl ?_
     exact retO_err _ HF.out (Ext.refl _)
    ·have hdd : decide ((bs.length : Int) - (3 + (n : Int)) < (size : Int) + 4) = false := by simp; omega
     have hsl1 : ∀ W, (Instr.slice 29 (.slice (some ⟨b, off, none⟩) bs.length c) none (some (.int .i64 (3 + (n : Int) + (size : Int)))) none).run Tryz.prog W = .ok (.slice (some ⟨b, off, none⟩) (3 + n + size) c) W := fun W => bytE.slice_h (some ⟨b, off, none⟩) bs.length c (3 + n + size) _ (by omega) (by omega) W
     have hsl2 : ∀ W, (Instr.slice 29 (.slice (some ⟨b, off, none⟩) bs.length c) (some (.int .i64 (3 + (n : Int) + (size : Int)))) (some (.int .i64 (3 + (n : Int) + (size : Int) + 4))) none).run Tryz.prog W = .ok (.slice (subA (some ⟨b, off, none⟩) (3 + n + size) c 1) 4 (c - (3 + n + size))) W := fun W => by
      have := bytE.slice_lh (some ⟨b, off, none⟩) bs.length c (3 + n + size) (3 + n + size + 4) (3 + (n : Int) + (size : Int)) (3 + (n : Int) + (size : Int) + 4) (by omega) (by omega) (by omega) (by omega) W
      rw [show 3 + n + size + 4 - (3 + n + size) = 4 by omega] at this; exact this
     have hcv1 : ∀ W, Row W (some ⟨b, off, none⟩) (bytesV bs) → (convert 29 9 (.slice (subA (some ⟨b, off, none⟩) (3 + n + size) c 1) 4 (c - (3 + n + size)))).run Tryz.prog W = .ok (.string (strB ((bs.drop (3 + n + size)).take 4))) W := fun W hW =>
      conv_bytes _ _ (row_bytesV (by have := Elem.row_sub (row_bytes hW) hc (3 + n + size) (3 + n + size + 4); rw [List.drop_take, show 3 + n + size + 4 - (3 + n + size) = 4 by omega] at this; exact this)) (by rw [List.length_take, List.length_drop]; omega)
     have hw4 : IntKind.i64.wrap (3 + (n : Int) + (size : Int) + 4) = 3 + (n : Int) + (size : Int) + 4 := IntWalk.i64_in _ (by omega)
     have hk2 : ∀ W, Row W (some ⟨b, off, none⟩) (bytesV bs) → W.cell? ⟨b, off + 2, none⟩ = some (.int .u8 (x2.toNat : Int)) := fun W hW => by
      obtain ⟨b3, off3, x3, hA3, k3, HX3⟩ := hW.byte (k := 2) (by omega)
      cases hA3
      have := HX3.out.symm.trans HX2.out
      cases this; exact k3
     have hR2 : Hid (Row w (subA (some ⟨b, off, none⟩) (3 + n) c 1) (bytesV ((bs.take (3 + n + size)).drop (3 + n)))) := hJ (row_bytesV (Elem.row_sub (row_bytes H.out) hc (3 + n) (3 + n + size)))
     have hsl5 : ∀ W, (Instr.slice 29 (.slice (some ⟨b, off, none⟩) bs.length c) (some (.int .i64 (3 + (n : Int)))) (some (.int .i64 (3 + (n : Int) + (size : Int)))) none).run Tryz.prog W = .ok (.slice (subA (some ⟨b, off, none⟩) (3 + n) c 1) size (c - (3 + n))) W := fun W => by
      have := bytE.slice_lh (some ⟨b, off, none⟩) bs.length c (3 + n) (3 + n + size) (3 + (n : Int)) (3 + (n : Int) + (size : Int)) (by omega) (by omega) (by omega) (by omega) W
      rw [show 3 + n + size - (3 + n) = size by omega] at this; exact this
     have hR1 : Hid (Row w.drew (some ⟨b, off, none⟩) (bytesV (bs.take (3 + n + size)))) := hJ ((row_bytesV (Elem.row_upto (row_bytes H.out) _)).ext Ext.drew1)
     go_enter Tryz.func137, Tryz.ntmps137
     go_wp2_with fail
     refine (length_len _ _ _ (bs.drop 3) 16777216 w HR3.out (by omega) (by omega) hlen3.symm).mono ?_
     rintro e w' ⟨rfl, rfl⟩
     rw [HD.out]
     unfold retI
     go_wp2; refine E_begin 13 (fun w' => Row w' (some ⟨b, off, none⟩) (bytesV bs)) (by kernel_rfl) (H.out.ext Ext.drew1) (fun hHeld => ?_)
     refine E_t 0 53 ?_; refine E_t 1 54 ?_; refine E_t 2 55 ?_; refine E_t 6 59 ?_; refine E_t 7 60 ?_; refine E_t 8 61 ?_; refine E_t 9 62 ?_; refine E_t 10 63 ?_; refine E_take 11 (oi := ⟨some 64, _, _, _, _, _⟩) (v := ?_) rfl (by kernel_rfl) (fun _ _ _ h => h) (Or.inl ⟨by rfl, ?_⟩) (by assumption) ?_
     rotate_left
     ·(intro w9 hSw; (try dsimp only at hSw); have hq := hcv1 w9 hSw; go_simp <;> with_reducible rfl)
     try simp only [Act.put, aP1, aP2, aP3]
     refine E_ready [3] (by kernel_rfl) (by simp) ?_
     refine AllE.cons (o := ⟨some 56, _, _, _, _, _⟩) rfl (fun K hK => ?_) AllE.nil
     go_simp; go_at_call 175; refine (checksum_len (some ⟨b, off, none⟩) c (3 + n + size) (bs.take (3 + n + size)) _ hR1.out (by rw [List.length_take]; omega) (by rw [List.length_take]; omega)).mono ?_
     rintro e1 w1 ⟨rfl, rfl⟩
     clear hHeld; refine hK.out _ _ (H.out.ext Ext.drew1) (fun hHeld => ?_)
     clear hK K; try simp only [Act.put, aP1, aP2, aP3]
     refine E_ready [4] (by kernel_rfl) (by simp) ?_
     refine AllE.cons (o := ⟨some 57, _, _, _, _, _⟩) rfl (fun K hK => ?_) AllE.nil
     go_simp; go_at_call 174; refine (word_any w.heap.size _ [] (crcF (bs.take (3 + n + size))) _ (Own.nil _ _ _) (by simp) (by simp)).mono ?_
     rintro e2 w2 ⟨v2, rfl, ho2, hg2⟩
     have X2 : Hid (Ext w w2) := hJ (hg2.below Ext.drew1 (Nat.le_refl _) (fun k hk => by simp [Value.ownBlock] at hk))
     obtain ⟨A2, c2, rfl, h21, h22, HR2⟩ : ∃ A c', v2 = .slice A 4 c' ∧ 4 ≤ c' ∧ c' ≤ maxLen ∧ Hid (Row w2 A (bytesV (le4 (crcF (bs.take (3 + n + size)))))) := (by obtain ⟨A, c', h1, h2, h3, h4⟩ := ho2.slice; exact ⟨A, c', h1, h2, h3, hJ h4⟩)
     have hcv2 := conv_bytes c2 4 HR2.out rfl
     clear ho2 hg2; clear hHeld; refine hK.out _ _ (H.out.ext X2.out) (fun hHeld => ?_)
     clear hK K; try simp only [Act.put, aP1, aP2, aP3]
     refine E_ready [5] (by kernel_rfl) (by simp) ?_
     refine AllE.cons (o := ⟨some 58, _, _, _, _, _⟩) rfl (fun K hK => ?_) AllE.nil
     go_simp; clear hHeld; refine hK.out _ _ (H.out.ext X2.out) (fun hHeld => ?_)
     clear hK K; try simp only [Act.put, aP1, aP2, aP3]
     refine E_ready [12] (by kernel_rfl) (by simp) ?_
     refine AllE.cons (o := ⟨some 65, _, _, _, _, _⟩) rfl (fun K hK => ?_) AllE.nil
     go_simp; clear hHeld; refine hK.out _ _ (H.out.ext X2.out) (fun hHeld => ?_)
     clear hK K; try simp only [Act.put, aP1, aP2, aP3]
     refine E_end (by kernel_rfl) (by rfl) ?_
     simp only [Exit.then]
     go_at_K
     by_cases hck : le4 (crcF (bs.take (3 + n + size))) = (bs.drop (3 + n + size)).take 4
     ·have hq : strB (le4 (crcF (bs.take (3 + n + size)))) = strB ((bs.drop (3 + n + size)).take 4) := by rw [hck]
      have hq1 : (!((strB (le4 (crcF (bs.take (3 + n + size))))).toList == (strB ((bs.drop (3 + n + size)).take 4)).toList)) = false := by rw [strB_list, strB_list]; rw [strB_eq] at hq; simpa using hq
      clear hq; rw [hq1]
      clear hq1; have HF : Hid (openF bs = ((x2.toNat : Int), (bs.take (3 + n + size)).drop (3 + n), 3 + n + size + 4, 0)) := hJ (by rw [HO3.out, if_neg hs, if_neg (by simpa using hck)])
      clear HO3 hck; have h2l : (2 : Int) < (bs.length : Int) := by omega
      have hwx : IntKind.i64.wrap (x2.toNat : Int) = (x2.toNat : Int) := IntWalk.i64_in _ (by have := x2.toNat_lt; omega)
      go_wp2; refine E_begin 15 (fun w' => Row w' (some ⟨b, off, none⟩) (bytesV bs)) (by kernel_rfl) (H.out.ext (X2.out.trans Ext.drew1)) (fun hHeld => ?_)
      refine E_t 0 66 ?_; refine E_t 1 67 ?_; refine E_take 2 (oi := ⟨some 68, _, _, _, _, _⟩) (v := ?_) rfl (by kernel_rfl) (fun _ _ _ h => h) (Or.inl ⟨by rfl, ?_⟩) (by assumption) ?_
      rotate_left
      ·(intro w9 hSw; (try dsimp only at hSw); have hq := hk2 w9 hSw; go_simp <;> with_reducible rfl)
      try simp only [Act.put, aP1, aP2, aP3]
      refine E_t 3 69 ?_; refine E_t 4 70 ?_; refine E_t 5 71 ?_; refine E_t 6 72 ?_; refine E_t 7 73 ?_; refine E_t 9 75 ?_; refine E_t 10 76 ?_; refine E_ready [8] (by kernel_rfl) (by simp) ?_
      refine AllE.cons (o := ⟨some 74, _, _, _, _, _⟩) rfl (fun K hK => ?_) AllE.nil
      go_simp; go_at_call 122; refine (extend_len _ _ _ ((bs.take (3 + n + size)).drop (3 + n)) 0 _ (hR2.out.ext (X2.out.trans Ext.drew1)) (by rw [List.length_drop, List.length_take]; omega) (by omega) (by rw [List.length_drop, List.length_take]; omega)).mono ?_
      rintro e4 w4 ⟨A4, c4, rfl, h41, h42, ho4, hx4⟩
      have X4 : Hid (Ext w w4) := hJ ((X2.out.trans Ext.drew1).trans hx4)
      have HO4 := hJ (ho4.base (B' := w.heap.size) X2.out.size)
      clear ho4 hx4; clear hHeld; refine hK.out _ _ (H.out.ext X4.out) (fun hHeld => ?_)
      clear hK K; try simp only [Act.put, aP1, aP2, aP3]
      refine E_t 11 2 ?_; refine E_t 12 3 ?_; refine E_t 13 4 ?_; refine E_t 14 5 ?_; refine E_end (by kernel_rfl) (by rfl) ?_
      simp only [Exit.then]
      go_at_K
      go_wp2; (try simp only [Exit.inBlock, Exit.then]); refine bodyPost_ret (results_tmp4 rfl _ _ _) rfl ?_
      rw [HF.out]
      exact ⟨A4, c4, by simp, h41, h42, HO4.out, X4.out⟩
     ·have hq : ¬ strB (le4 (crcF (bs.take (3 + n + size)))) = strB ((bs.drop (3 + n + size)).take 4) := by rw [strB_eq]; exact hck
      have hq1 : (!((strB (le4 (crcF (bs.take (3 + n + size))))).toList == (strB ((bs.drop (3 + n + size)).take 4)).toList)) = true := by rw [strB_list, strB_list]; rw [strB_eq] at hq; simpa using hq
      clear hq; rw [hq1]
      clear hq1; have HF : Hid (openF bs = (0, [], 0, 4)) := hJ (by rw [HO3.out, if_neg hs, if_pos hck])
      clear HO3 hck; go_wp2; (try simp only [Exit.inBlock, Exit.then]); refine bodyPost_ret (results_tmp4 rfl _ _ _) rfl ?_
      exact retO_err _ HF.out X2.out
   ·have HF : Hid (openF bs = (0, [], 0, er)) := hJ (by rw [HO2.out, if_pos he])
    have hb : (er != 0) = true := by simpa using he
    clear HO2; go_enter Tryz.func137, Tryz.ntmps137
    go_wp2_with fail
    refine (length_len _ _ _ (bs.drop 3) 16777216 w HR3.out (by omega) (by omega) hlen3.symm).mono ?_
    rintro e w' ⟨rfl, rfl⟩
    rw [HD.out]
    unfold retI
    go_wp2; (try simp only [Exit.inBlock, Exit.then]); refine bodyPost_ret (results_tmp4 rfl _ _ _) rfl ?_
    exact retO_err _ HF.out (Ext.refl _)
end Go.Proofs.YtponbabbabnaeaaGreat
namespace Go.Proofs.YtponbabbabnaeaaGreat
open Go.RowKit
theorem wp_append_run {P : Program} {ops : Array Oper} {rest : List Oper} {o : Oper} {a : Act} {Q : Exit → Act → World → Prop} (w : World) (hgd : o.guard = none) (s x : Operand) (t u : TypeId)
  (ho : o.op = .call { callee := .builtin .append, args := #[s, x], argTypes := #[t, u] }) (va vx v : Value) (w' : World) (hs : a.eval s = va) (hx : a.eval x = vx) (hrun : (Builtin.append_ #[t, u] o.type #[va, vx]).run P w = .ok v w')
  (h : wpList P ops Q rest (a.put o.dst v) w') : wpList P ops Q (o :: rest) a w := by
 refine wpList_plain hgd fun K hK => ?_
 unfold Oper.wp execOp
 simp only [ho, resolve, invoke, builtin, Sem.run_bind, Sem.run_pure, Result.andThen_ok, List.map_toArray, List.map_cons, List.map_nil, hs, hx, hrun]
 exact hK _ _ h
theorem uN_int (n : Int) : ((uN n : Nat) : Int) = IntKind.u64.wrap n := by rw [IntKind.wrap_u64]; unfold uN; omega
theorem uN_lt (n : Int) : uN n < U64 := by unfold uN U64; omega
theorem numsF_snoc {xs : List Int} {k : Nat} {x : Int} (h : xs[k]? = some x) : numsF (xs.take (k + 1)) = numsF (xs.take k) ++ encU (uN x) := by
 unfold numsF; rw [List.take_add_one, h]; simp
theorem numsF_len (xs : List Int) : (numsF xs).length ≤ 11 * xs.length := by
 induction xs with
 | nil => simp [numsF]
 | cons x l ih =>
  have := encU_len10 (uN_lt x)
  unfold numsF at *
  simp only [List.flatMap_cons, List.length_append, List.length_cons]
  omega
set_option maxRecDepth 100000 in
theorem numbers_any (A : Option Addr) (c : Nat) (xs : List Int) (w : World) (h : Row w A (ints xs)) (hn : xs.length ≤ 1000) :
  Calls Tryz.prog 48 #[.slice A xs.length c] w (GivesB w (numsF xs)) := by
 have H := hJ h; clear h
 go_enter Tryz.func48, Tryz.ntmps48
 go_wp2; go_loopw [3, 8] (fun v i wr => ∃ (k : Nat) (A' : Option Addr) (c' : Nat), k ≤ xs.length ∧ i = .int .i64 k ∧ v = .slice A' (numsF (xs.take k)).length c' ∧ (numsF (xs.take k)).length ≤ c' ∧ c' ≤ maxLen ∧ Hid (Own wr w.heap.size 5 (.slice A' (numsF (xs.take k)).length c') (bytesV (numsF (xs.take k)))) ∧ Hid (Ext w wr)) (fun _ i _ => xs.length - (intOf i).toNat)
 case atStart => exact ⟨0, none, 0, Nat.zero_le _, rfl, rfl, Nat.le_refl _, Nat.zero_le _, hJ (Own.nil _ _ _), hJ (Ext.refl _)⟩
 case round =>
  obtain ⟨k, A', c', hk, rfl, rfl, h1, h2, HO, HX⟩ := hrel
  by_cases hlt : k < xs.length
  ·obtain ⟨b, off, x, hA, hc, HE⟩ := (H.out.ext HX.out).at_ hlt
   subst hA
   have hui := uN_int x
   have hl : (numsF (xs.take k)).length ≤ 1000000 := by have := numsF_len (xs.take k); rw [List.length_take] at this; omega
   go_wp2_with fail
   rw [← hui]
   refine (appendUint_any A' c' (numsF (xs.take k)) (uN x) wr HO.out.row hl (uN_lt x)).mono ?_
   rintro e w1 ⟨A1, c1, rfl, hc1, hm1, ho1, hx1⟩
   have HO1 := hJ (ho1.base (B' := w.heap.size) HX.out.size)
   have X1 := hJ (HX.out.trans hx1)
   have hsn := numsF_snoc HE.out
   rw [← hsn] at HO1 hc1 ⊢
   clear ho1 hx1 hsn hui; go_wp2; go_roundw
   case rel => exact ⟨k + 1, A1, c1, by omega, by go_num, rfl, hc1, hm1, HO1, X1⟩
   case measure => simp [intOf]; omega
  ·have hkl : xs.take k = xs := List.take_of_length_le (by omega)
   rw [hkl] at HO h1
   go_wp2; go_ret
   exact ⟨A', c', by rw [hkl]; rfl, h1, h2, HO.out, HX.out⟩
set_option maxRecDepth 100000 in
theorem appendInt_any (A : Option Addr) (c : Nat) (bs : List UInt8) (n : Int) (w : World) (h : Row w A (bytesV bs)) (hl : bs.length ≤ 1000000) (hn : Hid (I64 n)) :
  Calls Tryz.prog 47 #[.slice A bs.length c, .int .i64 n] w (GivesB w (bs ++ encU (zig n))) := by
 have H := hJ h; clear h
 go_enter Tryz.func47, Tryz.ntmps47
 go_wp2_with fail
 refine (extend_any A c bs 10 w H.out (by omega) (by omega)).mono ?_
 rintro e w1 ⟨A1, c1, rfl, hc1, hm1, ho1, hx1⟩
 go_wp2_with fail
 refine (putInt_any w.heap.size _ bs n w1 ho1 hx1.size (by omega) hn).mono ?_
 rintro e w2 ⟨v2, rfl, ho2, hg2, hs2⟩
 go_wp2; go_ret
 exact gives_b ho2 (hg2.below hx1 hx1.size (fun k hk => (ho1.lt k hk).1))
set_option maxRecDepth 100000 in
theorem grow_any (n : Nat) (w : World) (hn : n ≤ 1000000000) :
  Calls Tryz.prog 176 #[.slice none 0 0, .int .i64 (n : Int)] w fun e w' => ∃ v, e = .returned v ∧ Own w' w.heap.size 5 v [] ∧ Ext w w' := by
 by_cases h0 : n = 0
 ·subst h0
  go_enter Tryz.func176, Tryz.ntmps176
  go_wp2; go_ret
  exact ⟨_, rfl, Own.nil _ _ _, Ext.refl _⟩
 ·obtain ⟨i0, hi, hz0, hz1, hz2⟩ := info_parts info_u8
  have hap := Go.Lib.run_append_grow_zeros (P := Tryz.prog) w 29 3 29 5 i0 (.int .u8 0) .i64 .i64 Tryz.underlying29 Tryz.underlying3 hi hz0 none 0 0 [] (by simp [Builtin.firstCells]) n (by omega) (by rw [hz1]; decide) (by omega) (by omega) (by rw [hz2]; omega) (by rw [hz2]; have := nextslicecap_le (need := 0 + n) (old := 0) (by omega); omega)
  have hge := grownCap_ge w n 0 5
  have hlm := grownCap_le_maxLen w n 0 5 (by unfold maxLen; omega)
  simp only [Nat.zero_add] at hap
  have E1 : Ext w (w.drew.alloc (.cells (([] : List Value).toArray ++ Builtin.zeroCells (Value.int .u8 0).cells n ++ Builtin.zeroCells (Value.int .u8 0).cells (grownCap w n 0 5 - n)) 5)) := Ext.drew1.trans (Ext.new _ _)
  have hsl : ∀ W, (Instr.slice 29 (.slice (some ⟨w.heap.size, 0, none⟩) n (grownCap w n 0 5)) none (some (.int .i64 0)) none).run Tryz.prog W = .ok (.slice (some ⟨w.heap.size, 0, none⟩) 0 (grownCap w n 0 5)) W := fun W => bytE.slice_h _ _ _ 0 0 rfl (by omega) W
  have HO : Own (w.drew.alloc (.cells (([] : List Value).toArray ++ Builtin.zeroCells (Value.int .u8 0).cells n ++ Builtin.zeroCells (Value.int .u8 0).cells (grownCap w n 0 5 - n)) 5)) w.heap.size 5 (.slice (some ⟨w.heap.size, 0, none⟩) 0 (grownCap w n 0 5)) [] := by
   refine ⟨rfl, .inr ⟨w.heap.size, _, _, rfl, Nat.le_refl _, (by show (w.heap.push _)[w.heap.size]? = _; simp; rfl), Nat.zero_le _, hlm, ?_, by simp⟩⟩
   simp only [Array.size_append, size_zeroCells]
   have : (Value.int IntKind.u8 0).cells.size = 1 := rfl
   rw [this]; simp; omega
  have HO' := hJ HO; have E1' := hJ E1; have HAP := hJ hap
  clear HO E1 hap; generalize (w.drew.alloc (.cells (([] : List Value).toArray ++ Builtin.zeroCells (Value.int .u8 0).cells n ++ Builtin.zeroCells (Value.int .u8 0).cells (grownCap w n 0 5 - n)) 5)) = w1 at *
  generalize grownCap w n 0 5 = cap at *
  go_enter Tryz.func176, Tryz.ntmps176
  go_wp2_with (first
   | (at_builtin; refine wp_append_run w rfl (.tmp 20) (.tmp 21) 29 3 rfl _ _ _ _ (by rfl) (by rfl) HAP.out ?_))
  go_ret
  exact ⟨_, rfl, HO'.out, E1'.out⟩
structure BrM where
 A : Option Addr
 c : Nat
 bs : List UInt8
def brE : Elem BrM where
 f v := [.slice v.A v.bs.length v.c]
 k := 1
 ty := 29
 st := 162
 z := .slice none 0 0
 bytes := 24
 inn v := [(v.A, bytesV v.bs)]
 ok v := v.bs.length ≤ v.c ∧ v.c ≤ maxLen
 len _ := rfl
 one a := by intro u hu; simp only [List.mem_cons, List.not_mem_nil, or_false] at hu; rcases hu with rfl; rfl
 pos := by decide
 und := Tryz.underlying162
 info := by kernel_rfl
 zk := rfl
 small := by decide
def flat (l : List BrM) : List UInt8 := l.flatMap fun b => b.bs
theorem flat_snoc {l : List BrM} {k : Nat} {x : BrM} (h : l[k]? = some x) : flat (l.take (k + 1)) = flat (l.take k) ++ x.bs := by
 unfold flat; rw [List.take_add_one, h]; simp
theorem flat_le (l : List BrM) (k : Nat) : (flat (l.take k)).length ≤ (flat l).length := by
 have : flat l = flat (l.take k) ++ flat (l.drop k) := by unfold flat; rw [← List.flatMap_append, List.take_append_drop]
 rw [this, List.length_append]; omega
theorem br_at {w : World} {A : Option Addr} {l : List BrM} {k : Nat} (h : brE.Box w A l) (hk : k < l.length) :
  ∃ b off X cx bs, A = some ⟨b, off, none⟩ ∧ b < w.heap.size ∧ w.cell? ⟨b, off + k, none⟩ = some (.slice X bs.length cx) ∧ Hid (Row w X (bytesV bs)) ∧ bs.length ≤ cx ∧ cx ≤ maxLen ∧ Hid (l[k]? = some ⟨X, cx, bs⟩) := by
 obtain ⟨b, off, ⟨X, cx, bs⟩, h1, h2, H3, H4, H5⟩ := h.at_ hk
 refine ⟨b, off, X, cx, bs, h1, h2, ?_, hJ (H4.out.2 (X, bytesV bs) (by simp [brE])), H4.out.1.1, H4.out.1.2, H5⟩
 have := H3.out 0 (.slice X bs.length cx) rfl
 simpa [brE] using this
set_option maxRecDepth 100000 in
theorem concat_any (A : Option Addr) (c : Nat) (l : List BrM) (w : World) (h : brE.Box w A l) (hn : l.length ≤ 1000000) (hs : (flat l).length ≤ 100000000) :
  Calls Tryz.prog 125 #[.slice A l.length c] w (GivesB w (flat l)) := by
 have H := hJ h; clear h
 go_enter Tryz.func125, Tryz.ntmps125
 go_wp2; go_loopw [3, 11] (fun v i wr => ∃ (k : Nat), k ≤ l.length ∧ i = .int .i64 k ∧ v = .int .i64 ((flat (l.take k)).length : Int) ∧ w = wr) (fun _ i _ => l.length - (intOf i).toNat)
 case atStart => exact ⟨0, Nat.zero_le _, rfl, by first | rfl | trivial, by first | rfl | trivial⟩
 case round =>
  obtain ⟨k, hk, rfl, rfl, rfl⟩ := hrel
  by_cases hlt : k < l.length
  ·obtain ⟨b, off, X, cx, bs, rfl, hb, c0, HR, hc1, hc2, HE⟩ := br_at H.out hlt
   have hsn : flat (l.take (k + 1)) = flat (l.take k) ++ bs := flat_snoc HE.out
   have hfl := flat_le l (k + 1)
   rw [hsn, List.length_append] at hfl
   have hw1 : IntKind.i64.wrap (((flat (l.take k)).length : Int) + (bs.length : Int)) = ((flat (l.take k)).length : Int) + (bs.length : Int) := IntWalk.i64_in _ (by omega)
   have hd : decide (((flat (l.take k)).length : Int) + (bs.length : Int) < 0) = false := by simp; omega
   go_wp2; go_roundw
   case rel => exact ⟨k + 1, by omega, by go_num, by rw [hsn, List.length_append]; simp, by first | rfl | trivial⟩
   case measure => simp [intOf]; omega
  ·have hkl : l.take k = l := List.take_of_length_le (by omega)
   rw [hkl]
   go_wp2_with fail
   refine (grow_any (flat l).length w (by omega)).mono ?_
   rintro e w1 ⟨v1, rfl, ho1, hx1⟩
   go_wp2; obtain ⟨wo, hwo⟩ : ∃ x, x = w1 := ⟨w1, rfl⟩
   go_loopw [6, 27] (fun v i wr => ∃ (k : Nat), k ≤ l.length ∧ i = .int .i64 k ∧ Hid (Own wr w.heap.size 5 v (bytesV (flat (l.take k)))) ∧ Hid (Ext w wr)) (fun _ i _ => l.length - (intOf i).toNat)
   case atStart => exact ⟨0, Nat.zero_le _, rfl, hJ ho1, hJ hx1⟩
   case round =>
    obtain ⟨k2, hk2, rfl, HO, HX⟩ := hrel
    by_cases hlt2 : k2 < l.length
    ·obtain ⟨b, off, X, cx, bs, rfl, hb, c0, HR, hc1, hc2, HE⟩ := br_at (H.out.ext HX.out) hlt2
     have hsn : flat (l.take (k2 + 1)) = flat (l.take k2) ++ bs := flat_snoc HE.out
     have hfl := flat_le l (k2 + 1)
     rw [hsn, List.length_append] at hfl
     have HSN := hJ hsn
     clear hsn; go_wp2_with (first
      | (at_builtin; refine push_row rfl (.tmp 31) (.tmp 32) _ 5 _ 1 rfl Tryz.underlying29 info_u8 rfl (by decide) wr w.heap.size _ _ (by rfl) X bs.length cx (bytesV bs) (by rfl) (by rw [bytesV_len]) HR.out (bytesV_one _) HO.out (by rw [bytesV_len]; omega) HX.out.size ?_; intro v3 w3 ho3 hg3 hs3))
     go_roundw
     case rel => exact ⟨k2 + 1, by omega, by go_num, hJ (by rw [HSN.out, bytesV_app]; exact ho3), hJ (hg3.below HX.out HX.out.size (fun k hk => (HO.out.lt k hk).1))⟩
     case measure => simp [intOf]; omega
    ·have hkl2 : l.take k2 = l := List.take_of_length_le (by omega)
     rw [hkl2] at HO
     go_wp2; go_ret
     exact gives_b HO.out HX.out
end Go.Proofs.YtponbabbabnaeaaGreat
namespace Go.Proofs.YtponbabbabnaeaaGreat
open Go.RowKit
theorem step_push_e {α : Type} {ops : Array Oper} {o : Oper} {a : Act} {K : Act → World → Prop} {Q : Exit → Act → World → Prop} {X : Prop} (E : Elem α) (hgd : o.guard = none) (s x : Operand)
  (ho : o.op = .call { callee := .builtin .append, args := #[s, x], argTypes := #[E.st, E.st] })
  (W : World) (B : Nat) (v : Value) (l : List α) (hs : a.eval s = v) (ad : Addr) (m c : Nat) (news : List α) (hx : a.eval x = .slice (some ad) m c) (hm : m = news.length) (hr : Row W (some ad) (E.cells news)) (hp : 0 < m)
  (hob : E.OB W B v l) (hgood : ∀ q ∈ news, E.ok q ∧ ∀ r ∈ E.inn q, Row W r.1 r.2 ∧ Apt v r) (hl : l.length + m ≤ 20000000) (hB : B ≤ W.heap.size)
  (h : ∀ v' w', E.OB w' B v' (l ++ news) → Grew W w' v → Stems W v v' → K (a.put o.dst v') w') : if Region.wanted o (yielded ops a.tmps) = true then Oper.wp Tryz.prog o a W K Q else X := by
 have hw : Region.wanted o (yielded ops a.tmps) = true := by simp [Region.wanted, hgd]
 rw [if_pos hw]
 exact wp_push_e E s x ho W B v l hs ad m c news hx hm hr hp hob hgood hl hB h
theorem grew_cell {a b : World} {v : Value} (g : Grew a b v) {p i : Nat} (hp : p < a.heap.size) (hv : ∀ k, v.ownBlock = some k → k ≠ p) : b.cell? ⟨p, i, none⟩ = a.cell? ⟨p, i, none⟩ :=
 World.cell?_of_block (a := ⟨p, i, none⟩) (g.block p hp (fun e => hv p e.symm rfl))
theorem ints3_row (x y z : Int) (w : World) : Row (w.alloc (.cells #[.int .i64 x, .int .i64 y, .int .i64 z] 3)) (some ⟨w.heap.size, 0, none⟩) (ints [x, y, z]) := by
 intro _
 refine ⟨w.heap.size, 0, rfl, by simp, fun j q hj => ?_⟩
 simp only [ints, List.map_cons, List.map_nil] at hj
 match j, hj with
 | 0, hj => simpa using hj
 | 1, hj => simpa using hj
 | 2, hj => simpa using hj
theorem ints1_row (x : Int) (w : World) : Row (w.alloc (.cells #[.int .i64 x] 3)) (some ⟨w.heap.size, 0, none⟩) (ints [x]) := by
 intro _
 refine ⟨w.heap.size, 0, rfl, by simp, fun j q hj => ?_⟩
 simp only [ints, List.map_cons, List.map_nil] at hj
 match j, hj with
 | 0, hj => simpa using hj
theorem ints2_row (x y : Int) (w : World) : Row (w.alloc (.cells #[.int .i64 x, .int .i64 y] 3)) (some ⟨w.heap.size, 0, none⟩) (ints [x, y]) := by
 intro _
 refine ⟨w.heap.size, 0, rfl, by simp, fun j q hj => ?_⟩
 simp only [ints, List.map_cons, List.map_nil] at hj
 match j, hj with
 | 0, hj => simpa using hj
 | 1, hj => simpa using hj
theorem rowd {w : World} {n m off : Nat} {xs : List Value} (h : Row w (some ⟨m, off, none⟩) xs) (hn : n = m) : Row w.drew (some ⟨n, off, none⟩) xs := by subst hn; exact h.ext Ext.drew1
theorem br2_row (a b : BrM) (w : World) : Row (w.alloc (.cells #[.slice a.A a.bs.length a.c, .slice b.A b.bs.length b.c] 29)) (some ⟨w.heap.size, 0, none⟩) (brE.cells [a, b]) := by
 intro _
 refine ⟨w.heap.size, 0, rfl, by simp, fun j q hj => ?_⟩
 simp only [Elem.cells, brE, List.flatMap_cons, List.flatMap_nil, List.append_nil, List.cons_append, List.nil_append] at hj
 match j, hj with
 | 0, hj => simpa using hj
 | 1, hj => simpa using hj
theorem br2_good {w : World} {v : Value} {A1 A2 : Option Addr} {c1 c2 : Nat} {b1 b2 : List UInt8} (h1 : Row w A1 (bytesV b1)) (h2 : Row w A2 (bytesV b2)) (k1 : b1.length ≤ c1) (k1' : c1 ≤ maxLen) (k2 : b2.length ≤ c2) (k2' : c2 ≤ maxLen) (a1 : Apt v (A1, bytesV b1)) (a2 : Apt v (A2, bytesV b2)) :
  ∀ q ∈ [(⟨A1, c1, b1⟩ : BrM), ⟨A2, c2, b2⟩], brE.ok q ∧ ∀ r ∈ brE.inn q, Row w r.1 r.2 ∧ Apt v r := by
 intro q hq
 simp only [List.mem_cons, List.not_mem_nil, or_false] at hq
 rcases hq with rfl | rfl
 ·exact ⟨⟨k1, k1'⟩, fun r hr => by simp only [brE, List.mem_cons, List.not_mem_nil, or_false] at hr; subst hr; exact ⟨h1, a1⟩⟩
 ·exact ⟨⟨k2, k2'⟩, fun r hr => by simp only [brE, List.mem_cons, List.not_mem_nil, or_false] at hr; subst hr; exact ⟨h2, a2⟩⟩
theorem Elem.own_new {α : Type} (E : Elem α) (w : World) (l : List α) : E.Own (w.alloc (.cells (E.cells l).toArray E.ty)) w.heap.size (.slice (some ⟨w.heap.size, 0, none⟩) l.length l.length) l ∨ maxLen < l.length := by
 rcases Nat.lt_or_ge maxLen l.length with h | h
 ·exact .inr h
 ·exact .inl ⟨by rw [E.cells_len], .inr ⟨w.heap.size, l.length, (E.cells l).toArray, rfl, Nat.le_refl _, (by show (w.heap.push _)[w.heap.size]? = _; simp), Nat.le_refl _, h, by simp [E.cells_len], by rw [List.take_of_length_le (by rw [E.cells_len]; exact Nat.le_refl _)]⟩⟩
theorem flat_app (a b : List BrM) : flat (a ++ b) = flat a ++ flat b := by simp [flat]
theorem ents_snoc {l : List Ent} {k : Nat} {e : Ent} (h : l[k]? = some e) : (l.take (k + 1)).flatMap entF = (l.take k).flatMap entF ++ entF e := by rw [List.take_add_one, h]; simp
theorem entF_len {e : Ent} {m : Nat} (h : e.p.length ≤ m) (hm : m ≤ 100000000) : (entF e).length ≤ m + 44 := by
 have h1 := numsF_len [e.v, e.o, e.q]
 have h2 := encU_len10 (v := e.p.length) (by unfold U64; omega)
 unfold entF strF
 simp only [List.length_append, List.length_cons, List.length_nil] at *
 omega
theorem ents_len {l : List Ent} (h : ∀ e ∈ l, e.p.length ≤ 6000) : (l.flatMap entF).length ≤ 6044 * l.length := by
 induction l with
 | nil => simp
 | cons e l ih =>
  have h1 := entF_len (h e (by simp)) (by omega)
  have h2 := ih (fun e he => h e (by simp [he]))
  simp only [List.flatMap_cons, List.length_append, List.length_cons]
  omega
set_option maxRecDepth 100000 in
set_option maxHeartbeats 1000000 in
theorem appendEntries_any (A Al : Option Addr) (c cl : Nat) (body : List UInt8) (log : List Ent) (w : World) (hb : Row w A (bytesV body)) (hbl : body.length ≤ 1000) (hbc : body.length ≤ c ∧ c ≤ maxLen) (hr : Row w Al (entE.cells log)) (hn : log.length ≤ 2000) (hp : ∀ e ∈ log, e.p.length ≤ 6000) :
  Calls Tryz.prog 52 #[.slice A body.length c, .slice Al log.length cl] w (GivesB w (body ++ entsF log)) := by
 have H := hJ hb; have HR := hJ hr; have HP := hJ hp
 obtain ⟨hbc1, hbc2⟩ := hbc
 clear hb hr hp; have E0 : Hid (Ext w (w.alloc (.cells #[.int .i64 (log.length : Int)] 3))) := hJ (Ext.new _ _)
 go_enter Tryz.func52, Tryz.ntmps52
 go_wp2_with fail
 refine (numbers_any _ 1 [(log.length : Int)] _ (ints1_row _ _) (by simp)).mono ?_
 rintro e w1 ⟨A1, c1, rfl, h11, h12, ho1, hx1⟩
 have X1 := hJ (E0.out.trans hx1)
 have HR1 := hJ ho1.row
 clear ho1 hx1; have HB2 : Hid (brE.OB (w1.alloc (.cells #[.slice A body.length c, .slice A1 (numsF [(log.length : Int)]).length c1] 29)) w.heap.size (.slice (some ⟨w1.heap.size, 0, none⟩) 2 2) [⟨A, c, body⟩, ⟨A1, c1, numsF [(log.length : Int)]⟩]) := hJ ⟨((brE.own_new w1 [⟨A, c, body⟩, ⟨A1, c1, numsF [(log.length : Int)]⟩]).resolve_right (by unfold maxLen; simp)).base X1.out.size, br2_good (H.out.ext (X1.out.trans (Ext.new _ _))) (HR1.out.ext (Ext.new _ _)) hbc1 hbc2 h11 h12 (fun p q hne hp hq => by cases hq; have := row_lt (H.out.ext X1.out) hne hp; simp at this ⊢; omega) (fun p q hne hp hq => by cases hq; have := row_lt HR1.out hne hp; simp at this ⊢; omega)⟩
 have X2 : Hid (Ext w (w1.alloc (.cells #[.slice A body.length c, .slice A1 (numsF [(log.length : Int)]).length c1] 29))) := hJ (X1.out.trans (Ext.new _ _))
 go_wp2; go_loopw [5, 16] (fun v i wr => ∃ (k : Nat) (l : List BrM) (v' : Value), v' = v ∧ k ≤ log.length ∧ i = .int .i64 k ∧ Hid (flat l = body ++ numsF [(log.length : Int)] ++ (log.take k).flatMap entF) ∧ Hid (l.length = 2 + 2 * k) ∧ Hid (brE.OB wr w.heap.size v l) ∧ Hid (Ext w wr)) (fun _ i _ => log.length - (intOf i).toNat)
 case atStart => exact ⟨0, _, _, rfl, Nat.zero_le _, rfl, hJ (by simp [flat]), hJ rfl, HB2, X2⟩
 case round =>
  obtain ⟨k, l, v, rfl, hk, rfl, HF, HLL, HO, HX⟩ := hrel
  by_cases hlt : k < log.length
  ·obtain ⟨b, off, e, rfl, hb, c0, c1', c2', c3', HE⟩ := ents_at (HR.out.ext HX.out) hlt
   have hep : e.p.length ≤ 100000000 := by have := HP.out e (List.mem_of_getElem? HE.out); omega
   go_wp2; refine E_begin 15 (fun w' => w'.cell? ⟨wr.heap.size, 0, none⟩ = some (.int .i64 e.v) ∧ w'.cell? ⟨wr.heap.size, 1, none⟩ = some (.int .i64 e.o) ∧ w'.cell? ⟨wr.heap.size, 2, none⟩ = some (.int .i64 e.q) ∧ w'.cell? ⟨wr.heap.size, 3, none⟩ = some (.string (strB e.p))) (by kernel_rfl) ⟨by simp, by simp, by simp, by simp⟩ (fun hHeld => ?_)
   refine E_t 0 20 ?_; refine E_t 1 21 ?_; refine E_t 2 22 ?_; refine E_t 3 23 ?_; refine E_t 4 24 ?_; refine E_t 5 25 ?_; refine E_t 6 26 ?_; refine E_t 9 29 ?_; refine E_t 10 30 ?_; refine E_ready [7] (by kernel_rfl) (by simp) ?_
   refine AllE.cons (o := ⟨some 27, _, _, _, _, _⟩) rfl (fun K hK => ?_) AllE.nil
   go_simp; clear hHeld; refine hK.out _ _ ⟨by simp, by simp, by simp, by simp⟩ (fun hHeld => ?_)
   clear hK K; try simp only [Act.put, aP1, aP2, aP3]
   refine E_ready [8] (by kernel_rfl) (by simp) ?_
   refine AllE.cons (o := ⟨some 28, _, _, _, _, _⟩) rfl (fun K hK => ?_) AllE.nil
   go_simp; go_at_call 48; refine (numbers_any _ 3 [e.v, e.o, e.q] _ (by exact rowd (ints3_row _ _ _ _) (by simp)) (by simp)).mono ?_
   rintro e1 w1 ⟨A1, c1, rfl, h11, h12, ho1, hx1⟩
   have X1 : Hid (Ext (wr.alloc (.cells #[.int .i64 e.v, .int .i64 e.o, .int .i64 e.q, .string (strB e.p)] 66)) w1) := hJ (((Ext.new _ _).trans Ext.drew1).trans hx1)
   have HR1 : Hid (Row w1 A1 (bytesV (numsF [e.v, e.o, e.q]))) := hJ ho1.row
   have HN1 : Hid (∀ p, bytesV (numsF [e.v, e.o, e.q]) ≠ [] → A1 = some p → wr.heap.size ≤ p.block) := hJ (fun p _ hp => by subst hp; have := (ho1.lt p.block rfl).1; simp at this; omega)
   clear ho1 hx1; have r0_w1 : w1.cell? ⟨wr.heap.size, 0, none⟩ = some (.int .i64 e.v) := by rw [X1.out.cell_new]; rfl
   have r1_w1 : w1.cell? ⟨wr.heap.size, 1, none⟩ = some (.int .i64 e.o) := by rw [X1.out.cell_new]; rfl
   have r2_w1 : w1.cell? ⟨wr.heap.size, 2, none⟩ = some (.int .i64 e.q) := by rw [X1.out.cell_new]; rfl
   have r3_w1 : w1.cell? ⟨wr.heap.size, 3, none⟩ = some (.string (strB e.p)) := by rw [X1.out.cell_new]; rfl
   clear hHeld; refine hK.out _ _ ⟨r0_w1, r1_w1, r2_w1, r3_w1⟩ (fun hHeld => ?_)
   clear hK K; try simp only [Act.put, aP1, aP2, aP3]
   refine E_ready [11] (by kernel_rfl) (by simp) ?_
   refine AllE.cons (o := ⟨some 31, _, _, _, _, _⟩) rfl (fun K hK => ?_) AllE.nil
   go_simp; go_at_call 120; refine (appendString_any none 0 [] e.p _ (Row.nil _ _) (by simp) hep).mono ?_
   rintro e2 w2 ⟨A2, c2, rfl, h21, h22, ho2, hx2⟩
   have X2 : Hid (Ext (wr.alloc (.cells #[.int .i64 e.v, .int .i64 e.o, .int .i64 e.q, .string (strB e.p)] 66)) w2) := hJ (X1.out.trans hx2)
   have HR12 : Hid (Row w2 A1 (bytesV (numsF [e.v, e.o, e.q]))) := hJ (HR1.out.ext hx2)
   have HR2 : Hid (Row w2 A2 (bytesV (strF e.p))) := hJ ho2.row
   have HN2 : Hid (∀ p, bytesV (strF e.p) ≠ [] → A2 = some p → wr.heap.size ≤ p.block) := hJ (fun p _ hp => by subst hp; have := (ho2.lt p.block rfl).1; have := X1.out.size; simp at this; omega)
   clear ho2 hx2; have r0_w2 : w2.cell? ⟨wr.heap.size, 0, none⟩ = some (.int .i64 e.v) := by rw [X2.out.cell_new]; rfl
   have r1_w2 : w2.cell? ⟨wr.heap.size, 1, none⟩ = some (.int .i64 e.o) := by rw [X2.out.cell_new]; rfl
   have r2_w2 : w2.cell? ⟨wr.heap.size, 2, none⟩ = some (.int .i64 e.q) := by rw [X2.out.cell_new]; rfl
   have r3_w2 : w2.cell? ⟨wr.heap.size, 3, none⟩ = some (.string (strB e.p)) := by rw [X2.out.cell_new]; rfl
   clear hHeld; refine hK.out _ _ ⟨r0_w2, r1_w2, r2_w2, r3_w2⟩ (fun hHeld => ?_)
   clear hK K; try simp only [Act.put, aP1, aP2, aP3]
   refine E_ready [12] (by kernel_rfl) (by simp) ?_
   refine AllE.cons (o := ⟨some 32, _, _, _, _, _⟩) rfl (fun K hK => ?_) AllE.nil
   go_simp; have X3 : Hid (Ext (wr.alloc (.cells #[.int .i64 e.v, .int .i64 e.o, .int .i64 e.q, .string (strB e.p)] 66)) (w2.alloc (.cells #[.slice A1 (numsF [e.v, e.o, e.q]).length c1, .slice A2 (strF e.p).length c2] 29))) := hJ (X2.out.trans (Ext.new _ _))
   have HRB : Hid (Row (w2.alloc (.cells #[.slice A1 (numsF [e.v, e.o, e.q]).length c1, .slice A2 (strF e.p).length c2] 29)) (some ⟨w2.heap.size, 0, none⟩) (brE.cells [⟨A1, c1, numsF [e.v, e.o, e.q]⟩, ⟨A2, c2, strF e.p⟩])) := hJ (br2_row _ _ _)
   have HO3 := hJ (HO.out.ext ((Ext.new wr _).trans X3.out))
   have HG3 : Hid (∀ q ∈ [(⟨A1, c1, numsF [e.v, e.o, e.q]⟩ : BrM), ⟨A2, c2, strF e.p⟩], brE.ok q ∧ ∀ r ∈ brE.inn q, Row (w2.alloc (.cells #[.slice A1 (numsF [e.v, e.o, e.q]).length c1, .slice A2 (strF e.p).length c2] 29)) r.1 r.2 ∧ Apt v r) := hJ (br2_good (HR12.out.ext (Ext.new _ _)) (HR2.out.ext (Ext.new _ _)) h11 h12 h21 h22 (apt_new (E := brE) (l := l) HN1.out HO.out.1) (apt_new (E := brE) (l := l) HN2.out HO.out.1))
   generalize w2.alloc (.cells #[.slice A1 (numsF [e.v, e.o, e.q]).length c1, .slice A2 (strF e.p).length c2] 29) = w3 at *
   have r0_w3 : w3.cell? ⟨wr.heap.size, 0, none⟩ = some (.int .i64 e.v) := by rw [X3.out.cell_new]; rfl
   have r1_w3 : w3.cell? ⟨wr.heap.size, 1, none⟩ = some (.int .i64 e.o) := by rw [X3.out.cell_new]; rfl
   have r2_w3 : w3.cell? ⟨wr.heap.size, 2, none⟩ = some (.int .i64 e.q) := by rw [X3.out.cell_new]; rfl
   have r3_w3 : w3.cell? ⟨wr.heap.size, 3, none⟩ = some (.string (strB e.p)) := by rw [X3.out.cell_new]; rfl
   clear hHeld; refine hK.out _ _ ⟨r0_w3, r1_w3, r2_w3, r3_w3⟩ (fun hHeld => ?_)
   clear hK K; try simp only [Act.put, aP1, aP2, aP3]
   refine E_ready [13] (by kernel_rfl) (by simp) ?_
   refine AllE.cons (o := ⟨some 33, _, _, _, _, _⟩) rfl (fun K hK => ?_) AllE.nil
   refine step_push_e brE rfl (.tmp 20) (.tmp 32) rfl w3 w.heap.size v l (by rfl) _ 2 2 [⟨A1, c1, numsF [e.v, e.o, e.q]⟩, ⟨A2, c2, strF e.p⟩] (by rfl) rfl HRB.out (by decide) HO3.out HG3.out (by have := HLL.out; omega) (by have := X3.out.size; have := HX.out.size; simp at *; omega) ?_
   intro v4 w4 ho4 hg4 hs4
   have HO4 := hJ ho4
   have X4 : Hid (Ext w w4) := hJ (hg4.below (HX.out.trans ((Ext.new wr _).trans X3.out)) (by have := X3.out.size; have := HX.out.size; simp at *; omega) (fun k hk => (HO.out.1.lt k hk).1))
   have Y4 : Hid (∀ i, w4.cell? ⟨wr.heap.size, i, none⟩ = w3.cell? ⟨wr.heap.size, i, none⟩) := hJ (fun i => grew_cell hg4 (by have := X3.out.size; simp at this; omega) (fun k hk => by have := (HO.out.1.lt k hk).2; omega))
   have r0_w4 : w4.cell? ⟨wr.heap.size, 0, none⟩ = some (.int .i64 e.v) := (Y4.out 0).trans r0_w3
   have r1_w4 : w4.cell? ⟨wr.heap.size, 1, none⟩ = some (.int .i64 e.o) := (Y4.out 1).trans r1_w3
   have r2_w4 : w4.cell? ⟨wr.heap.size, 2, none⟩ = some (.int .i64 e.q) := (Y4.out 2).trans r2_w3
   have r3_w4 : w4.cell? ⟨wr.heap.size, 3, none⟩ = some (.string (strB e.p)) := (Y4.out 3).trans r3_w3
   clear ho4 hg4 hs4; clear hHeld; refine hK.out _ _ ⟨r0_w4, r1_w4, r2_w4, r3_w4⟩ (fun hHeld => ?_)
   clear hK K; try simp only [Act.put, aP1, aP2, aP3]
   refine E_t 14 5 ?_; refine E_end (by kernel_rfl) (by rfl) ?_
   go_wp2; go_roundw
   case rel => exact ⟨k + 1, _, _, rfl, by omega, by go_num, hJ (by rw [flat_app, HF.out, ents_snoc HE.out]; simp [flat, entF]), hJ (by have := HLL.out; simp; omega), HO4, X4⟩
   case measure => simp [intOf]; omega
  ·have hkl : log.take k = log := List.take_of_length_le (by omega)
   rw [hkl] at HF
   have hfl : Hid ((flat l).length ≤ 100000000) := hJ (by
    rw [HF.out]
    have h1 := numsF_len [(log.length : Int)]
    have h2 := ents_len HP.out
    simp only [List.length_append, List.length_cons, List.length_nil] at *
    omega)
   obtain ⟨A2, c2, rfl, h21, h22, HBX⟩ : ∃ A c', v = .slice A l.length c' ∧ l.length ≤ c' ∧ c' ≤ maxLen ∧ Hid (brE.Box wr A l) := by
    obtain ⟨A, c', h1, h2, h3, h4⟩ := HO.out.slice
    exact ⟨A, c', h1, h2, h3, hJ h4⟩
   go_wp2_with fail
   refine (concat_any A2 c2 l wr HBX.out (by have := HLL.out; omega) hfl.out).mono ?_
   rintro e w2 ⟨A3, c3, rfl, h31, h32, ho3, hx3⟩
   go_wp2; go_ret
   have hf : flat l = body ++ entsF log := by rw [HF.out]; unfold entsF; rw [List.append_assoc]
   rw [← hf]
   exact ⟨A3, c3, rfl, h31, h32, ho3.base HX.out.size, HX.out.trans hx3⟩
end Go.Proofs.YtponbabbabnaeaaGreat
