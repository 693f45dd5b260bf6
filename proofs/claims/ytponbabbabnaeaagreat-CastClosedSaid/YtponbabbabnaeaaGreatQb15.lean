/- Part 15 of the proof: contracts of functions that the statement reaches. Conditions: as each theorem says. -/
import Derived.Shelf.Sort.Plain
import Derived.Test.YtponbabbabnaeaaGreatProg
import Derived.Sort.OwnSortedInts
import Derived.Test.YtponbabbabnaeaaGreatQb09
import Derived.Test.YtponbabbabnaeaaGreatQb01
import Derived.Test.YtponbabbabnaeaaGreatQb14
namespace Go.Proofs
open Go.Shelf
def Tryz.lays189_ren : Go.Shelf.Ren := ⟨fun | 189 => 170 | 125 => 201 | 257 => 200 | 128 => 221 | 129 => 222 | 294 => 212 | 295 => 213 | 296 => 214 | 297 => 215 | 298 => 216 | 299 => 217 | 216 => 218 | 300 => 219 | 301 => 220 | 328 => 226 | 329 => 227 | 330 => 228 | 331 => 229 | 332 => 230 | 215 => 231 | 343 => 234 | n => n, fun | 28 => 44 | 3 => 3 | 46 => 61 | 0 => 0 | 51 => 202 | 53 => 146 | 4 => 4 | 183 => 231 | 182 => 230 | 131 => 156 | 5 => 5 | 9 => 9 | 218 => 239 | 222 => 243 | 228 => 247 | 229 => 182 | n => n, fun | n => n⟩
theorem Tryz.lays189 : Go.Proofs.Lays.n189 Tryz.prog Tryz.lays189_ren := {
 mixed := by kernel_rfl
 f125 := Tryz.func201.trans (congrArg some (by kernel_rfl))
 f128 := Tryz.func221.trans (congrArg some (by kernel_rfl))
 f129 := Tryz.func222.trans (congrArg some (by kernel_rfl))
 f189 := Tryz.func170.trans (congrArg some (by kernel_rfl))
 f215 := Tryz.func231.trans (congrArg some (by kernel_rfl))
 f216 := Tryz.func218.trans (congrArg some (by kernel_rfl))
 f257 := Tryz.func200.trans (congrArg some (by kernel_rfl))
 f294 := Tryz.func212.trans (congrArg some (by kernel_rfl))
 f295 := Tryz.func213.trans (congrArg some (by kernel_rfl))
 f296 := Tryz.func214.trans (congrArg some (by kernel_rfl))
 f297 := Tryz.func215.trans (congrArg some (by kernel_rfl))
 f298 := Tryz.func216.trans (congrArg some (by kernel_rfl))
 f299 := Tryz.func217.trans (congrArg some (by kernel_rfl))
 f300 := Tryz.func219.trans (congrArg some (by kernel_rfl))
 f301 := Tryz.func220.trans (congrArg some (by kernel_rfl))
 f328 := Tryz.func226.trans (congrArg some (by kernel_rfl))
 f329 := Tryz.func227.trans (congrArg some (by kernel_rfl))
 f330 := Tryz.func228.trans (congrArg some (by kernel_rfl))
 f331 := Tryz.func229.trans (congrArg some (by kernel_rfl))
 f332 := Tryz.func230.trans (congrArg some (by kernel_rfl))
 f343 := Tryz.func234.trans (congrArg some (by kernel_rfl))
 t0 := Tryz.underlying0
 a0 := Tryz.isAgg0
 z0 := Tryz.sizeOf0
 v0 := Tryz.zeroValue0
 t3 := Tryz.underlying3
 a3 := Tryz.isAgg3
 z3 := Tryz.sizeOf3
 v3 := Tryz.zeroValue3
 t4 := Tryz.underlying4
 a4 := Tryz.isAgg4
 z4 := Tryz.sizeOf4
 v4 := Tryz.zeroValue4
 t5 := Tryz.underlying5
 a5 := Tryz.isAgg5
 z5 := Tryz.sizeOf5
 v5 := Tryz.zeroValue5
 t9 := Tryz.underlying9
 a9 := Tryz.isAgg9
 z9 := Tryz.sizeOf9
 v9 := Tryz.zeroValue9
 t28 := Tryz.underlying44
 a28 := Tryz.isAgg44
 z28 := Tryz.sizeOf44
 v28 := Tryz.zeroValue44
 t46 := Tryz.underlying61
 a46 := Tryz.isAgg61
 z46 := Tryz.sizeOf61
 v46 := Tryz.zeroValue61
 t51 := Tryz.underlying202
 a51 := Tryz.isAgg202
 z51 := Tryz.sizeOf202
 v51 := Tryz.zeroValue202
 t53 := Tryz.underlying146
 a53 := Tryz.isAgg146
 z53 := Tryz.sizeOf146
 v53 := Tryz.zeroValue146
 t131 := Tryz.underlying156
 a131 := Tryz.isAgg156
 z131 := Tryz.sizeOf156
 v131 := Tryz.zeroValue156
 t182 := Tryz.underlying230
 a182 := Tryz.isAgg230
 z182 := Tryz.sizeOf230
 v182 := Tryz.zeroValue230
 t183 := Tryz.underlying231
 a183 := Tryz.isAgg231
 z183 := Tryz.sizeOf231
 v183 := Tryz.zeroValue231
 t218 := Tryz.underlying239
 a218 := Tryz.isAgg239
 z218 := Tryz.sizeOf239
 v218 := Tryz.zeroValue239
 t222 := Tryz.underlying243
 a222 := Tryz.isAgg243
 z222 := Tryz.sizeOf243
 v222 := Tryz.zeroValue243
 t228 := Tryz.underlying247
 a228 := Tryz.isAgg247
 z228 := Tryz.sizeOf247
 v228 := Tryz.zeroValue247
 t229 := Tryz.underlying182
 a229 := Tryz.isAgg182
 z229 := Tryz.sizeOf182
 v229 := Tryz.zeroValue182 }
end Go.Proofs
namespace Go.Proofs.YtponbabbabnaeaaGreat
open Go.RowKit Go.Sort
theorem insI_perm (x : Int) (l : List Int) : (insI x l).Perm (x :: l) := by
 induction l with
 | nil => exact List.Perm.refl _
 | cons y l ih =>
  unfold insI
  split
  ·exact List.Perm.refl _
  ·exact (List.Perm.cons y ih).trans (List.Perm.swap x y l)
theorem sortI_perm (l : List Int) : (sortI l).Perm l := by
 induction l with
 | nil => exact List.Perm.refl _
 | cons x l ih => exact (insI_perm x _).trans (List.Perm.cons x ih)
theorem insI_sorted (x : Int) (l : List Int) (h : l.Pairwise (· ≤ ·)) : (insI x l).Pairwise (· ≤ ·) := by
 induction l with
 | nil => exact List.pairwise_singleton _ _
 | cons y l ih =>
  unfold insI
  rw [List.pairwise_cons] at h
  split
  ·next hxy =>
   rw [List.pairwise_cons, List.pairwise_cons]
   refine ⟨fun z hz => ?_, h⟩
   rcases List.mem_cons.1 hz with rfl | hz
   ·exact hxy
   ·exact Int.le_trans hxy (h.1 z hz)
  ·next hxy =>
   rw [List.pairwise_cons]
   refine ⟨fun z hz => ?_, ih h.2⟩
   rcases List.mem_cons.1 ((insI_perm x l).mem_iff.1 hz) with rfl | hz
   ·omega
   ·exact h.1 z hz
theorem sortI_sorted (l : List Int) : (sortI l).Pairwise (· ≤ ·) := by
 induction l with
 | nil => exact List.Pairwise.nil
 | cons x l ih => exact insI_sorted x _ ih
theorem sorted_unique : ∀ (a b : List Int), a.Perm b → a.Pairwise (· ≤ ·) → b.Pairwise (· ≤ ·) → a = b := by
 intro a
 induction a with
 | nil => intro b h _ _; exact h.nil_eq
 | cons x a ih =>
  intro b h ha hb
  match b, h, hb with
  | [], h, _ => exact absurd h.length_eq (by simp)
  | y :: b, h, hb =>
   rw [List.pairwise_cons] at ha hb
   have hxy : x = y := by
    have h1 : x ∈ y :: b := h.mem_iff.1 (List.mem_cons_self ..)
    have h2 : y ∈ x :: a := h.mem_iff.2 (List.mem_cons_self ..)
    rcases List.mem_cons.1 h1 with h1 | h1
    ·exact h1
    ·rcases List.mem_cons.1 h2 with h2 | h2
     ·exact h2.symm
     ·have := hb.1 x h1; have := ha.1 y h2; omega
   subst hxy
   rw [ih b ((List.perm_cons x).1 h) ha.2 hb.2]
theorem sortI_eq (l : List Int) : l.mergeSort (fun x y => decide (x ≤ y)) = sortI l := by
 refine sorted_unique _ _ ((List.mergeSort_perm l _).trans (sortI_perm l).symm) ?_ (sortI_sorted l)
 have := List.pairwise_mergeSort (le := fun x y : Int => decide (x ≤ y)) (fun a b c h1 h2 => by simp at *; omega) (fun a b => by simp; omega) l
 exact this.imp (fun h => by simpa using h)
theorem sortI_len (l : List Int) : (sortI l).length = l.length := (sortI_perm l).length_eq
theorem sort_any (g cap B : Nat) (zs : List Int) (w : World) (ho : Own w B 3 (.slice (some ⟨g, 0, none⟩) zs.length cap) (ints zs)) (hl : zs.length ≤ 1000000) :
  Calls Tryz.prog 170 #[.slice (some ⟨g, 0, none⟩) zs.length cap] w fun e w' => e = .returned (.tuple #[]) ∧ Own w' B 3 (.slice (some ⟨g, 0, none⟩) zs.length cap) (ints (sortI zs)) ∧ Grew w w' (.slice (some ⟨g, 0, none⟩) zs.length cap) := by
 obtain ⟨h0, h2⟩ := ho
 rcases h2 with ⟨h2, _⟩ | ⟨g', cap', cur, hv, h3, hh, h4, h5, h6, h7⟩
 ·cases h2
 ·simp only [Value.slice.injEq, Option.some.injEq, Addr.mk.injEq, and_true, ints, List.length_map] at hv
  obtain ⟨rfl, _, rfl⟩ := hv
  have hil : (ints zs).length = zs.length := by simp [ints]
  rw [hil] at h4 h7
  have hc := Any.slices_Sort_int Tryz.lays189 g 0 cap zs w (holds_of_blockI hh (by rw [Nat.mul_one] at h7; exact h7)) (Array.getElem?_eq_some_iff.1 hh).1 (by omega)
  refine Calls.mono hc ?_
  rintro e w' ⟨rfl, n, os, rfl⟩
  rw [sortI_eq]
  refine ⟨rfl, ?_, grownBy_sortedI _⟩
  have := ownsRow_sortedI (w := w) (base := B) (g := g) (cap := cap) (n := n) (os := os) (ss := zs) (ts := sortI zs) (sortI_len zs) h3 hh (by simpa using h4) h5 (by simpa using h6)
  unfold Own
  have e1 : (ints (sortI zs)).length = zs.length := by simp [ints, sortI_len]
  rw [e1]
  simpa [ints] using this
end Go.Proofs.YtponbabbabnaeaaGreat
namespace Go.Proofs.YtponbabbabnaeaaGreat
open Go.RowKit
theorem lens_snoc {l : List (Int × Int)} {k : Nat} {x : Int × Int} (n : Int) (h : l[k]? = some x) : n :: (l.take (k + 1)).map (fun m => m.2) = (n :: (l.take k).map fun m => m.2) ++ [x.2] := by
 rw [List.take_add_one, h]; simp
theorem ints_own1 (x : Int) (w : World) : Own (w.alloc (.cells #[.int .i64 x] 3)) w.heap.size 3 (.slice (some ⟨w.heap.size, 0, none⟩) 1 1) (ints [x]) :=
 ⟨rfl, .inr ⟨w.heap.size, 1, _, rfl, Nat.le_refl _, (by show (w.heap.push _)[w.heap.size]? = _; simp; rfl), Nat.le_refl _, by unfold maxLen; decide, rfl, rfl⟩⟩
set_option maxRecDepth 100000 in
set_option maxHeartbeats 2000000 in
theorem announce_any (m : CM) (B : Nat) (col : Nat → Nat) (p : Nat) (w : World) (h : CS w B col p m) (hvs : 0 < m.b.vs.length) (hs : 0 ≤ m.b.stable) (hmk : ∀ x ∈ m.b.marks, x.2 ≤ (m.b.log.length : Int)) (hdl : m.dl.length ≤ 100000)
  (hmj : 1 ≤ majZ (lastV (vws m.b.vs)).2.length) (hpd : ∀ n : Int, n ≤ m.b.log.length → ownN (cutL m.b.log m.b.stable n) m.b.self ≤ m.b.pend.length) :
  Calls Tryz.prog 118 #[.pointer (some ⟨p, 0, none⟩)] w (Does B col p w (announceF m.cs)) := by
 have H := hJ h
 have hpl := h.lt
 have q1 := h.cell 1; have q3 := h.cell 3; have q7 := h.cell 7
 have hfv := h.fits.vs; have hfm := h.fits.marks; have hfl := h.fits.log
 have hxl := lastV_len h.fits.vx
 obtain ⟨⟨nv, xs⟩, hlv⟩ : ∃ v, lastV (vws m.b.vs) = v := ⟨_, rfl⟩
 have HLV := hJ hlv
 rw [hlv] at hxl hmj
 have HPD := hJ hpd; have HMK := hJ hmk
 have HAN : Hid (announceF m.cs = if ((lensF m.b.st).length : Int) < majZ xs.length then m.cs else raiseF m.cs (((sortI (lensF m.b.st))[(((lensF m.b.st).length : Int) - majZ xs.length).toNat]?).getD 0)) := hJ (by
  show (if ((lensF m.b.st).length : Int) < majZ (lastV (vws m.b.vs)).2.length then m.cs else raiseF m.cs (((sortI (lensF m.b.st))[(((lensF m.b.st).length : Int) - majZ (lastV (vws m.b.vs)).2.length).toNat]?).getD 0)) = _
  rw [hlv])
 have HLF : Hid (lensF m.b.st = (m.b.log.length : Int) :: m.b.marks.map fun x => x.2) := hJ rfl
 obtain ⟨ln, hln⟩ : ∃ l, l = lensF m.b.st := ⟨_, rfl⟩
 rw [← hln] at HAN HLF
 have hfd := field_view1
 clear h hlv hpd hmk hln; obtain ⟨mj, hmjz⟩ : ∃ k : Nat, majZ (xs.length : Int) = (k : Int) := ⟨(majZ (xs.length : Int)).toNat, by simp only at hmj; omega⟩
 simp only at hxl hmj
 have hmj1 : 1 ≤ mj := by omega
 have HMJ := hJ hmjz
 rw [hmjz] at HAN
 clear hmjz hmj; obtain ⟨M, hM⟩ : ∃ x, x = m := ⟨_, rfl⟩
 have HM := hJ hM
 rw [← hM] at H HAN ⊢
 clear hM; obtain ⟨⟨self, base, stable, sent, Av, cv, vs, Al, cl, log, Ap, cp, pend, Am, cm, marks, Af, cf, fls⟩, Ak, ck, pk, Ad, cd, dl⟩ := m
 simp only at hvs hs hfv hfm hfl hdl HLV HPD HMK HLF
 replace q1 : w.cell? ⟨p, 1, none⟩ = some (.slice Av vs.length cv) := q1
 replace q3 : w.cell? ⟨p, 3, none⟩ = some (.slice Al log.length cl) := q3
 replace q7 : w.cell? ⟨p, 7, none⟩ = some (.slice Am marks.length cm) := q7
 have HVB : Hid (viewE.Box w Av vs) := hJ (by have := H.out.lies.vs; rw [HM.out] at this; exact this)
 have HMR : Hid (Row w Am (markE.cells marks)) := hJ (by have := H.out.lies.marks.row; rw [HM.out] at this; exact this)
 go_enter Tryz.func118, Tryz.ntmps118
 go_wp2_with fail
 refine (last_b Av cv vs w HVB.out hvs (by omega) nv xs HLV.out).mono ?_
 rintro en w1 ⟨A1, c1, rfl, h11, h12, HR1, hx1⟩
 have X1 := hJ hx1
 have r3 : w1.cell? ⟨p, 3, none⟩ = some (.slice Al log.length cl) := by rw [hx1.cell (by exact hpl)]; exact q3
 have r7 : w1.cell? ⟨p, 7, none⟩ = some (.slice Am marks.length cm) := by rw [hx1.cell (by exact hpl)]; exact q7
 have hpl1 : p < w1.heap.size := by have := hx1.size; omega
 clear hx1 q1 q3 q7; go_wp2; go_loopw [3, 27] (fun v i wr => ∃ (k : Nat) (v' : Value), v' = v ∧ k ≤ marks.length ∧ i = .int .i64 k ∧ Hid (Own wr w.heap.size 3 v' (ints ((log.length : Int) :: (marks.take k).map fun x => x.2))) ∧ Hid (Ext w wr)) (fun _ i _ => marks.length - (intOf i).toNat)
 case atStart => exact ⟨0, _, rfl, Nat.zero_le _, rfl, hJ ((ints_own1 _ w1).base X1.out.size), hJ (X1.out.trans (Ext.new _ _))⟩
 case round =>
  obtain ⟨k, v, rfl, hk, rfl, HO, HX⟩ := hrel
  by_cases hlt : k < marks.length
  ·obtain ⟨bb, off, x, rfl, hb, c0, c1', HE⟩ := marks_at (HMR.out.ext HX.out) hlt
   have HSN := hJ (lens_snoc (log.length : Int) HE.out)
   go_wp2_with (first
    | (at_builtin; refine push_row rfl (.tmp 31) (.tmp 34) _ 3 _ 8 rfl Tryz.underlying44 info_int rfl (by decide) _ w.heap.size _ (ints ((log.length : Int) :: (marks.take k).map fun x => x.2)) (by rfl) _ 1 1 (ints [x.2]) (by rfl) (by rfl) (by exact rowe (ints1_row x.2 _) (by simp)) (by intro u hu; simp [ints] at hu; subst hu; rfl) (by exact HO.out.ext ((Ext.new _ _).trans (Ext.new _ _))) (by simp [ints]; omega) (by have := HX.out.size; simp; omega) ?_; intro v2 w2 ho2 hg2 hs2))
   have X2 : Hid (Ext w w2) := hJ (hg2.below ((HX.out.trans (Ext.new _ _)).trans (Ext.new _ _)) (by have := HX.out.size; simp; omega) (fun k hk => (HO.out.lt k hk).1))
   go_roundw
   case rel => exact ⟨k + 1, _, rfl, by omega, by go_num, hJ (by rw [HSN.out]; simpa [ints] using ho2), X2⟩
   case measure => simp [intOf]; omega
  ·have hkl : marks.take k = marks := List.take_of_length_le (by omega)
   rw [hkl, ← HLF.out] at HO
   have hll : Hid (ln.length = marks.length + 1) := hJ (by rw [HLF.out]; simp)
   obtain ⟨A3, c3, rfl, h31, h32⟩ : ∃ A c', v = .slice A ln.length c' ∧ ln.length ≤ c' ∧ c' ≤ maxLen := by
    obtain ⟨A, c', h1, h2, h3, _⟩ := HO.out.slice
    have e : (ints ln).length = ln.length := by simp [ints]
    rw [e] at h1 h2
    exact ⟨A, c', h1, h2, h3⟩
   go_wp2_with fail
   refine (majority_any xs.length wr).mono ?_
   rintro en w3 ⟨rfl, rfl⟩
   rw [HMJ.out]
   by_cases hnd : ln.length < mj
   ·have HR : Hid (announceF M.cs = M.cs) := hJ (by rw [HAN.out, if_pos (by omega)])
    have hd : decide ((ln.length : Int) < (mj : Int)) = true := by simp; omega
    go_wp2; (try simp only [Exit.inBlock, Exit.then]); refine bodyPost_ret (results_none rfl _ _ _) rfl ?_
    rw [HR.out]
    exact ⟨M, col, rfl, H.out.ext HX.out, rfl, Stp.ext' H.out.Bsz HX.out⟩
   ·have hd : decide ((ln.length : Int) < (mj : Int)) = false := by simp; omega
    obtain ⟨g, rfl⟩ : ∃ g, A3 = some ⟨g, 0, none⟩ := by
     obtain ⟨_, h2⟩ := HO.out
     rcases h2 with ⟨h2, hz⟩ | ⟨g, cap, cur, hv, _⟩
     ·have := hll.out
      have e : (ints ln).length = ln.length := by simp [ints]
      rw [e] at hz; omega
     ·simp only [Value.slice.injEq] at hv; exact ⟨g, hv.1⟩
    go_wp2_with fail
    refine (sort_any g c3 w.heap.size ln wr HO.out (by have := hll.out; omega)).mono ?_
    rintro en w4 ⟨rfl, ho4, hg4⟩
    have HO4 := hJ ho4
    have X4 : Hid (Ext w w4) := hJ (hg4.below HX.out HX.out.size (fun k hk => (HO.out.lt k hk).1))
    clear ho4 hg4; obtain ⟨ix, hix⟩ : ∃ ix : Nat, ix = ln.length - mj := ⟨_, rfl⟩
    have HIX := hJ hix
    have hixl : ix < (sortI ln).length := by rw [sortI_len]; omega
    obtain ⟨b5, off5, z, hA5, c5, HZ⟩ := HO4.out.row.at_ hixl
    cases hA5
    have hsub : IntKind.i64.wrap ((ln.length : Int) - (mj : Int)) = (ix : Int) := by rw [IntWalk.i64_in _ (by have := hll.out; omega)]; omega
    have hi0 : (0 : Int) ≤ (ix : Int) := by omega
    have hil : (ix : Int) < (ln.length : Int) := by omega
    have HR : Hid (announceF M.cs = raiseF M.cs z) := hJ (by
     rw [HAN.out, if_neg (by omega)]
     have : ((ln.length : Int) - (mj : Int)).toNat = ix := by omega
     rw [this, HZ.out]; rfl)
    have hzl : Hid (z ≤ (log.length : Int)) := hJ (by
     have h1 : z ∈ ln := (sortI_perm ln).mem_iff.1 (List.mem_of_getElem? HZ.out)
     rw [HLF.out] at h1
     rcases List.mem_cons.1 h1 with h1 | h1
     ·omega
     ·obtain ⟨x, hx, rfl⟩ := List.mem_map.1 h1
      exact HMK.out x hx)
    rw [Nat.zero_add] at c5
    clear hix; have C4 := hJ (H.out.ext X4.out)
    go_wp2_with fail
    refine (raise_any M B col p z w4 C4.out (by rw [HM.out]; exact hs) (by rw [HM.out]; exact hzl.out) (by rw [HM.out]; exact hdl) (by rw [HM.out]; exact HPD.out z hzl.out)).mono ?_
    rintro en w5 ⟨m5, col5, rfl, hc5, hm5, hs5⟩
    go_wp2; go_end0; rw [HR.out]
    exact ⟨m5, col5, rfl, hc5, hm5, (Stp.ext' H.out.Bsz X4.out).trans hs5⟩
end Go.Proofs.YtponbabbabnaeaaGreat
namespace Go.Proofs.YtponbabbabnaeaaGreat
open Go.RowKit
theorem mark_cells_set : ∀ (l : List (Int × Int)) (k : Nat) (x : Int × Int) (n : Int), l[k]? = some x → markE.cells (l.set k (x.1, n)) = (markE.cells l).set (k * 2 + 1) (.int .i64 n) := by
 intro l
 induction l with
 | nil => intro k x n h; simp at h
 | cons y l ih =>
  intro k x n h
  match k, h with
  | 0, h => simp only [List.getElem?_cons_zero, Option.some.injEq] at h; subst h; rfl
  | k + 1, h =>
   rw [List.set_cons_succ, markE.cells_cons, markE.cells_cons, ih k x n (by simpa using h)]
   have e1 : (k + 1) * 2 + 1 = k * 2 + 1 + 1 + 1 := by omega
   rw [e1]
   rfl
theorem marks_set {w : World} {B g cap : Nat} {l : List (Int × Int)} {k : Nat} {x : Int × Int} (n : Int) (h : markE.Own w B (.slice (some ⟨g, 0, none⟩) l.length cap) l) (hx : l[k]? = some x) :
  markE.Own (w.setCell ⟨g, k * 2 + 1, none⟩ (.int .i64 n)) B (.slice (some ⟨g, 0, none⟩) l.length cap) (l.set k (x.1, n)) := by
 obtain ⟨h1, h2⟩ := h
 refine ⟨by rw [markE.cells_len], .inr ?_⟩
 rcases h2 with ⟨h2, _⟩ | ⟨g', cap', cur, hv, h3, hh, h4, h5, h6, h7⟩
 ·cases h2
 ·simp only [Value.slice.injEq, Option.some.injEq, Addr.mk.injEq, and_true, true_and] at hv
  obtain ⟨rfl, rfl⟩ := hv
  refine ⟨g, cap, cur.setIfInBounds (k * 2 + 1) (.int .i64 n), by rw [List.length_set], h3, ?_, by rw [List.length_set]; exact h4, h5, by simpa using h6, ?_⟩
  ·exact heap_setCell_same _ _ _ _ _ _ hh
  ·rw [List.length_set, Array.toList_setIfInBounds, List.take_set, h7, mark_cells_set l k x n hx]
theorem mark1_row (a b : Int) (w : World) : Row (w.alloc (.cells #[.int .i64 a, .int .i64 b] 123)) (some ⟨w.heap.size, 0, none⟩) (markE.cells [(a, b)]) := by
 intro _
 refine ⟨w.heap.size, 0, rfl, by simp, fun j q hj => ?_⟩
 simp only [Elem.cells, markE, List.flatMap_cons, List.flatMap_nil, List.append_nil] at hj
 match j, hj with
 | 0, hj => simpa using hj
 | 1, hj => simpa using hj
theorem mark_ob {w : World} {B : Nat} {v : Value} {l : List (Int × Int)} (h : markE.Own w B v l) : markE.OB w B v l := ⟨h, fun _ _ => ⟨trivial, fun r hr => by simp [markE] at hr⟩⟩
theorem mark_own_parts {w : World} {B : Nat} {v : Value} {l : List (Int × Int)} (h : markE.Own w B v l) : ∃ A c, v = .slice A l.length c ∧ l.length ≤ c ∧ c ≤ maxLen ∧ (A = none ∨ ∃ g, A = some ⟨g, 0, none⟩) := by
 obtain ⟨_, h2⟩ := h
 rcases h2 with ⟨h2, h3⟩ | ⟨g, cap, cur, hv, h3, hh, h4, h5, h6, h7⟩
 ·subst h2
  have : l = [] := List.eq_nil_of_length_eq_zero h3
  subst this
  exact ⟨none, 0, rfl, Nat.le_refl _, Nat.zero_le _, .inl rfl⟩
 ·exact ⟨_, cap, hv, h4, h5, .inr ⟨g, rfl⟩⟩
set_option maxRecDepth 100000 in
set_option maxHeartbeats 1000000 in
theorem insert_end (B : Nat) (A : Option Addr) (c : Nat) (l : List (Int × Int)) (x : Int × Int) (w : World) (ho : markE.Own w B (.slice A l.length c) l) (hB : B ≤ w.heap.size) (g c2 : Nat) (hr : Row w (some ⟨g, 0, none⟩) (markE.cells [x])) (hn : l.length ≤ 1000000) (hc : l.length ≤ c ∧ c ≤ maxLen) :
  Calls Tryz.prog 186 #[.slice A l.length c, .int .i64 (l.length : Int), .slice (some ⟨g, 0, none⟩) 1 c2] w fun e w' => ∃ v', e = .returned v' ∧ markE.Own w' B v' (l ++ [x]) ∧ Grew w w' (.slice A l.length c) ∧ Stems w (.slice A l.length c) v' := by
 have HO := hJ (mark_ob ho); have HR := hJ hr
 clear ho hr; obtain ⟨hc1, hc2⟩ := hc
 rcases A with _ | ad
 ·go_enter Tryz.func186, Tryz.ntmps186
  go_wp2_with (first
   | (at_builtin; refine push_e markE rfl (.tmp 23) (.tmp 24) rfl _ B _ l (by rfl) _ _ _ [x] (by rfl) rfl HR.out HO.out (fun q hq => ⟨trivial, fun r hr => by simp [markE] at hr⟩) (by simp; omega) hB ?_; intro v1 w1 ho1 hg1 hs1))
  all_goals (go_ret; exact ⟨v1, rfl, ho1.1, hg1, hs1⟩)
 ·go_enter Tryz.func186, Tryz.ntmps186
  go_wp2_with (first
   | (at_builtin; refine push_e markE rfl (.tmp 23) (.tmp 24) rfl _ B _ l (by rfl) _ _ _ [x] (by rfl) rfl HR.out HO.out (fun q hq => ⟨trivial, fun r hr => by simp [markE] at hr⟩) (by simp; omega) hB ?_; intro v1 w1 ho1 hg1 hs1))
  all_goals (go_ret; exact ⟨v1, rfl, ho1.1, hg1, hs1⟩)
end Go.Proofs.YtponbabbabnaeaaGreat
namespace Go.Proofs.YtponbabbabnaeaaGreat
structure OkS (s : St) : Prop where
 vs : 0 < s.views.length
 st0 : 0 ≤ s.stable
 st1 : s.stable ≤ s.log.length
 own : (ownN s.log s.self : Int) ≤ s.sent
 sent : s.sent ≤ 1099511627776
 pend : (s.pend.length : Int) = s.sent - ownN (s.log.take s.stable.toNat) s.self
 pn : s.pend.length ≤ 32
 log : s.log.length ≤ 2000
 lp : ∀ e ∈ s.log, e.p.length ≤ 6000
 pp : ∀ p ∈ s.pend, p.length ≤ 6000
 mks : ∀ x ∈ s.marks, 0 ≤ x.2 ∧ x.2 ≤ (s.log.length : Int)
 mem : validB (lastV s.views).1 (lastV s.views).2 = true
theorem ownN_app (a b : List Ent) (o : Int) : ownN (a ++ b) o = ownN a o + ownN b o := by unfold ownN; rw [List.countP_append]
theorem ownN_split (l : List Ent) (n : Nat) (o : Int) : ownN l o = ownN (l.take n) o + ownN (l.drop n) o := by rw [← ownN_app, List.take_append_drop]
theorem ownN_take_more (s : St) (j : Nat) : ownN (takeL s j) s.self = ownN s.log s.self + j := by
 unfold takeL
 rw [ownN_app]
 congr 1
 unfold ownN
 rw [List.countP_map, List.countP_eq_length.2 (fun i _ => by simp)]
 simp
theorem ok_cut {s : St} (h : OkS s) (n : Int) : ownN (cutL s.log s.stable n) s.self ≤ s.pend.length := by
 have h1 : ownN (cutL s.log s.stable n) s.self ≤ ownN (s.log.drop s.stable.toNat) s.self := by
  unfold cutL ownN
  exact List.Sublist.countP_le ((List.take_sublist _ _).drop _)
 have h2 := ownN_split s.log s.stable.toNat s.self
 have h3 := h.own; have h4 := h.pend
 omega
theorem ok_maj {s : St} (h : OkS s) : 1 ≤ majZ (lastV s.views).2.length ∧ (lastV s.views).2.length ≤ 16 ∧ 1 ≤ (lastV s.views).2.length := by
 have hm := h.mem
 unfold validB at hm
 simp only [Bool.and_eq_true] at hm
 have h1 := idsB_len (m := 16) hm.2
 unfold majZ
 have h2 : 1 ≤ (lastV s.views).2.length ∧ (lastV s.views).2.length ≤ 16 := by omega
 rw [if_pos (by omega)]
 omega
theorem takeN_le (s : St) : s.log.length ≤ 2000 → (takeL s (takeN s)).length ≤ 2000 := by
 intro h; rw [takeL_len]; unfold takeN; omega
theorem ok_take {s : St} (h : OkS s) : OkS (takeF s) := by
 have ho := ownN_take_more s (takeN s)
 have hn : ownN s.log s.self + takeN s ≤ s.sent := by have := h.own; unfold takeN; omega
 refine ⟨h.vs, h.st0, ?_, ?_, h.sent, ?_, h.pn, takeN_le s h.log, takeL_pay h.lp h.pp _, h.pp, fun x hx => ⟨(h.mks x hx).1, ?_⟩, h.mem⟩
 ·have := h.st1; show s.stable ≤ ((takeL s (takeN s)).length : Int); rw [takeL_len]; omega
 ·show (ownN (takeL s (takeN s)) s.self : Int) ≤ s.sent
  rw [ho]; omega
 ·show (s.pend.length : Int) = s.sent - ownN ((takeL s (takeN s)).take s.stable.toNat) s.self
  have h1 := h.st1; have h2 := h.st0
  unfold takeL
  rw [List.take_append_of_le_length (by omega)]
  exact h.pend
 ·have := (h.mks x hx).2; show x.2 ≤ ((takeL s (takeN s)).length : Int); rw [takeL_len]; omega
theorem raise_keep (c : Cs) (n : Int) : (raiseF c n).s.log = c.s.log ∧ (raiseF c n).s.marks = c.s.marks ∧ (raiseF c n).s.views = c.s.views ∧ (raiseF c n).s.base = c.s.base ∧ (raiseF c n).s.self = c.s.self ∧ (raiseF c n).s.fls = c.s.fls ∧ (raiseF c n).pk = c.pk ∧ (raiseF c n).s.sent = c.s.sent := by
 unfold raiseF
 split <;> exact ⟨rfl, rfl, rfl, rfl, rfl, rfl, rfl, rfl⟩
theorem announce_keep (c : Cs) : (announceF c).s.log = c.s.log ∧ (announceF c).s.marks = c.s.marks ∧ (announceF c).s.views = c.s.views ∧ (announceF c).s.base = c.s.base ∧ (announceF c).s.self = c.s.self ∧ (announceF c).s.fls = c.s.fls ∧ (announceF c).pk = c.pk ∧ (announceF c).s.sent = c.s.sent := by
 unfold announceF
 split
 ·exact ⟨rfl, rfl, rfl, rfl, rfl, rfl, rfl, rfl⟩
 ·exact raise_keep _ _
theorem lead_keep (c : Cs) (x : Int) : (leadStep c x).s = c.s ∧ (leadStep c x).dl = c.dl ∧ (leadStep c x).pk.length ≤ c.pk.length + 1 := by
 unfold leadStep
 split
 ·exact ⟨rfl, rfl, by omega⟩
 ·split <;> exact ⟨rfl, rfl, by simp [sendF]⟩
theorem leads_keep (l : List Int) : ∀ c : Cs, (l.foldl leadStep c).s = c.s ∧ (l.foldl leadStep c).dl = c.dl ∧ (l.foldl leadStep c).pk.length ≤ c.pk.length + l.length := by
 induction l with
 | nil => intro c; exact ⟨rfl, rfl, by simp⟩
 | cons x l ih =>
  intro c
  obtain ⟨h1, h2, h3⟩ := ih (leadStep c x)
  obtain ⟨k1, k2, k3⟩ := lead_keep c x
  exact ⟨h1.trans k1, h2.trans k2, by simp only [List.foldl_cons, List.length_cons]; omega⟩
theorem fold_snoc {α : Type} {l : List Int} {k : Nat} {x : Int} (f : α → Int → α) (c : α) (h : l[k]? = some x) : (l.take (k + 1)).foldl f c = f ((l.take k).foldl f c) x := by
 rw [List.take_add_one, h]; simp
end Go.Proofs.YtponbabbabnaeaaGreat
namespace Go.Proofs.YtponbabbabnaeaaGreat
open Go.RowKit
set_option maxRecDepth 100000 in
theorem last_m (A : Option Addr) (c : Nat) (l : List VwM) (w : World) (h : viewE.Box w A l) (hp : 0 < l.length) (hn : l.length ≤ 1000000000) :
  ∃ v ∈ l, lastV (vws l) = (v.n, v.xs) ∧ Calls Tryz.prog 49 #[.slice A l.length c] w fun e w' => e = .returned (.agg #[.int .i64 v.n, .slice v.A v.xs.length v.c]) ∧ Ext w w' := by
 obtain ⟨j, hj⟩ : ∃ j, l.length = j + 1 := ⟨l.length - 1, by omega⟩
 obtain ⟨b, off, n, X, cx, xs, rfl, hb, c0, c1, HR, h1, h2, HX⟩ := views_at h (show j < l.length by omega)
 have HL := lastV_at (by rw [vws_len]; exact hj) (vws_at HX.out)
 refine ⟨⟨n, X, cx, xs⟩, List.mem_of_getElem? HX.out, HL, ?_⟩
 have hw1 : IntKind.i64.wrap ((l.length : Int) - 1) = (j : Int) := by rw [IntWalk.i64_in _ (by omega)]; omega
 have k1 : (0 : Int) ≤ (j : Int) := by omega
 have k2 : (j : Int) < (l.length : Int) := by omega
 have k3 : j < l.length := by omega
 clear hj h HL; go_enter Tryz.func49, Tryz.ntmps49
 go_wp2; exact bodyPost_ret (v := .agg #[.int .i64 n, .slice X xs.length cx]) (by simp [results, Tryz.results49, go_sem]) rfl ⟨rfl, Ext.new _ _⟩
theorem appendEntries_len (A Al : Option Addr) (c cl k : Nat) (body : List UInt8) (log : List Ent) (w : World) (hb : Row w A (bytesV body)) (hbl : body.length ≤ 1000) (hbc : body.length ≤ c ∧ c ≤ maxLen) (hr : Row w Al (entE.cells log)) (hn : log.length ≤ 2000) (hp : ∀ e ∈ log, e.p.length ≤ 6000) (hk : k = log.length) :
  Calls Tryz.prog 52 #[.slice A body.length c, .slice Al k cl] w (GivesB w (body ++ entsF log)) := by subst hk; exact appendEntries_any A Al c cl body log w hb hbl hbc hr hn hp
theorem ents_bound {body : List UInt8} {l : List Ent} (hb : body.length ≤ 1000) (hn : l.length ≤ 2000) (hp : ∀ e ∈ l, e.p.length ≤ 6000) : (body ++ entsF l).length ≤ 100000000 := by
 have h1 := ents_len hp
 have h2 := numsF_len [(l.length : Int)]
 unfold entsF
 simp only [List.length_append, List.length_cons, List.length_nil] at *
 omega
theorem alloc_drew_cell {w : World} {o : Obj} {p i : Nat} (h : p < w.heap.size) : (w.alloc o).drew.cell? ⟨p, i, none⟩ = w.cell? ⟨p, i, none⟩ := World.cell?_alloc_lt _ _ _ h
theorem leadStep_no {c : Cs} {x : Int} (h : x = c.s.self) : leadStep c x = c := by unfold leadStep; rw [if_pos h]
theorem leadStep_in {c : Cs} {x : Int} (h : ¬ x = c.s.self) (hm : markF c.s.marks x = none) : leadStep c x = sendF c x 15 (numsF [c.s.base] ++ entsF c.s.log) := by unfold leadStep; rw [if_neg h, hm]
theorem leadStep_ap {c : Cs} {x st : Int} (h : ¬ x = c.s.self) (hm : markF c.s.marks x = some st) : leadStep c x = sendF c x 12 (numsF [c.s.base, st, c.s.stable] ++ entsF (cutL c.s.log st (min (st + 16) c.s.log.length))) := by unfold leadStep; rw [if_neg h, hm]
set_option maxRecDepth 100000 in
set_option maxHeartbeats 1000000 in
theorem lead_any (m : CM) (B : Nat) (col : Nat → Nat) (p : Nat) (w : World) (h : CS w B col p m) (ok : OkS m.b.st) (hpk : m.pk.length = 0) (hdl : m.dl.length = 0) :
  Calls Tryz.prog 45 #[.pointer (some ⟨p, 0, none⟩)] w (Does B col p w (leadF m.cs)) := by
 have H := hJ h; have OK := hJ ok
 have hpl := h.lt
 clear h ok; go_enter Tryz.func45, Tryz.ntmps45
 go_wp2_with fail
 refine (take_any m.b #[.slice m.Ak m.pk.length m.ck, .slice m.Ad m.dl.length m.cd] 86 p B col w (by exact H.out.box) H.out.pc H.out.bp H.out.lies H.out.fits OK.out.own OK.out.sent ?_ OK.out.log).mono ?_
 ·have h1 := OK.out.pend; have h2 := ownN_take m.b.st.log m.b.st.stable.toNat m.b.st.self
  simp only [BM.st] at h1 h2 ⊢; omega
 rintro en w1 ⟨A1, c1, rfl, hb1, ho1, hc1, hs1⟩
 have OK1 : Hid (OkS (takeF m.b.st)) := hJ (ok_take OK.out)
 obtain ⟨m1, hm1⟩ : ∃ x, x = ({ m with b := { m.b with Al := A1, cl := c1, log := takeL m.b.st (takeN m.b.st) } } : CM) := ⟨_, rfl⟩
 have hcs1 : Hid (m1.cs = { m.cs with s := takeF m.b.st }) := hJ (by rw [hm1]; rfl)
 have hbs1 : Hid (m1.b.st = takeF m.b.st) := hJ (by rw [hm1]; rfl)
 have C1 : Hid (CS w1 B (paint col w.heap.size 2) p m1) := hJ (by
  subst hm1
  obtain ⟨A', c', hv', k1, k2, _⟩ := ho1.slice
  simp only [Value.slice.injEq] at hv'
  have hf := H.out.fits
  have hlp := OK1.out.lp
  have hll := OK1.out.log
  refine ⟨hb1, (hs1.hue p hpl).trans H.out.pc, H.out.bp, H.out.lies.relog hs1 (by simp) (by simp) (by simp) (by simp) ho1 hc1, hs1.own H.out.pk H.out.kc (by simp), hs1.colV H.out.pk H.out.kc, H.out.kiK hs1 (by simp), hs1.own H.out.dl H.out.dc (by simp), hs1.colV H.out.dl H.out.dc, ?_, H.out.cp⟩
  exact ⟨hf.vs, hf.vx, by have : (takeL m.b.st (takeN m.b.st)).length ≤ 2000 := hll; simp only; omega, fun e he => by have := hlp e he; omega, hf.pend, hf.pp, hf.marks, hf.fls, hf.fl, ⟨by simp only; omega, by simp only; omega⟩⟩)
 have hpk1 : m1.pk.length = 0 := by rw [hm1]; exact hpk
 have hdl1 : m1.dl.length = 0 := by rw [hm1]; exact hdl
 have S1 : Hid (Stp B [1, 2, 3, 4, 5, 7] col w (paint col w.heap.size 2) w1) := hJ (hs1.mono (by simp))
 have HLD : Hid (leadF m.cs = (lastV (announceF m1.cs).s.views).2.foldl leadStep (announceF m1.cs)) := hJ (by rw [hcs1.out]; rfl)
 clear hb1 ho1 hc1 hs1 hm1 H OK hpl hpk hdl; have OKm : Hid (OkS m1.b.st) := hJ (by rw [hbs1.out]; exact OK1.out)
 go_wp2_with fail
 refine (announce_any m1 B _ p w1 C1.out (by have := OKm.out.vs; simpa [BM.st, vws_len] using this) OKm.out.st0 (fun x hx => (OKm.out.mks x hx).2) (by omega) (ok_maj OKm.out).1 (fun n _ => ok_cut OKm.out n)).mono ?_
 rintro en w2 ⟨m2, col2, rfl, hc2, hm2, hs2⟩
 have C2 := hJ hc2; have S2 := hJ (S1.out.trans hs2)
 obtain ⟨k1, k2, k3, k4, k5, k6, k7, k8⟩ := announce_keep m1.cs
 rw [← hm2] at HLD k1 k2 k3 k4 k5 k6 k7 k8
 have HK : Hid (m2.b.log = m1.b.log ∧ m2.b.marks = m1.b.marks ∧ vws m2.b.vs = vws m1.b.vs ∧ m2.pk.length = 0) := hJ ⟨k1, k2, k3, by have := congrArg List.length k7; simp only [CM.cs, List.length_map] at this; omega⟩
 have hlog : m2.b.log.length ≤ 2000 := by rw [HK.out.1]; exact OKm.out.log
 have HLP : Hid (∀ e ∈ m2.b.log, e.p.length ≤ 6000) := hJ (by rw [HK.out.1]; exact OKm.out.lp)
 have HMK : Hid (∀ x ∈ m2.b.marks, 0 ≤ x.2 ∧ x.2 ≤ (m2.b.log.length : Int)) := hJ (by rw [HK.out.1, HK.out.2.1]; exact OKm.out.mks)
 have hvs2 : 0 < m2.b.vs.length := by
  have h1 := OKm.out.vs
  have h2 := congrArg List.length HK.out.2.2.1
  simp only [BM.st, vws_len] at h1 h2; omega
 clear hc2 hs2 hm2 k1 k2 k3 k4 k5 k6 k7 k8; have hfv := C2.out.fits.vs
 obtain ⟨v, hv, hlv, hcall⟩ := last_m m2.b.Av m2.b.cv m2.b.vs w2 C2.out.lies.vs hvs2 (by omega)
 have HCALL := hJ hcall
 have HXR : Hid (Row w2 v.A (ints v.xs) ∧ ColR col2 0 v.A (ints v.xs)) := hJ ⟨(C2.out.lies.vs.2 v hv).2 (v.A, ints v.xs) (by simp [viewE]), C2.out.lies.vi v hv⟩
 have hx16 : v.xs.length ≤ 16 := by
  have h1 := (ok_maj OKm.out).2.1
  have h2 : lastV m1.b.st.views = (v.n, v.xs) := by rw [← hlv]; show lastV (vws m1.b.vs) = _; rw [HK.out.2.2.1]
  rw [h2] at h1; exact h1
 have HLD2 : Hid (leadF m.cs = v.xs.foldl leadStep m2.cs) := hJ (by
  rw [HLD.out]
  show (lastV (vws m2.b.vs)).2.foldl leadStep m2.cs = _
  rw [hlv])
 have q1 : w2.cell? ⟨p, 1, none⟩ = some (.slice m2.b.Av m2.b.vs.length m2.b.cv) := C2.out.cell 1
 have hfd := field_view1
 clear hcall hv hlv HLD; obtain ⟨nv, Ax, cx, xs⟩ := v
 simp only at HXR hx16 HLD2 HCALL
 go_wp2_with fail
 refine HCALL.out.mono ?_
 rintro en w3 ⟨rfl, hx3⟩
 have X3 := hJ hx3
 clear hx3 q1; go_wp2; go_loopw [21] (fun i wr => ∃ (k : Nat) (m' : CM) (col' : Nat → Nat), k ≤ xs.length ∧ i = .int .i64 k ∧ Hid (CS wr B col' p m') ∧ Hid (m'.cs = (xs.take k).foldl leadStep m2.cs) ∧ Hid (Stp B [1, 2, 3, 4, 5, 7] col2 w2 col' wr)) (fun i _ => xs.length - (intOf i).toNat)
 case atStart => exact ⟨0, m2, col2, Nat.zero_le _, rfl, hJ (C2.out.ext X3.out), hJ rfl, hJ (Stp.ext' C2.out.Bsz X3.out)⟩
 case round =>
  obtain ⟨k, m', col', hk, rfl, HC, HM, HS⟩ := hrel
  by_cases hlt : k < xs.length
  ·obtain ⟨bb, off, x, hA, hcx, HE⟩ := (HS.out.row HXR.out.1 HXR.out.2 (by simp)).at_ hlt
   subst hA
   have HFS := hJ (fold_snoc leadStep m2.cs HE.out)
   obtain ⟨l1, l2, l3⟩ := leads_keep (xs.take k) m2.cs
   rw [← HM.out] at l1 l2 l3
   have HKM : Hid (m'.b.st = m2.b.st ∧ m'.pk.length ≤ 16) := hJ ⟨l1, by have := HK.out.2.2.2; simp only [CM.cs, List.length_map, List.length_take] at l3; omega⟩
   have hpr := HC.out.lt
   have q0 := HC.out.cell 0; have q2 := HC.out.cell 2; have q3 := HC.out.cell 3; have q4 := HC.out.cell 4
   have HLR := hJ HC.out.lies.log.row
   have hfc := HC.out.fits.cl
   obtain ⟨MM, hMM⟩ : ∃ y, y = m' := ⟨_, rfl⟩
   have HMM := hJ hMM
   rw [← hMM] at HC HM
   clear hMM l1 l2 l3; obtain ⟨⟨self, base, stable, sent, Av, cv, vs, Al, cl, log, Ap, cp, pend, Am, cm, marks, Af, cf, fls⟩, Ak, ck, pk, Ad, cd, dl⟩ := m'
   have HEQ : Hid (log = m2.b.log ∧ marks = m2.b.marks ∧ base = m2.b.base ∧ self = m2.b.self ∧ stable = m2.b.stable) := hJ (by
    have h := HKM.out.1
    simp only [BM.st, St.mk.injEq] at h
    obtain ⟨e1, e2, e3, e4, e5, e6, e7, e8, e9⟩ := h
    exact ⟨e4, e8, e3, e1, e5⟩)
   replace q0 : wr.cell? ⟨p, 0, none⟩ = some (.int .i64 self) := q0
   replace q2 : wr.cell? ⟨p, 2, none⟩ = some (.int .i64 base) := q2
   replace q3 : wr.cell? ⟨p, 3, none⟩ = some (.slice Al log.length cl) := q3
   replace q4 : wr.cell? ⟨p, 4, none⟩ = some (.int .i64 stable) := q4
   simp only at HLR hfc
   have hMcs : Hid (MM.cs.s = ⟨self, vws vs, base, log, stable, sent, pend, marks, fls.map FlM.v⟩) := hJ (by rw [HMM.out]; rfl)
   by_cases hxs : x = self
   ·have hd : (x == self) = true := by simpa using hxs
    have HSK : Hid (leadStep MM.cs x = MM.cs) := hJ (leadStep_no (by rw [hMcs.out]; exact hxs))
    clear hxs; go_wp2; go_roundw
    case rel => exact ⟨k + 1, MM, col', by omega, by go_num, HC, hJ (by rw [HFS.out, ← HM.out, HSK.out]), HS⟩
    case measure => simp [intOf]; omega
   ·have hd : (x == self) = false := by simpa using hxs
    go_wp2_with fail
    refine (mark_any MM B col' p x wr HC.out).mono ?_
    rintro en w4 ⟨rfl, hx4⟩
    have C4 := hJ (HC.out.ext hx4)
    have X4 := hJ hx4
    have hmmk : Hid (MM.b.marks = marks) := hJ (by rw [HMM.out])
    rw [hmmk.out]
    have p2 : w4.cell? ⟨p, 2, none⟩ = some (.int .i64 base) := by rw [hx4.cell (by exact hpr)]; exact q2
    have p3 : w4.cell? ⟨p, 3, none⟩ = some (.slice Al log.length cl) := by rw [hx4.cell (by exact hpr)]; exact q3
    have p4 : w4.cell? ⟨p, 4, none⟩ = some (.int .i64 stable) := by rw [hx4.cell (by exact hpr)]; exact q4
    have hpr4 : p < w4.heap.size := by have := hx4.size; omega
    have HLR4 := hJ (HLR.out.ext hx4)
    have hlg : log.length ≤ 2000 := by rw [HEQ.out.1]; exact hlog
    have HLP4 : Hid (∀ e ∈ log, e.p.length ≤ 6000) := hJ (by rw [HEQ.out.1]; exact HLP.out)
    clear hx4 q0 q2 q3 q4 hpr HLR; cases hmf : markF marks x with
    | none =>
     have HST : Hid (leadStep MM.cs x = sendF MM.cs x 15 (numsF [base] ++ entsF log)) := hJ (by
      have := leadStep_in (c := MM.cs) (x := x) (by rw [hMcs.out]; exact hxs) (by rw [hMcs.out]; exact hmf)
      rw [this, hMcs.out])
     clear hmf; obtain ⟨bd, hbd⟩ : ∃ l, l = numsF [base] ++ entsF log := ⟨_, rfl⟩
     have HBD := hJ hbd
     have hbl : bd.length ≤ 100000000 := by rw [hbd]; exact ents_bound (by have := numsF_len [base]; simp at this; omega) hlg HLP4.out
     rw [← hbd] at HST
     clear hbd; simp only [Option.getD_none, Option.isSome_none]
     go_wp2; refine E_begin 15 (fun w' => w'.cell? ⟨p, 2, none⟩ = some (.int .i64 base) ∧ w'.cell? ⟨p, 3, none⟩ = some (.slice Al log.length cl)) (by kernel_rfl) ⟨by simpa using p2, by simpa using p3⟩ (fun hHeld => ?_)
     refine E_t 0 40 ?_; refine E_t 1 41 ?_; refine E_t 2 42 ?_; refine E_t 3 43 ?_; refine E_t 4 44 ?_; refine E_t 5 45 ?_; refine E_t 6 46 ?_; refine E_t 9 49 ?_; refine E_t 10 50 ?_; refine E_t 11 51 ?_; refine E_t 12 52 ?_; refine E_t 13 53 ?_; refine E_ready [7] (by kernel_rfl) (by simp) ?_
     refine AllE.cons (o := ⟨some 47, _, _, _, _, _⟩) rfl (fun K hK => ?_) AllE.nil
     go_simp; clear hHeld; refine hK.out _ _ ⟨(alloc_drew_cell hpr4).trans p2, (alloc_drew_cell hpr4).trans p3⟩ (fun hHeld => ?_)
     clear hK K; try simp only [Act.put, aP1, aP2, aP3]
     refine E_ready [8] (by kernel_rfl) (by simp) ?_
     refine AllE.cons (o := ⟨some 48, _, _, _, _, _⟩) rfl (fun K hK => ?_) AllE.nil
     go_simp; go_at_call 48; refine (numbers_any _ 1 [base] _ (by exact rowd (ints1_row _ _) (by simp)) (by simp)).mono ?_
     rintro en w6 ⟨A2, c2, rfl, h21, h22, ho2, hx2⟩
     have X2 : Hid (Ext w4 w6) := hJ (((Ext.new _ _).trans Ext.drew1).trans hx2)
     have HR2 := hJ ho2.row
     clear ho2 hx2; have r2 : w6.cell? ⟨p, 2, none⟩ = some (.int .i64 base) := by rw [X2.out.cell (by exact hpr4)]; exact p2
     have r3 : w6.cell? ⟨p, 3, none⟩ = some (.slice Al log.length cl) := by rw [X2.out.cell (by exact hpr4)]; exact p3
     clear hHeld; refine hK.out _ _ ⟨r2, r3⟩ (fun hHeld => ?_)
     clear hK K; try simp only [Act.put, aP1, aP2, aP3]
     refine E_ready [14] (by kernel_rfl) (by simp) ?_
     refine AllE.cons (o := ⟨some 54, _, _, _, _, _⟩) rfl (fun K hK => ?_) AllE.nil
     go_simp; go_at_call 52; refine (appendEntries_any A2 Al c2 cl (numsF [base]) log _ HR2.out (by have := numsF_len [base]; simp at this; omega) ⟨h21, h22⟩ (HLR4.out.ext X2.out) hlg HLP4.out).mono ?_
     rintro e3 w3' ⟨A3, c3, rfl, h31, h32, ho3, hx3⟩
     rw [← HBD.out] at h31 ho3 ⊢
     have X3' : Hid (Ext w4 w3') := hJ (X2.out.trans hx3)
     have HR3 := hJ ho3.row
     clear ho3 hx3; have s2 : w3'.cell? ⟨p, 2, none⟩ = some (.int .i64 base) := by rw [X3'.out.cell (by exact hpr4)]; exact p2
     have s3 : w3'.cell? ⟨p, 3, none⟩ = some (.slice Al log.length cl) := by rw [X3'.out.cell (by exact hpr4)]; exact p3
     clear hHeld; refine hK.out _ _ ⟨s2, s3⟩ (fun hHeld => ?_)
     clear hK K; try simp only [Act.put, aP1, aP2, aP3]
     refine E_tail (by rfl) (by kernel_rfl) ?_
     go_wp2_with fail
     refine (send_any MM B col' p x 15 A3 c3 bd w3' (C4.out.ext X3'.out) HR3.out hbl (by decide) (by have := HKM.out.2; rw [HMM.out]; simp only at this ⊢; omega)).mono ?_
     rintro en w5 ⟨m5, col5, rfl, hc5, hm5, hs5⟩
     have S5 : Hid (Stp B [1, 2, 3, 4, 5, 7] col2 w2 col5 w5) := hJ (HS.out.trans (((Stp.ext' HC.out.Bsz (X4.out.trans X3'.out))).trans hs5))
     go_wp2; go_roundw
     case rel => exact ⟨k + 1, m5, col5, by omega, by go_num, hJ hc5, hJ (by rw [hm5, HFS.out, ← HM.out, HST.out]), S5⟩
     case measure => simp [intOf]; omega
    | some st =>
     have hstb : 0 ≤ st ∧ st ≤ (log.length : Int) := by
      unfold markF at hmf
      cases hfd : marks.find? (fun y => y.1 == x) with
      | none => rw [hfd] at hmf; cases hmf
      | some y =>
       rw [hfd] at hmf
       simp only [Option.map_some, Option.some.injEq] at hmf
       have := HMK.out y (by rw [← HEQ.out.2.1]; exact List.mem_of_find?_eq_some hfd)
       rw [HEQ.out.1, ← hmf]; exact this
     obtain ⟨sn, rfl⟩ : ∃ sn : Nat, st = (sn : Int) := ⟨st.toNat, by omega⟩
     obtain ⟨en, hen⟩ : ∃ en : Nat, en = min (sn + 16) log.length := ⟨_, rfl⟩
     have hen1 : sn ≤ en ∧ en ≤ log.length := by omega
     have HEN := hJ hen
     have HST : Hid (leadStep MM.cs x = sendF MM.cs x 12 (numsF [base, (sn : Int), stable] ++ entsF ((log.take en).drop sn))) := hJ (by
      have := leadStep_ap (c := MM.cs) (x := x) (st := (sn : Int)) (by rw [hMcs.out]; exact hxs) (by rw [hMcs.out]; exact hmf)
      rw [this, hMcs.out]
      simp only
      have e1 : (min ((sn : Int) + 16) (log.length : Int)) = (en : Int) := by omega
      rw [e1]; rfl)
     clear hmf; obtain ⟨bd, hbd⟩ : ∃ l, l = numsF [base, (sn : Int), stable] ++ entsF ((log.take en).drop sn) := ⟨_, rfl⟩
     have HBD := hJ hbd
     have hbl : bd.length ≤ 100000000 := by rw [hbd]; exact ents_bound (by have := numsF_len [base, (sn : Int), stable]; simp at this; omega) (by rw [List.length_drop, List.length_take]; omega) (fun e he => HLP4.out e (List.mem_of_mem_take (List.mem_of_mem_drop he)))
     rw [← hbd] at HST
     have hwn : IntKind.i64.wrap ((sn : Int) + 16) = (sn : Int) + 16 := IntWalk.i64_in _ (by omega)
     have hmin : min ((sn : Int) + 16) (log.length : Int) = (en : Int) := by omega
     have hsl : ∀ W, (Instr.slice 23 (.slice Al log.length cl) (some (.int .i64 (sn : Int))) (some (.int .i64 (en : Int))) none).run Tryz.prog W = .ok (.slice (subA Al sn cl 4) (en - sn) (cl - sn)) W := fun W => entE.slice_lh Al log.length cl sn en _ _ rfl rfl hen1.1 (by omega) W
     have HCR : Hid (Row w4 (subA Al sn cl 4) (entE.cells ((log.take en).drop sn))) := hJ (Elem.row_sub HLR4.out (by omega) sn en)
     clear hbd hen; simp only [Option.getD_some, Option.isSome_some]
     go_wp2; refine E_begin 24 (fun w' => w'.cell? ⟨p, 2, none⟩ = some (.int .i64 base) ∧ w'.cell? ⟨p, 3, none⟩ = some (.slice Al log.length cl) ∧ w'.cell? ⟨p, 4, none⟩ = some (.int .i64 stable)) (by kernel_rfl) ⟨by simpa using p2, by simpa using p3, by simpa using p4⟩ (fun hHeld => ?_)
     refine E_t 0 65 ?_; refine E_t 1 66 ?_; refine E_t 2 67 ?_; refine E_t 3 68 ?_; refine E_t 4 69 ?_; refine E_t 5 70 ?_; refine E_t 6 71 ?_; refine E_t 7 72 ?_; refine E_t 8 73 ?_; refine E_t 9 74 ?_; refine E_t 10 75 ?_; refine E_t 11 76 ?_; refine E_t 12 77 ?_; refine E_t 15 80 ?_; refine E_t 16 81 ?_; refine E_t 17 82 ?_; refine E_t 18 83 ?_; refine E_t 19 84 ?_; refine E_t 20 85 ?_; refine E_t 21 86 ?_; refine E_t 22 87 ?_; refine E_ready [13] (by kernel_rfl) (by simp) ?_
     refine AllE.cons (o := ⟨some 78, _, _, _, _, _⟩) rfl (fun K hK => ?_) AllE.nil
     go_simp; clear hHeld; refine hK.out _ _ ⟨(alloc_drew_cell hpr4).trans p2, (alloc_drew_cell hpr4).trans p3, (alloc_drew_cell hpr4).trans p4⟩ (fun hHeld => ?_)
     clear hK K; try simp only [Act.put, aP1, aP2, aP3]
     refine E_ready [14] (by kernel_rfl) (by simp) ?_
     refine AllE.cons (o := ⟨some 79, _, _, _, _, _⟩) rfl (fun K hK => ?_) AllE.nil
     go_simp; go_at_call 48; refine (numbers_any _ 3 [base, (sn : Int), stable] _ (by exact rowd (ints3_row _ _ _ _) (by simp)) (by simp)).mono ?_
     rintro en w6 ⟨A2, c2, rfl, h21, h22, ho2, hx2⟩
     have X2 : Hid (Ext w4 w6) := hJ (((Ext.new _ _).trans Ext.drew1).trans hx2)
     have HR2 := hJ ho2.row
     clear ho2 hx2; have r2 : w6.cell? ⟨p, 2, none⟩ = some (.int .i64 base) := by rw [X2.out.cell (by exact hpr4)]; exact p2
     have r3 : w6.cell? ⟨p, 3, none⟩ = some (.slice Al log.length cl) := by rw [X2.out.cell (by exact hpr4)]; exact p3
     have r4 : w6.cell? ⟨p, 4, none⟩ = some (.int .i64 stable) := by rw [X2.out.cell (by exact hpr4)]; exact p4
     clear hHeld; refine hK.out _ _ ⟨r2, r3, r4⟩ (fun hHeld => ?_)
     clear hK K; try simp only [Act.put, aP1, aP2, aP3]
     refine E_ready [23] (by kernel_rfl) (by simp) ?_
     refine AllE.cons (o := ⟨some 88, _, _, _, _, _⟩) rfl (fun K hK => ?_) AllE.nil
     go_simp; go_at_call 52; refine (appendEntries_len A2 (subA Al sn cl 4) c2 (cl - sn) (en - sn) (numsF [base, (sn : Int), stable]) ((log.take en).drop sn) _ HR2.out (by have := numsF_len [base, (sn : Int), stable]; simp at this; omega) ⟨h21, h22⟩ (HCR.out.ext X2.out) (by rw [List.length_drop, List.length_take]; omega) (fun e he => HLP4.out e (List.mem_of_mem_take (List.mem_of_mem_drop he))) (by rw [List.length_drop, List.length_take]; omega)).mono ?_
     rintro e3 w3' ⟨A3, c3, rfl, h31, h32, ho3, hx3⟩
     rw [← HBD.out] at h31 ho3 ⊢
     have X3' : Hid (Ext w4 w3') := hJ (X2.out.trans hx3)
     have HR3 := hJ ho3.row
     clear ho3 hx3; have s2 : w3'.cell? ⟨p, 2, none⟩ = some (.int .i64 base) := by rw [X3'.out.cell (by exact hpr4)]; exact p2
     have s3 : w3'.cell? ⟨p, 3, none⟩ = some (.slice Al log.length cl) := by rw [X3'.out.cell (by exact hpr4)]; exact p3
     have s4 : w3'.cell? ⟨p, 4, none⟩ = some (.int .i64 stable) := by rw [X3'.out.cell (by exact hpr4)]; exact p4
     clear hHeld; refine hK.out _ _ ⟨s2, s3, s4⟩ (fun hHeld => ?_)
     clear hK K; try simp only [Act.put, aP1, aP2, aP3]
     refine E_tail (by rfl) (by kernel_rfl) ?_
     go_wp2_with fail
     refine (send_any MM B col' p x 12 A3 c3 bd w3' (C4.out.ext X3'.out) HR3.out hbl (by decide) (by have := HKM.out.2; rw [HMM.out]; simp only at this ⊢; omega)).mono ?_
     rintro en' w5 ⟨m5, col5, rfl, hc5, hm5, hs5⟩
     have S5 : Hid (Stp B [1, 2, 3, 4, 5, 7] col2 w2 col5 w5) := hJ (HS.out.trans (((Stp.ext' HC.out.Bsz (X4.out.trans X3'.out))).trans hs5))
     go_wp2; go_roundw
     case rel => exact ⟨k + 1, m5, col5, by omega, by go_num, hJ hc5, hJ (by rw [hm5, HFS.out, ← HM.out, HST.out]), S5⟩
     case measure => simp [intOf]; omega
  ·have hkl : xs.take k = xs := List.take_of_length_le (by omega)
   rw [hkl] at HM
   go_wp2; go_end0; rw [HLD2.out, ← HM.out]
   exact ⟨m', col', rfl, HC.out, rfl, S2.out.trans HS.out⟩
end Go.Proofs.YtponbabbabnaeaaGreat
