/- Part 21 of the proof: contracts of functions that the statement reaches. Conditions: as each theorem says. -/
import Derived.Test.YtponbabbabnaeaaGreatQb01
import Derived.Test.YtponbabbabnaeaaGreatQb20
import Derived.Test.YtponbabbabnaeaaGreatQb16
import Derived.Test.YtponbabbabnaeaaGreatQb09
import Derived.Test.YtponbabbabnaeaaGreatQb02
import Derived.Test.YtponbabbabnaeaaGreatQb15
namespace Go.Proofs.YtponbabbabnaeaaGreat
open Go.RowKit
theorem wrote_setCells (b : Nat) : ∀ (vs : List Value) (o : Nat) (w : World), Wrote b w (w.setCells b o vs)
 | [], _, w => Wrote.refl b w
 | u :: vs, o, w => (Wrote.set b o w u).trans (wrote_setCells b vs (o + 1) _)
set_option maxRecDepth 100000 in
set_option maxHeartbeats 1000000 in
theorem insF_any (B : Nat) (A : Option Addr) (c : Nat) (l : List FlM) (x : FlM) (i : Nat) (w : World) (ho : flE.Own w B (.slice A l.length c) l) (hB : B ≤ w.heap.size) (g c2 : Nat) (hg : BIs w g (flE.f x).toArray 80) (hgo : ∀ k, (Value.slice A l.length c).ownBlock = some k → k ≠ g) (hi : i < l.length) (hn : l.length ≤ 100000) :
  Calls Tryz.prog 127 #[.slice A l.length c, .int .i64 i, .slice (some ⟨g, 0, none⟩) 1 c2] w fun e w' => ∃ v', e = .returned v' ∧ flE.Own w' B v' (l.take i ++ x :: l.drop i) ∧ Grew w w' (.slice A l.length c) ∧ Stems w (.slice A l.length c) v' := by
 obtain ⟨hcl, h2⟩ := ho
 rcases h2 with ⟨_, h3⟩ | ⟨g0, cap, cur, hv, h3, hh, h4, h5, h6, h7⟩
 ·omega
 cases hv
 have hb : BIs w g0 cur 80 := hh
 have hk : flE.k = 3 := rfl
 have hlen : (l.take i ++ x :: l.drop i).length = l.length + 1 := by simp only [List.length_append, List.length_take, List.length_cons, List.length_drop]; omega
 have hcells : flE.cells (l.take i ++ x :: l.drop i) = (flE.cells l).take (i * 3) ++ flE.f x ++ (flE.cells l).drop (i * 3) := flE.cells_ins l i x
 have hCl : (flE.cells l).length = l.length * 3 := flE.cells_len l
 have hfx : (flE.f x).length = 3 := flE.len x
 have h6' : cur.size = c * 3 := h6
 have h7' : cur.toList.take (l.length * 3) = flE.cells l := h7
 have hcs : ∀ j v, (flE.cells l)[j]? = some v → w.cell? ⟨g0, j, none⟩ = some v := fun j v hj => by
  rw [hb.cell, ← h7', List.getElem?_take] at *
  split at hj
  ·simpa using hj
  ·cases hj
 have hvs : ∀ j v, (flE.f x)[j]? = some v → w.cell? ⟨g, j, none⟩ = some v := fun j v hj => by rw [hg.cell]; simpa using hj
 have hml : maxLen ≤ 9223372036854775807 := by unfold maxLen; decide
 have hgne : g0 ≠ g := hgo g0 rfl
 by_cases hroom : l.length + 1 ≤ c
 ·have hsz0 : (l.length + 1) * 3 ≤ cur.size := by rw [h6']; omega
  refine (insF_shift g0 l.length c i g c2 (flE.cells l) (flE.f x) w hi hroom (by omega) (by omega) (Ne.symm hgne) hCl hfx hcs (fun j hj => ?_) (fun j _ => hb.free j) hvs (flE.cells_one l) (flE.one x) 80 80 (flE.f x).toArray.size cur.size ?_ ?_ (by omega) (hg.free 0) (hg.free _)).mono ?_
  ·rw [hb.cell, Array.getElem?_eq_getElem (by omega)]; rfl
  ·unfold World.shape?; rw [show w.heap[g]? = _ from hg]
  ·unfold World.shape?; rw [show w.heap[g0]? = _ from hb]
  rintro e w' ⟨rfl, rfl⟩
  have hdl : ((flE.cells l).drop (i * 3)).length = (l.length - i) * 3 := by rw [List.length_drop, hCl]; omega
  have hb1 : BIs (w.drew.setCells g0 ((i + 1) * 3) ((flE.cells l).drop (i * 3))) g0 (putL cur.toList ((i + 1) * 3) ((flE.cells l).drop (i * 3))).toArray 80 := bis_setCells _ g0 _ _ w.drew cur hb (by rw [hdl]; omega)
  have hX : (i + 1) * 3 + (l.length - i) * 3 ≤ cur.size := by omega
  have hY : l.length * 3 + 3 ≤ cur.size := by omega
  have hT : cur.toList.length = cur.size := by simp
  have hp1 : (putL cur.toList ((i + 1) * 3) ((flE.cells l).drop (i * 3))).length = cur.size := by rw [putL_len (by rw [hdl, hT]; exact hX), hT]
  have hb2 := bis_setCells 80 g0 (flE.f x) (i * 3) _ _ hb1 (by rw [List.size_toArray, hp1, hfx]; have := Nat.mul_le_mul_right 3 (show i + 1 ≤ l.length + 1 by omega); omega)
  refine ⟨.slice (some ⟨g0, 0, none⟩) (l.length + 1) c, rfl, ⟨by rw [flE.cells_len], .inr ⟨g0, c, _, by rw [hlen], h3, hb2, by omega, h5, ?_, ?_⟩⟩, ?_, .inl rfl⟩
  ·simp only [List.size_toArray]
   rw [putL_len (by rw [hfx, hp1]; omega), hp1]; exact h6
  ·rw [hlen, hcells]
   have := ins_put (L := cur.toList) (C := flE.cells l) (fx := flE.f x) (a := i * 3) (k := 3) (N := l.length * 3) h7' hCl (Nat.mul_le_mul_right 3 (by omega)) hfx (by rw [hT]; exact hY)
   rw [show i * 3 + 3 = (i + 1) * 3 by omega, show l.length * 3 + 3 = (l.length + 1) * flE.k by rw [hk]; omega] at this
   simpa using this
  ·exact ((Wrote.of (p := g0) Ext.drew1).trans (wrote_setCells g0 _ _ _)).trans (wrote_setCells g0 _ _ _)
 ·refine (insF_grow g0 l.length c i g c2 (flE.cells l) (flE.f x) w hi h4 (by omega) (by omega) hCl hfx hcs hvs (flE.cells_one l) (flE.one x)).mono ?_
  rintro e w' ⟨rfl, rfl⟩
  obtain ⟨G, hG⟩ : ∃ G, G = grownCap w (l.length + 1) c 80 := ⟨_, rfl⟩
  have hGn : l.length + 1 ≤ G := by rw [hG]; exact grownCap_ge w _ _ _
  have hG63 : G ≤ maxLen := by
   have := grownCap_le_maxLen w (l.length + 1) c 80 (by unfold maxLen; omega)
   rw [← hG] at this
   exact this
  rw [← hG]
  clear hG; have hzk : flE.z.cells.size = 3 := flE.zk
  have htk : ((flE.cells l).take (i * 3)).length = i * 3 := by rw [List.length_take, hCl]; omega
  obtain ⟨ROW, hROW⟩ : ∃ ROW : Array Value, ROW = ((flE.cells l).take (i * 3)).toArray ++ Builtin.zeroCells flE.z.cells (l.length + 1 - i) ++ Builtin.zeroCells flE.z.cells (G - (l.length + 1)) := ⟨_, rfl⟩
  rw [← hROW]
  have hRs : ROW.size = G * 3 := by
   rw [hROW]
   simp only [Array.size_append, List.size_toArray, htk, size_zeroCells, hzk]
   omega
  have hRt : ROW.toList.take (i * 3) = (flE.cells l).take (i * 3) := by
   rw [hROW]
   simp only [Array.toList_append, List.append_assoc]
   rw [List.take_append_of_le_length (by omega), List.take_of_length_le (by omega)]
  clear hROW; have hdl : ((flE.cells l).drop (i * 3)).length = (l.length - i) * 3 := by rw [List.length_drop, hCl]; omega
  have hT : ROW.toList.length = ROW.size := by simp
  have hX1 : i * 3 + 3 ≤ ROW.size := by omega
  have hX2 : (i + 1) * 3 + (l.length - i) * 3 ≤ ROW.size := by omega
  have hb0 : BIs (w.alloc (.cells ROW 80)).drew w.heap.size ROW 80 := BIs.new w ROW 80
  have hb1 := bis_setCells 80 w.heap.size (flE.f x) (i * 3) _ _ hb0 (by rw [hfx]; exact hX1)
  have hp1 : (putL ROW.toList (i * 3) (flE.f x)).length = ROW.size := by rw [putL_len (by rw [hfx, hT]; exact hX1), hT]
  have hb1' : BIs (((w.alloc (.cells ROW 80)).drew.setCells w.heap.size (i * 3) (flE.f x)).drew) w.heap.size (putL ROW.toList (i * 3) (flE.f x)).toArray 80 := hb1
  have hb2 := bis_setCells 80 w.heap.size ((flE.cells l).drop (i * 3)) ((i + 1) * 3) _ _ hb1' (by rw [List.size_toArray, hp1, hdl]; exact hX2)
  have hx : Ext w ((((w.alloc (.cells ROW 80)).drew.setCells w.heap.size (i * 3) (flE.f x)).drew).setCells w.heap.size ((i + 1) * 3) ((flE.cells l).drop (i * 3))) :=
   (wrote_setCells w.heap.size _ _ _).ext (((wrote_setCells w.heap.size _ _ _).ext ((Ext.new w (.cells ROW 80)).trans Ext.drew1) (Nat.le_refl _)).trans Ext.drew1) (Nat.le_refl _)
  refine ⟨.slice (some ⟨w.heap.size, 0, none⟩) (l.length + 1) G, rfl, ⟨by rw [flE.cells_len], .inr ⟨w.heap.size, G, _, by rw [hlen], hB, hb2, by omega, hG63, ?_, ?_⟩⟩, Wrote.of hx, .inr ⟨w.heap.size, rfl, Nat.le_refl _⟩⟩
  ·simp only [List.size_toArray]
   rw [putL_len (by rw [hdl, hp1]; exact hX2), hp1]; exact hRs
  ·rw [hlen, hcells]
   have e1 : (putL ROW.toList (i * 3) (flE.f x)).take ((i + 1) * 3) = (flE.cells l).take (i * 3) ++ flE.f x := by
    unfold putL
    rw [hRt, List.take_append_of_le_length (by rw [List.length_append, htk, hfx]; omega), List.take_of_length_le (by rw [List.length_append, htk, hfx]; omega)]
   show (putL (putL ROW.toList (i * 3) (flE.f x)) ((i + 1) * 3) ((flE.cells l).drop (i * 3))).take ((l.length + 1) * 3) = _
   unfold putL at *
   rw [e1, List.take_append_of_le_length (by simp only [List.length_append, htk, hfx, hdl]; omega), List.take_of_length_le (by simp only [List.length_append, htk, hfx, hdl]; omega)]
set_option maxRecDepth 100000 in
set_option maxHeartbeats 1000000 in
theorem insM_any (B : Nat) (A : Option Addr) (c : Nat) (l : List (Int × Int)) (x : (Int × Int)) (i : Nat) (w : World) (ho : markE.Own w B (.slice A l.length c) l) (hB : B ≤ w.heap.size) (g c2 : Nat) (hg : BIs w g (markE.f x).toArray 123) (hgo : ∀ k, (Value.slice A l.length c).ownBlock = some k → k ≠ g) (hi : i < l.length) (hn : l.length ≤ 100000) :
  Calls Tryz.prog 186 #[.slice A l.length c, .int .i64 i, .slice (some ⟨g, 0, none⟩) 1 c2] w fun e w' => ∃ v', e = .returned v' ∧ markE.Own w' B v' (l.take i ++ x :: l.drop i) ∧ Grew w w' (.slice A l.length c) ∧ Stems w (.slice A l.length c) v' := by
 obtain ⟨hcl, h2⟩ := ho
 rcases h2 with ⟨_, h3⟩ | ⟨g0, cap, cur, hv, h3, hh, h4, h5, h6, h7⟩
 ·omega
 cases hv
 have hb : BIs w g0 cur 123 := hh
 have hk : markE.k = 2 := rfl
 have hlen : (l.take i ++ x :: l.drop i).length = l.length + 1 := by simp only [List.length_append, List.length_take, List.length_cons, List.length_drop]; omega
 have hcells : markE.cells (l.take i ++ x :: l.drop i) = (markE.cells l).take (i * 2) ++ markE.f x ++ (markE.cells l).drop (i * 2) := markE.cells_ins l i x
 have hCl : (markE.cells l).length = l.length * 2 := markE.cells_len l
 have hfx : (markE.f x).length = 2 := markE.len x
 have h6' : cur.size = c * 2 := h6
 have h7' : cur.toList.take (l.length * 2) = markE.cells l := h7
 have hcs : ∀ j v, (markE.cells l)[j]? = some v → w.cell? ⟨g0, j, none⟩ = some v := fun j v hj => by
  rw [hb.cell, ← h7', List.getElem?_take] at *
  split at hj
  ·simpa using hj
  ·cases hj
 have hvs : ∀ j v, (markE.f x)[j]? = some v → w.cell? ⟨g, j, none⟩ = some v := fun j v hj => by rw [hg.cell]; simpa using hj
 have hml : maxLen ≤ 9223372036854775807 := by unfold maxLen; decide
 have hgne : g0 ≠ g := hgo g0 rfl
 by_cases hroom : l.length + 1 ≤ c
 ·have hsz0 : (l.length + 1) * 2 ≤ cur.size := by rw [h6']; omega
  refine (insM_shift g0 l.length c i g c2 (markE.cells l) (markE.f x) w hi hroom (by omega) (by omega) (Ne.symm hgne) hCl hfx hcs (fun j hj => ?_) (fun j _ => hb.free j) hvs (markE.cells_one l) (markE.one x) 123 123 (markE.f x).toArray.size cur.size ?_ ?_ (by omega) (hg.free 0) (hg.free _)).mono ?_
  ·rw [hb.cell, Array.getElem?_eq_getElem (by omega)]; rfl
  ·unfold World.shape?; rw [show w.heap[g]? = _ from hg]
  ·unfold World.shape?; rw [show w.heap[g0]? = _ from hb]
  rintro e w' ⟨rfl, rfl⟩
  have hdl : ((markE.cells l).drop (i * 2)).length = (l.length - i) * 2 := by rw [List.length_drop, hCl]; omega
  have hb1 : BIs (w.drew.setCells g0 ((i + 1) * 2) ((markE.cells l).drop (i * 2))) g0 (putL cur.toList ((i + 1) * 2) ((markE.cells l).drop (i * 2))).toArray 123 := bis_setCells _ g0 _ _ w.drew cur hb (by rw [hdl]; omega)
  have hX : (i + 1) * 2 + (l.length - i) * 2 ≤ cur.size := by omega
  have hY : l.length * 2 + 2 ≤ cur.size := by omega
  have hT : cur.toList.length = cur.size := by simp
  have hp1 : (putL cur.toList ((i + 1) * 2) ((markE.cells l).drop (i * 2))).length = cur.size := by rw [putL_len (by rw [hdl, hT]; exact hX), hT]
  have hb2 := bis_setCells 123 g0 (markE.f x) (i * 2) _ _ hb1 (by rw [List.size_toArray, hp1, hfx]; have := Nat.mul_le_mul_right 2 (show i + 1 ≤ l.length + 1 by omega); omega)
  refine ⟨.slice (some ⟨g0, 0, none⟩) (l.length + 1) c, rfl, ⟨by rw [markE.cells_len], .inr ⟨g0, c, _, by rw [hlen], h3, hb2, by omega, h5, ?_, ?_⟩⟩, ?_, .inl rfl⟩
  ·simp only [List.size_toArray]
   rw [putL_len (by rw [hfx, hp1]; omega), hp1]; exact h6
  ·rw [hlen, hcells]
   have := ins_put (L := cur.toList) (C := markE.cells l) (fx := markE.f x) (a := i * 2) (k := 2) (N := l.length * 2) h7' hCl (Nat.mul_le_mul_right 2 (by omega)) hfx (by rw [hT]; exact hY)
   rw [show i * 2 + 2 = (i + 1) * 2 by omega, show l.length * 2 + 2 = (l.length + 1) * markE.k by rw [hk]; omega] at this
   simpa using this
  ·exact ((Wrote.of (p := g0) Ext.drew1).trans (wrote_setCells g0 _ _ _)).trans (wrote_setCells g0 _ _ _)
 ·refine (insM_grow g0 l.length c i g c2 (markE.cells l) (markE.f x) w hi h4 (by omega) (by omega) hCl hfx hcs hvs (markE.cells_one l) (markE.one x)).mono ?_
  rintro e w' ⟨rfl, rfl⟩
  obtain ⟨G, hG⟩ : ∃ G, G = grownCap w (l.length + 1) c 123 := ⟨_, rfl⟩
  have hGn : l.length + 1 ≤ G := by rw [hG]; exact grownCap_ge w _ _ _
  have hG63 : G ≤ maxLen := by
   have := grownCap_le_maxLen w (l.length + 1) c 123 (by unfold maxLen; omega)
   rw [← hG] at this
   exact this
  rw [← hG]
  clear hG; have hzk : markE.z.cells.size = 2 := markE.zk
  have htk : ((markE.cells l).take (i * 2)).length = i * 2 := by rw [List.length_take, hCl]; omega
  obtain ⟨ROW, hROW⟩ : ∃ ROW : Array Value, ROW = ((markE.cells l).take (i * 2)).toArray ++ Builtin.zeroCells markE.z.cells (l.length + 1 - i) ++ Builtin.zeroCells markE.z.cells (G - (l.length + 1)) := ⟨_, rfl⟩
  rw [← hROW]
  have hRs : ROW.size = G * 2 := by
   rw [hROW]
   simp only [Array.size_append, List.size_toArray, htk, size_zeroCells, hzk]
   omega
  have hRt : ROW.toList.take (i * 2) = (markE.cells l).take (i * 2) := by
   rw [hROW]
   simp only [Array.toList_append, List.append_assoc]
   rw [List.take_append_of_le_length (by omega), List.take_of_length_le (by omega)]
  clear hROW; have hdl : ((markE.cells l).drop (i * 2)).length = (l.length - i) * 2 := by rw [List.length_drop, hCl]; omega
  have hT : ROW.toList.length = ROW.size := by simp
  have hX1 : i * 2 + 2 ≤ ROW.size := by omega
  have hX2 : (i + 1) * 2 + (l.length - i) * 2 ≤ ROW.size := by omega
  have hb0 : BIs (w.alloc (.cells ROW 123)).drew w.heap.size ROW 123 := BIs.new w ROW 123
  have hb1 := bis_setCells 123 w.heap.size (markE.f x) (i * 2) _ _ hb0 (by rw [hfx]; exact hX1)
  have hp1 : (putL ROW.toList (i * 2) (markE.f x)).length = ROW.size := by rw [putL_len (by rw [hfx, hT]; exact hX1), hT]
  have hb1' : BIs (((w.alloc (.cells ROW 123)).drew.setCells w.heap.size (i * 2) (markE.f x)).drew) w.heap.size (putL ROW.toList (i * 2) (markE.f x)).toArray 123 := hb1
  have hb2 := bis_setCells 123 w.heap.size ((markE.cells l).drop (i * 2)) ((i + 1) * 2) _ _ hb1' (by rw [List.size_toArray, hp1, hdl]; exact hX2)
  have hx : Ext w ((((w.alloc (.cells ROW 123)).drew.setCells w.heap.size (i * 2) (markE.f x)).drew).setCells w.heap.size ((i + 1) * 2) ((markE.cells l).drop (i * 2))) :=
   (wrote_setCells w.heap.size _ _ _).ext (((wrote_setCells w.heap.size _ _ _).ext ((Ext.new w (.cells ROW 123)).trans Ext.drew1) (Nat.le_refl _)).trans Ext.drew1) (Nat.le_refl _)
  refine ⟨.slice (some ⟨w.heap.size, 0, none⟩) (l.length + 1) G, rfl, ⟨by rw [markE.cells_len], .inr ⟨w.heap.size, G, _, by rw [hlen], hB, hb2, by omega, hG63, ?_, ?_⟩⟩, Wrote.of hx, .inr ⟨w.heap.size, rfl, Nat.le_refl _⟩⟩
  ·simp only [List.size_toArray]
   rw [putL_len (by rw [hdl, hp1]; exact hX2), hp1]; exact hRs
  ·rw [hlen, hcells]
   have e1 : (putL ROW.toList (i * 2) (markE.f x)).take ((i + 1) * 2) = (markE.cells l).take (i * 2) ++ markE.f x := by
    unfold putL
    rw [hRt, List.take_append_of_le_length (by rw [List.length_append, htk, hfx]; omega), List.take_of_length_le (by rw [List.length_append, htk, hfx]; omega)]
   show (putL (putL ROW.toList (i * 2) (markE.f x)) ((i + 1) * 2) ((markE.cells l).drop (i * 2))).take ((l.length + 1) * 2) = _
   unfold putL at *
   rw [e1, List.take_append_of_le_length (by simp only [List.length_append, htk, hfx, hdl]; omega), List.take_of_length_le (by simp only [List.length_append, htk, hfx, hdl]; omega)]
end Go.Proofs.YtponbabbabnaeaaGreat
namespace Go.Proofs.YtponbabbabnaeaaGreat
open Go.RowKit
theorem countP_snoc {α : Type} {l : List α} {k : Nat} {x : α} (q : α → Bool) (h : l[k]? = some x) : (l.take (k + 1)).countP q = (l.take k).countP q + (if q x then 1 else 0) := by
 rw [List.take_add_one, h, List.countP_append]
 simp [List.countP_cons]
theorem cover_eq (fls : List FlM) (n : Int) (xs : List Int) : coverB (fls.map FlM.v) (n, xs) = decide (majZ xs.length ≤ ((fls.countP fun f => hasB xs f.m : Nat) : Int)) := by
 unfold coverB
 rw [List.countP_map]
 rfl
set_option maxRecDepth 100000 in
set_option maxHeartbeats 1000000 in
theorem covered_any (m : CM) (B : Nat) (col : Nat → Nat) (p : Nat) (n : Int) (A : Option Addr) (c : Nat) (xs : List Int) (w : World) (h : CS w B col p m) (hr : Row w A (ints xs)) (hx : xs.length ≤ 1000000) :
  Calls Tryz.prog 128 #[.pointer (some ⟨p, 0, none⟩), .agg #[.int .i64 n, .slice A xs.length c]] w fun en w' => en = .returned (.bool (coverB (m.b.fls.map FlM.v) (n, xs))) ∧ Ext w w' := by
 have HB := hJ h.lies.reads.fls
 have q8 := h.cell 8
 have hln := h.fits.fls
 have hpl := h.lt
 have HR := hJ hr
 obtain ⟨⟨self, base, stable, sent, Av, cv, vs, Al, cl, log, Ap, cp, pend, Am, cm, marks, Af, cf, fls⟩, Ak, ck, pk, Ad, cd, dl⟩ := m
 simp only at hln HB ⊢
 rw [cover_eq]
 replace q8 : w.cell? ⟨p, 8, none⟩ = some (.slice Af fls.length cf) := q8
 clear h hr; have E0 : Hid (Ext w (w.alloc (.cells #[.int .i64 n, .slice A xs.length c] 46))) := hJ (Ext.new _ _)
 have V0 : Hid (BIs (w.alloc (.cells #[.int .i64 n, .slice A xs.length c] 46)) w.heap.size #[.int .i64 n, .slice A xs.length c] 46) := hJ (BIs.new _ _ _)
 go_enter Tryz.func128, Tryz.ntmps128
 go_wp2; generalize w.alloc (.cells #[.int .i64 n, .slice A xs.length c] 46) = u0 at *
 go_loopw [5, 14] (fun s i wr => ∃ (k : Nat), k ≤ fls.length ∧ i = .int .i64 k ∧ s = .int .i64 (((fls.take k).countP fun f => hasB xs f.m : Nat) : Int) ∧ Hid (Ext u0 wr)) (fun _ i _ => fls.length - (intOf i).toNat)
 case atStart => exact ⟨0, Nat.zero_le _, rfl, by simp, hJ (Ext.refl _)⟩
 case round =>
  obtain ⟨k, hk, rfl, rfl, HX⟩ := hrel
  have hcl : (fls.take k).countP (fun f => hasB xs f.m) ≤ k := Nat.le_trans List.countP_le_length (by rw [List.length_take]; omega)
  obtain ⟨ct, hct⟩ : ∃ x, x = (fls.take k).countP (fun f => hasB xs f.m) := ⟨_, rfl⟩
  rw [← hct] at hcl ⊢
  have HCT := hJ hct
  clear hct; by_cases hlt : k < fls.length
  ·obtain ⟨bb, off, f, rfl, hb, c0, c1, c2, HFR, HF⟩ := fls_at ((HB.out.ext E0.out).ext HX.out) hlt
   have v1 : wr.cell? ⟨w.heap.size, 1, none⟩ = some (.slice A xs.length c) := (V0.out.ext HX.out).cell 1
   have hvl : w.heap.size < wr.heap.size := (V0.out.ext HX.out).lt
   have HS := hJ (countP_snoc (fun f => hasB xs f.m) HF.out)
   have X1 : Hid (Ext u0 (wr.alloc (.cells #[.int .i64 f.m, .int .i64 f.b, .slice f.A f.log.length f.c] 80))) := hJ (HX.out.trans (Ext.new _ _))
   have hw1 : IntKind.i64.wrap ((ct : Int) + 1) = (ct : Int) + 1 := IntWalk.i64_in _ (by omega)
   go_wp2_with fail
   refine (contains_any A c xs f.m _ (((HR.out.ext E0.out).ext X1.out)) (by omega)).mono ?_
   rintro en w2 ⟨rfl, rfl⟩
   rw [← HCT.out] at HS
   cases hh : hasB xs f.m with
   | true =>
    rw [hh] at HS
    go_wp2; go_roundw
    case rel => exact ⟨k + 1, by omega, by go_num, by rw [HS.out]; simp, X1⟩
    case measure => simp [intOf]; omega
   | false =>
    rw [hh] at HS
    go_wp2; go_roundw
    case rel => exact ⟨k + 1, by omega, by go_num, by rw [HS.out]; simp, X1⟩
    case measure => simp [intOf]; omega
  ·have hkl : k = fls.length := by omega
   subst hkl
   rw [List.take_length] at HCT
   have v1 : wr.cell? ⟨w.heap.size, 1, none⟩ = some (.slice A xs.length c) := (V0.out.ext HX.out).cell 1
   go_wp2_with fail
   refine (majority_any _ _).mono ?_
   rintro en w2 ⟨rfl, rfl⟩
   go_wp2; go_ret
   exact ⟨ret_bool (by rw [HCT.out]), E0.out.trans HX.out⟩
def chK (fls : List FlM) (base : Int) (k : Nat) : List Ent := (fls.take k).foldl (fun out f => if f.b = base ∧ out.length < f.log.length then f.log else out) []
theorem chK_all (fls : List FlM) (base : Int) : chosenF (fls.map FlM.v) base = chK fls base fls.length := by
 unfold chosenF chK
 rw [List.foldl_map, List.take_length]
 rfl
theorem chK_succ {fls : List FlM} {base : Int} {k : Nat} {f : FlM} (h : fls[k]? = some f) : chK fls base (k + 1) = if f.b = base ∧ (chK fls base k).length < f.log.length then f.log else chK fls base k := by
 unfold chK
 rw [List.take_add_one, h, List.foldl_append]
 rfl
set_option maxRecDepth 100000 in
set_option maxHeartbeats 1000000 in
theorem chosen_any (m : CM) (B : Nat) (col : Nat → Nat) (p : Nat) (bs : Int) (w : World) (h : CS w B col p m) :
  Calls Tryz.prog 129 #[.pointer (some ⟨p, 0, none⟩), .int .i64 bs] w fun en w' => ∃ A c, en = .returned (.slice A (chosenF (m.b.fls.map FlM.v) bs).length c) ∧ (chosenF (m.b.fls.map FlM.v) bs).length ≤ c ∧ c ≤ maxLen ∧ Row w' A (entE.cells (chosenF (m.b.fls.map FlM.v) bs)) ∧ Ext w w' := by
 have HB := hJ h.lies.reads.fls
 have q8 := h.cell 8
 have hln := h.fits.fls
 have HFL := hJ h.fits.fl
 obtain ⟨⟨self, base, stable, sent, Av, cv, vs, Al, cl, log, Ap, cp, pend, Am, cm, marks, Af, cf, fls⟩, Ak, ck, pk, Ad, cd, dl⟩ := m
 simp only at hln HB HFL ⊢
 rw [chK_all]
 replace q8 : w.cell? ⟨p, 8, none⟩ = some (.slice Af fls.length cf) := q8
 clear h; go_enter Tryz.func129, Tryz.ntmps129
 go_wp2; go_loopw [5, 14] (fun s i wr => ∃ (k : Nat) (A : Option Addr) (c : Nat) (l : List Ent), k ≤ fls.length ∧ i = .int .i64 k ∧ s = .slice A l.length c ∧ Hid (l = chK fls bs k) ∧ l.length ≤ 100000 ∧ l.length ≤ c ∧ c ≤ maxLen ∧ Hid (Row wr A (entE.cells l)) ∧ Hid (Ext w wr)) (fun _ i _ => fls.length - (intOf i).toNat)
 case atStart => exact ⟨0, none, 0, [], Nat.zero_le _, rfl, rfl, hJ rfl, Nat.zero_le _, Nat.le_refl _, Nat.zero_le _, hJ (Row.nil _ _), hJ (Ext.refl _)⟩
 case round =>
  obtain ⟨k, A, c, l, hk, rfl, rfl, HL, hl0, hl1, hl2, HRL, HX⟩ := hrel
  by_cases hlt : k < fls.length
  ·obtain ⟨bb, off, f, rfl, hb, c0, c1, c2, HFR, HF⟩ := fls_at (HB.out.ext HX.out) hlt
   have HS := hJ (chK_succ (base := bs) HF.out)
   rw [← HL.out] at HS
   have hfl := (HFL.out f (List.mem_of_getElem? HF.out)).1
   have hok := (HB.out.2 f (List.mem_of_getElem? HF.out)).1
   have X1 : Hid (Ext wr (wr.alloc (.cells #[.int .i64 f.m, .int .i64 f.b, .slice f.A f.log.length f.c] 80))) := hJ (Ext.new _ _)
   by_cases hc : f.b = bs ∧ l.length < f.log.length
   ·have d1 : (f.b == bs) = true := by simpa using hc.1
    have d2 : decide ((l.length : Int) < (f.log.length : Int)) = true := by simp; omega
    rw [if_pos hc] at HS
    have d3 : l.length < f.log.length := hc.2
    clear hc; go_wp2; go_roundw
    case rel => exact ⟨k + 1, f.A, f.c, f.log, by omega, by go_num, rfl, hJ HS.out.symm, hfl, hok.1, hok.2, hJ (HFR.out.ext X1.out), hJ (HX.out.trans X1.out)⟩
    case measure => simp [intOf]; omega
   ·rw [if_neg hc] at HS
    have HS' : Hid (l = chK fls bs (k + 1)) := hJ HS.out.symm
    by_cases h1 : f.b = bs
    ·have d1 : (f.b == bs) = true := by simpa using h1
     have d2 : decide ((l.length : Int) < (f.log.length : Int)) = false := by simp only [decide_eq_false_iff_not]; intro e; exact hc ⟨h1, by omega⟩
     have d3 : ¬ l.length < f.log.length := fun e => hc ⟨h1, e⟩
     clear hc h1; go_wp2; go_roundw
     case rel => exact ⟨k + 1, A, c, l, by omega, by go_num, rfl, HS', hl0, hl1, hl2, hJ (HRL.out.ext X1.out), hJ (HX.out.trans X1.out)⟩
     case measure => simp [intOf]; omega
    ·have d1 : (f.b == bs) = false := by simpa using h1
     clear hc h1; go_wp2; go_roundw
     case rel => exact ⟨k + 1, A, c, l, by omega, by go_num, rfl, HS', hl0, hl1, hl2, hJ (HRL.out.ext X1.out), hJ (HX.out.trans X1.out)⟩
     case measure => simp [intOf]; omega
  ·have hkl : k = fls.length := by omega
   subst hkl
   go_wp2; go_ret
   rw [← HL.out]
   exact ⟨A, c, rfl, hl1, hl2, HRL.out, HX.out⟩
end Go.Proofs.YtponbabbabnaeaaGreat
namespace Go.Proofs.YtponbabbabnaeaaGreat
open Go.RowKit
theorem spot_len {α : Type} (q : α → Bool) : ∀ (l : List α) (k : Nat), (∀ i y, i < k → l[i]? = some y → q y = true) → k ≤ l.length → (∀ y, l[k]? = some y → q y = false) → (l.takeWhile q).length = k
 | [], k, _, hk, _ => by simp at hk; simp [hk]
 | x :: l, 0, _, _, hn => by
  have := hn x rfl
  simp [this]
 | x :: l, k + 1, h, hk, hn => by
  have h0 := h 0 x (by omega) rfl
  rw [List.takeWhile_cons, h0]
  simp only [if_true, List.length_cons, Nat.add_right_cancel_iff]
  exact spot_len q l k (fun i y hi hy => h (i + 1) y (by omega) (by simpa using hy)) (by simpa using hk) (fun y hy => hn y (by simpa using hy))
theorem spotF_eq {l : List FlM} {k : Nat} {mb : Int} (h : ∀ i y, i < k → l[i]? = some y → y.m < mb) (hk : k ≤ l.length) (hn : ∀ y, l[k]? = some y → ¬ y.m < mb) : spotF (l.map FlM.v) mb = k := by
 unfold spotF
 refine spot_len _ _ k (fun i y hi hy => ?_) (by simpa using hk) (fun y hy => ?_)
 ·rw [List.getElem?_map] at hy
  obtain ⟨f, hf, rfl⟩ := Option.map_eq_some_iff.1 hy
  exact decide_eq_true (h i f hi hf)
 ·rw [List.getElem?_map] at hy
  obtain ⟨f, hf, rfl⟩ := Option.map_eq_some_iff.1 hy
  exact decide_eq_false (hn f hf)
theorem spotM_eq {l : List (Int × Int)} {k : Nat} {mb : Int} (h : ∀ i y, i < k → l[i]? = some y → y.1 < mb) (hk : k ≤ l.length) (hn : ∀ y, l[k]? = some y → ¬ y.1 < mb) : spotM l mb = k := by
 unfold spotM
 exact spot_len _ _ k (fun i y hi hy => by simpa using h i y hi hy) hk (fun y hy => by simpa using hn y hy)
theorem putF_set {l : List FlM} {k : Nat} {f g : FlM} (hs : spotF (l.map FlM.v) f.m = k) (hg : l[k]? = some g) (he : g.m = f.m) : putF (l.map FlM.v) f.v = (l.set k f).map FlM.v := by
 unfold putF
 rw [show f.v.1 = f.m from rfl, hs, List.getElem?_map, hg]
 simp only [Option.map_some, FlM.v, he, if_true]
 rw [List.map_set]
 rfl
theorem putF_ins {l : List FlM} {k : Nat} {f : FlM} (hs : spotF (l.map FlM.v) f.m = k) (hn : ∀ g, l[k]? = some g → g.m ≠ f.m) : putF (l.map FlM.v) f.v = (l.take k ++ f :: l.drop k).map FlM.v := by
 unfold putF
 rw [show f.v.1 = f.m from rfl, hs, List.getElem?_map]
 rw [if_neg]
 ·simp [List.map_append, List.map_take, List.map_drop]
 ·intro e
  cases hg : l[k]? with
  | none => rw [hg] at e; cases e
  | some g => rw [hg] at e; simp only [Option.map_some, Option.some.injEq] at e; exact hn g hg e
theorem fl_cells_put : ∀ (l : List FlM) (k : Nat) (x f : FlM), l[k]? = some x → flE.cells (l.set k f) = (((flE.cells l).set (k * 3) (.int .i64 f.m)).set (k * 3 + 1) (.int .i64 f.b)).set (k * 3 + 2) (.slice f.A f.log.length f.c) := by
 intro l
 induction l with
 | nil => intro k x f h; simp at h
 | cons y l ih =>
  intro k x f h
  match k, h with
  | 0, h => rfl
  | k + 1, h =>
   rw [List.set_cons_succ, flE.cells_cons, flE.cells_cons, ih k x f (by simpa using h)]
   have e1 : (k + 1) * 3 + 2 = k * 3 + 2 + 1 + 1 + 1 := by omega
   have e2 : (k + 1) * 3 + 1 = k * 3 + 1 + 1 + 1 + 1 := by omega
   have e3 : (k + 1) * 3 = k * 3 + 1 + 1 + 1 := by omega
   rw [e1, e2, e3]
   rfl
theorem fls_put {w : World} {B g cap : Nat} {l : List FlM} {k : Nat} {x : FlM} (f : FlM) (h : flE.Own w B (.slice (some ⟨g, 0, none⟩) l.length cap) l) (hx : l[k]? = some x) :
  flE.Own (((w.setCell ⟨g, k * 3, none⟩ (.int .i64 f.m)).setCell ⟨g, k * 3 + 1, none⟩ (.int .i64 f.b)).setCell ⟨g, k * 3 + 2, none⟩ (.slice f.A f.log.length f.c)) B (.slice (some ⟨g, 0, none⟩) (l.set k f).length cap) (l.set k f) := by
 obtain ⟨h1, h2⟩ := h
 refine ⟨by rw [flE.cells_len], .inr ?_⟩
 rcases h2 with ⟨h2, _⟩ | ⟨g', cap', cur, hv, h3, hh, h4, h5, h6, h7⟩
 ·cases h2
 ·simp only [Value.slice.injEq, Option.some.injEq, Addr.mk.injEq, and_true, true_and] at hv
  obtain ⟨rfl, rfl⟩ := hv
  refine ⟨g, cap, ((cur.setIfInBounds (k * 3) (.int .i64 f.m)).setIfInBounds (k * 3 + 1) (.int .i64 f.b)).setIfInBounds (k * 3 + 2) (.slice f.A f.log.length f.c), by rw [List.length_set], h3, ?_, by rw [List.length_set]; exact h4, h5, by simpa using h6, ?_⟩
  ·exact heap_setCell_same _ _ _ _ _ _ (heap_setCell_same _ _ _ _ _ _ (heap_setCell_same _ _ _ _ _ _ hh))
  ·rw [List.length_set, Array.toList_setIfInBounds, List.take_set, Array.toList_setIfInBounds, List.take_set, Array.toList_setIfInBounds, List.take_set, h7, fl_cells_put l k x f hx]
theorem fl_own_some {w : World} {B : Nat} {v : Value} {l : List FlM} (h : flE.Own w B v l) (hl : 0 < l.length) : ∃ g c, v = .slice (some ⟨g, 0, none⟩) l.length c ∧ l.length ≤ c ∧ c ≤ maxLen ∧ B ≤ g ∧ g < w.heap.size ∧ ∀ i, w.frozen? ⟨g, i, none⟩ = false := by
 have h' := h
 obtain ⟨_, h2⟩ := h
 rcases h2 with ⟨_, h3⟩ | ⟨g, cap, cur, hv, h3, hh, h4, h5, h6, h7⟩
 ·omega
 ·subst hv
  exact ⟨g, cap, rfl, h4, h5, h3, (h'.lt g rfl).2, fun i => (show BIs w g cur _ from hh).free i⟩
theorem CS.fl_ob {w : World} {B : Nat} {col : Nat → Nat} {p : Nat} {m : CM} (h : CS w B col p m) : flE.OB w B (.slice m.b.Af m.b.fls.length m.b.cf) m.b.fls := ⟨h.lies.fls, fun f hf => ⟨(h.lies.fi f hf).1, fun r hr => by
 simp only [flE, List.mem_cons, List.not_mem_nil, or_false] at hr
 subst hr
 exact ⟨(h.lies.fi f hf).2.1, fun p' q hne hp hq e => by have h1 := (h.lies.fi f hf).2.2 p' hne hp; have h2 := h.lies.fc q hq; rw [e, h1] at h2; cases h2⟩⟩⟩
theorem fl1_row (a b : Int) (A : Option Addr) (c : Nat) (l : List Ent) (w : World) : BIs (w.alloc (.cells #[.int .i64 a, .int .i64 b, .slice A l.length c] 80)) w.heap.size (flE.f ⟨a, b, A, c, l⟩).toArray 80 := BIs.new _ _ _
theorem bis_row {w : World} {g : Nat} {x : FlM} (h : BIs w g (flE.f x).toArray 80) : Row w (some ⟨g, 0, none⟩) (flE.cells [x]) := by
 intro _
 refine ⟨g, 0, rfl, h.lt, fun j q hj => ?_⟩
 rw [flE.cells_cons] at hj
 have hj' : (flE.f x)[j]? = some q := by simpa [Elem.cells] using hj
 rw [h.cell]; simpa using hj'
set_option maxRecDepth 100000 in
set_option maxHeartbeats 1000000 in
theorem insF_end (B : Nat) (A : Option Addr) (c : Nat) (l : List FlM) (x : FlM) (w : World) (ho : flE.OB w B (.slice A l.length c) l) (hB : B ≤ w.heap.size) (g c2 : Nat) (hr : Row w (some ⟨g, 0, none⟩) (flE.cells [x])) (hx : flE.ok x ∧ ∀ r ∈ flE.inn x, Row w r.1 r.2 ∧ Apt (.slice A l.length c) r) (hn : l.length ≤ 1000000) (hc : l.length ≤ c ∧ c ≤ maxLen) :
  Calls Tryz.prog 127 #[.slice A l.length c, .int .i64 (l.length : Int), .slice (some ⟨g, 0, none⟩) 1 c2] w fun e w' => ∃ v', e = .returned v' ∧ flE.Own w' B v' (l ++ [x]) ∧ Grew w w' (.slice A l.length c) ∧ Stems w (.slice A l.length c) v' := by
 have HO := hJ ho; have HR := hJ hr
 have HX : Hid (∀ q ∈ [x], flE.ok q ∧ ∀ r ∈ flE.inn q, Row w r.1 r.2 ∧ Apt (.slice A l.length c) r) := hJ (fun q hq => by simp only [List.mem_cons, List.not_mem_nil, or_false] at hq; subst hq; exact hx)
 clear ho hr hx; obtain ⟨hc1, hc2⟩ := hc
 rcases A with _ | ad
 ·go_enter Tryz.func127, Tryz.ntmps127
  go_wp2_with (first
   | (at_builtin; refine push_e flE rfl (.tmp 23) (.tmp 24) rfl _ B _ l (by rfl) _ _ _ [x] (by rfl) rfl HR.out HO.out HX.out (by simp; omega) hB ?_; intro v1 w1 ho1 hg1 hs1))
  all_goals (go_ret; exact ⟨v1, rfl, ho1.1, hg1, hs1⟩)
 ·go_enter Tryz.func127, Tryz.ntmps127
  go_wp2_with (first
   | (at_builtin; refine push_e flE rfl (.tmp 23) (.tmp 24) rfl _ B _ l (by rfl) _ _ _ [x] (by rfl) rfl HR.out HO.out HX.out (by simp; omega) hB ?_; intro v1 w1 ho1 hg1 hs1))
  all_goals (go_ret; exact ⟨v1, rfl, ho1.1, hg1, hs1⟩)
end Go.Proofs.YtponbabbabnaeaaGreat
namespace Go.Proofs.YtponbabbabnaeaaGreat
theorem prevV_app {l : List Ent} {e : Ent} {i : Nat} (h : i ≤ l.length) (h0 : 0 < i) : prevV (l ++ [e]) i = prevV l i := by
 unfold prevV
 rw [List.getElem?_append_left (by omega)]
theorem okEnt_app {l : List Ent} {e x : Ent} {i : Nat} (h : i < l.length) : okEnt (l ++ [e]) i x = okEnt l i x := by
 unfold okEnt
 by_cases h0 : i = 0
 ·subst h0
  simp
 ·rw [prevV_app (by omega) (by omega), List.take_append_of_le_length (by omega)]
theorem vlog_snoc {l : List Ent} {e : Ent} (h : validLog l = true) (hl : l.length < 2000) (he : okEnt (l ++ [e]) l.length e = true) : validLog (l ++ [e]) = true := by
 unfold validLog at *
 simp only [Bool.and_eq_true, decide_eq_true_eq, List.all_eq_true, List.mem_range] at h ⊢
 refine ⟨by simp; omega, fun i hi => ?_⟩
 simp only [List.length_append, List.length_cons, List.length_nil] at hi
 by_cases hlt : i < l.length
 ·obtain ⟨x, hx⟩ : ∃ x, l[i]? = some x := ⟨l[i], by simp [hlt]⟩
  have h1 := h.2 i hlt
  rw [okAtL_eq hx] at h1
  rw [okAtL_eq (e := x) (by rw [List.getElem?_append_left hlt]; exact hx), okEnt_app hlt]
  exact h1
 ·have : i = l.length := by omega
  subst this
  rw [okAtL_eq (e := e) (by simp)]
  exact he
theorem vlog_own {l : List Ent} {base self : Int} {p : List UInt8} (h : validLog l = true) (hl : l.length < 2000) (h0 : 0 < l.length) (hb : lastE l = base) (hi : isId self = true) (hp : p.length ≤ 6000) :
    validLog (l ++ [⟨base, self, (ownN l self : Int) + 1, p⟩]) = true ∧ lastE (l ++ [⟨base, self, (ownN l self : Int) + 1, p⟩]) = base := by
  have hpv : prevV (l ++ [⟨base, self, (ownN l self : Int) + 1, p⟩]) l.length = base := by
    rw [prevV_app (Nat.le_refl _) h0]
    exact hb
  refine ⟨vlog_snoc h hl ?_, ?_⟩
  · unfold okEnt
    rw [hpv, if_neg (by rintro (h | h); · omega
                        · exact h rfl), List.take_left]
    simp [hi, hp]
  · unfold lastE
    simp
theorem takeL_snoc (s : St) (j : Nat) : takeL s (j + 1) = takeL s j ++ [⟨s.base, s.self, (ownN (takeL s j) s.self : Int) + 1, pendAt s (ownN s.log s.self + 1 + j)⟩] := by
 rw [ownN_take_more, show ((ownN s.log s.self + j : Nat) : Int) + 1 = (ownN s.log s.self : Int) + 1 + j by omega]
 unfold takeL
 rw [List.range_succ, List.map_append, ← List.append_assoc]
 simp only [List.map_cons, List.map_nil]
theorem pendAt_le {s : St} (h : ∀ p ∈ s.pend, p.length ≤ 6000) (q : Int) : (pendAt s q).length ≤ 6000 := by
 unfold pendAt
 cases hx : s.pend[((s.pend.length : Int) - 1 - (s.sent - q)).toNat]? with
 | none => simp
 | some p => exact h p (List.mem_of_getElem? hx)
theorem takeL_valid {s : St} (h : validLog s.log = true) (h0 : 0 < s.log.length) (hb : lastE s.log = s.base) (hi : isId s.self = true) (hp : ∀ p ∈ s.pend, p.length ≤ 6000) : ∀ j, s.log.length + j ≤ 2000 → validLog (takeL s j) = true ∧ lastE (takeL s j) = s.base := by
 intro j
 induction j with
 | zero => intro _; simp only [takeL, List.range_zero, List.map_nil, List.append_nil]; exact ⟨h, hb⟩
 | succ j ih =>
  intro hj
  obtain ⟨h1, h2⟩ := ih (by omega)
  rw [takeL_snoc]
  exact vlog_own h1 (by rw [takeL_len]; omega) (by rw [takeL_len]; omega) h2 hi (pendAt_le hp _)
theorem follow_same (l : List Nat) : ∀ c : Cs, (l.foldl followStep c).s = c.s ∧ (l.foldl followStep c).dl = c.dl := by
 induction l with
 | nil => intro c; exact ⟨rfl, rfl⟩
 | cons x l ih => intro c; obtain ⟨h1, h2⟩ := ih (followStep c x); exact ⟨h1, h2⟩
end Go.Proofs.YtponbabbabnaeaaGreat
namespace Go.Proofs.YtponbabbabnaeaaGreat
theorem readU_enc (n : Nat) : ∀ (i v : Nat) (r : List UInt8), i ≤ 8 → (i = 0 ∨ 0 < n) → n < 2 ^ (7 * (9 - i)) → readU (encU n ++ r) i v = (v + n * 2 ^ (7 * i), i + (encU n).length, 0) := by
 induction n using Nat.strongRecOn with
 | ind n ih =>
  intro i v r hi h0 hn
  by_cases hlt : n < 128
  ·rw [encU_lo hlt]
   have ht : (UInt8.ofNat n).toNat = n := by rw [UInt8.toNat_ofNat']; omega
   simp only [List.cons_append, List.nil_append, readU, ht]
   rw [if_neg (by omega), if_pos hlt, Nat.mod_eq_of_lt hlt]
   rfl
  ·have h128 : 128 ≤ n := by omega
   rw [encU_hi h128]
   have ht : (UInt8.ofNat (n % 128 + 128)).toNat = n % 128 + 128 := by rw [UInt8.toNat_ofNat']; omega
   have hi8 : i < 8 := by
    rcases Nat.lt_or_ge i 8 with h | h
    ·exact h
    ·have : i = 8 := by omega
     subst this
     simp at hn; omega
   simp only [List.cons_append, readU, ht]
   rw [if_neg (by omega), if_neg (by omega)]
   have hp : 2 ^ (7 * (9 - i)) = 128 * 2 ^ (7 * (9 - (i + 1))) := by rw [show 7 * (9 - i) = 7 + 7 * (9 - (i + 1)) by omega, Nat.pow_add]
   rw [ih (n / 128) (by omega) (i + 1) _ r (by omega) (.inr (by omega)) (by rw [hp] at hn; omega)]
   have hq : 2 ^ (7 * (i + 1)) = 128 * 2 ^ (7 * i) := by rw [show 7 * (i + 1) = 7 + 7 * i by omega, Nat.pow_add]
   have e1 : (n % 128 + 128) % 128 = n % 128 := by omega
   simp only [Prod.mk.injEq, and_true, List.length_cons]
   refine ⟨?_, by omega⟩
   rw [e1, hq, Nat.add_assoc, ← Nat.mul_assoc, ← Nat.add_mul]
   congr 2
   omega
theorem decU_enc {n : Nat} (h : n < 2 ^ 63) (r : List UInt8) : decU (encU n ++ r) = (n, (encU n).length, 0) := by
 unfold decU
 rw [readU_enc n 0 0 r (by omega) (.inl rfl) (by simpa using h)]
 simp
theorem unzig_zig {x : Int} (h : 0 ≤ x) (h2 : x ≤ 1000) : unzig (zig x) = x ∧ zig x < 2 ^ 63 := by
 unfold unzig zig
 constructor
 ·split <;> split <;> omega
 ·split <;> omega
theorem readL_enc (xs : List Int) : ∀ (pre : List UInt8) (l : List Int), (∀ x ∈ xs, 0 ≤ x ∧ x ≤ 1000) → readL (pre ++ encL xs) xs.length l pre.length = (l ++ xs, (pre ++ encL xs).length, 0) := by
 induction xs with
 | nil => intro pre l _; simp [readL, encL]
 | cons x xs ih =>
  intro pre l h
  obtain ⟨u1, u2⟩ := unzig_zig (h x (by simp)).1 (h x (by simp)).2
  have e : encL (x :: xs) = encU (zig x) ++ encL xs := by simp [encL]
  have d : decI ((pre ++ encL (x :: xs)).drop pre.length) = (x, (encU (zig x)).length, 0) := by
   rw [List.drop_left, e]
   unfold decI
   rw [decU_enc u2, u1]
  show (if (decI ((pre ++ encL (x :: xs)).drop pre.length)).2.2 = 0 then _ else _) = _
  rw [d, if_pos rfl]
  have := ih (pre ++ encU (zig x)) (l ++ [x]) (fun y hy => h y (by simp [hy]))
  rw [e, ← List.append_assoc]
  simp only [List.length_append, List.append_assoc] at this ⊢
  simpa using this
theorem decV_enc {n : Int} {xs : List Int} (h : validB n xs = true) : decV (encV n xs) = (n, xs, (encV n xs).length, 0) := by
 have h' := h
 unfold validB at h'
 simp only [Bool.and_eq_true, decide_eq_true_eq] at h'
 obtain ⟨⟨h1, h2⟩, h3⟩ := h'
 have hl := idsB_len (m := 16) h3
 have hr : ∀ x ∈ xs, 0 ≤ x ∧ x ≤ 1000 := by
  rw [idsB_mid (by omega) (by omega)] at h3
  intro x hx
  have := ((rises_iff xs 0).1 h3).2 x hx
  omega
 rw [encV_yes h, List.append_assoc]
 have d1 := decU_enc (n := n.toNat) (by omega) (encU xs.length ++ encL xs)
 have d2 := decU_enc (n := xs.length) (by omega) (encL xs)
 have d3 : decL (encU xs.length ++ encL xs) 16 = (xs, (encU xs.length ++ encL xs).length, 0) := by
  have d4 : decN (encU xs.length ++ encL xs) 16 = (xs.length, (encU xs.length).length, 0) := by
   unfold decN
   rw [d2]
   simp only [ne_eq, not_true_eq_false, if_false]
   exact if_neg (by omega)
  unfold decL
  rw [d4]
  simp only [ne_eq, not_true_eq_false, if_false]
  have := readL_enc xs (encU xs.length) [] hr
  simpa using this
 unfold decV
 rw [d1]
 simp only [List.drop_left, d3, ne_eq, not_true_eq_false, if_false]
 rw [if_neg (by omega), if_neg (by rw [h3]; simp)]
 simp only [Prod.mk.injEq, and_true, List.length_append]
 omega
end Go.Proofs.YtponbabbabnaeaaGreat
