/- Part 17 of the proof: contracts of functions that the statement reaches. Conditions: as each theorem says. -/
import Derived.Test.YtponbabbabnaeaaGreatQb01
import Derived.Test.YtponbabbabnaeaaGreatQb16
namespace Go.Proofs.YtponbabbabnaeaaGreat
open Go.RowKit
theorem view1_box {w : World} {n : Int} {A : Option Addr} {c : Nat} {xs : List Int} (hr : Row w A (ints xs)) (h1 : xs.length ≤ c) (h2 : c ≤ maxLen) : viewE.Box (w.alloc (.cells #[.int .i64 n, .slice A xs.length c] 46)) (some ⟨w.heap.size, 0, none⟩) [⟨n, A, c, xs⟩] := by
 refine ⟨fun _ => ⟨w.heap.size, 0, rfl, by simp, fun j q hj => ?_⟩, fun v hv => ?_⟩
 ·simp only [Elem.cells, viewE, List.flatMap_cons, List.flatMap_nil, List.append_nil] at hj
  match j, hj with
  | 0, hj => simpa using hj
  | 1, hj => simpa using hj
 ·simp only [List.mem_cons, List.not_mem_nil, or_false] at hv
  subst hv
  refine ⟨⟨h1, h2⟩, fun r hr' => ?_⟩
  simp only [viewE, List.mem_cons, List.not_mem_nil, or_false] at hr'
  subst hr'
  exact hr.ext (Ext.new _ _)
theorem genesis_out {w u W : World} {self n : Int} {A2 : Option Addr} {c2 s3 s8 : Nat} {xs : List Int} (hb : viewE.Box u (some ⟨s3, 0, none⟩) [⟨n, A2, c2, xs⟩]) (hl : Row u (some ⟨s8, 0, none⟩) (entE.cells [viewEnt n xs])) (h9 : Wrote (w.heap.size + 1) u W) (hx : Ext w W) (h3 : w.heap.size + 1 < s3) (h8 : w.heap.size + 1 < s8)
  (hn : ∀ q, ints xs ≠ [] → A2 = some q → w.heap.size + 1 < q.block) (hxs : xs.length ≤ 16) :
  GivesS w (⟨self, [(n, xs)], n, [viewEnt n xs], 0, 0, [], [], []⟩, 0) (.returned (.tuple #[.agg #[.int .i64 self, .slice (some ⟨s3, 0, none⟩) 1 1, .int .i64 n, .slice (some ⟨s8, 0, none⟩) 1 1, .int .i64 0, .int .i64 0, .slice none 0 0, .slice none 0 0, .slice none 0 0], .int .i64 0])) W := by
 have row : ∀ {A : Option Addr} {vs : List Value}, Row u A vs → (∀ q, vs ≠ [] → A = some q → q.block ≠ w.heap.size + 1) → Row W A vs := by
  intro A vs hr hne hx'
  obtain ⟨b, off, k1, k2, k3⟩ := hr hx'
  exact ⟨b, off, k1, Nat.lt_of_lt_of_le k2 h9.size, fun j v hj => (World.cell?_of_block (a := ⟨b, off + j, none⟩) (h9.blk k2 (hne ⟨b, off, none⟩ hx' k1))).trans (k3 j v hj)⟩
 refine ⟨⟨self, n, 0, 0, some ⟨s3, 0, none⟩, 1, [⟨n, A2, c2, xs⟩], some ⟨s8, 0, none⟩, 1, [viewEnt n xs], none, 0, [], none, 0, [], none, 0, []⟩, rfl, rfl, ⟨⟨row hb.1 (fun q _ hq => by cases hq; exact Nat.ne_of_gt h3), fun v hv => ⟨(hb.2 v hv).1, fun r hr => ?_⟩⟩, row hl (fun q _ hq => by cases hq; exact Nat.ne_of_gt h8), Row.nil _ _, Row.nil _ _, Elem.Box.nil _ _⟩, ?_, hx, ⟨fun q _ hq => by cases hq; show w.heap.size ≤ s3; omega, fun v hv q hne hq => by simp only [List.mem_cons, List.not_mem_nil, or_false] at hv; subst hv; have := hn q hne hq; omega, fun q _ hq => by cases hq; show w.heap.size ≤ s8; omega, fun _ h => by simp [Elem.cells] at h, fun _ h => by simp [Elem.cells] at h, fun _ h => by simp [Elem.cells] at h, fun _ h => by simp at h⟩⟩
 ·have hv' := hv
  simp only [List.mem_cons, List.not_mem_nil, or_false] at hv
  subst hv
  have hr' := hr
  simp only [viewE, List.mem_cons, List.not_mem_nil, or_false] at hr
  subst hr
  exact row ((hb.2 _ hv').2 _ hr') (fun q hne hq => Nat.ne_of_gt (hn q hne hq))
 ·have hp := encV_bound n xs
  refine ⟨by simp, fun v hv => ?_, by simp, fun e he => ?_, by simp, fun _ h => by simp at h, by simp, by simp, fun _ h => by simp at h, by simp [maxLen]⟩
  ·simp only [List.mem_cons, List.not_mem_nil, or_false] at hv; subst hv; simp only; omega
  ·simp only [List.mem_cons, List.not_mem_nil, or_false] at he; subst he; simp only [viewEnt]; omega
set_option maxRecDepth 100000 in
set_option maxHeartbeats 1000000 in
theorem genesis_any (n : Int) (A : Option Addr) (c : Nat) (xs : List Int) (self : Int) (w : World) (h : Row w A (ints xs)) (hx : xs.length ≤ 1000000) :
  Calls Tryz.prog 22 #[.agg #[.int .i64 n, .slice A xs.length c], .int .i64 self] w (GivesS w (genesisF (n, xs) self)) := by
 have E0 : Hid (Ext w ((w.alloc (.cells #[.int .i64 n, .slice A xs.length c] 46)).alloc (.cells #[.int .i64 0, .slice none 0 0, .int .i64 0, .slice none 0 0, .int .i64 0, .int .i64 0, .slice none 0 0, .slice none 0 0, .slice none 0 0] 28))) := hJ ((Ext.new _ _).trans (Ext.new _ _))
 have H0 := hJ (h.ext E0.out)
 clear h; by_cases hv : validB n xs = true
 ·have HV := hJ hv
  by_cases hm : hasB xs self = true
  ·have HM := hJ hm
   have hx16 := (validB_len hv).2
   have HG : Hid (genesisF (n, xs) self = (⟨self, [(n, xs)], n, [viewEnt n xs], 0, 0, [], [], []⟩, 0)) := hJ (by unfold genesisF; simp only [hv, hm, Bool.and_self, if_true])
   clear hv hm; go_enter Tryz.func22, Tryz.ntmps22
   go_wp2_with fail
   refine (valid_any n A c xs _ H0.out (by omega)).mono ?_
   rintro en w1 ⟨rfl, hx1⟩
   have X1 := hJ hx1
   have H1 := hJ (H0.out.ext hx1)
   have BR1 : Hid (BIs w1 (w.heap.size + 1) #[.int .i64 0, .slice none 0 0, .int .i64 0, .slice none 0 0, .int .i64 0, .int .i64 0, .slice none 0 0, .slice none 0 0, .slice none 0 0] 28) := hJ (by have := BIs.ext (BIs.new (w.alloc (.cells #[.int .i64 n, .slice A xs.length c] 46)) #[.int .i64 0, .slice none 0 0, .int .i64 0, .slice none 0 0, .int .i64 0, .int .i64 0, .slice none 0 0, .slice none 0 0, .slice none 0 0] 28) hx1; simpa using this)
   have q0 : w1.cell? ⟨w.heap.size, 0, none⟩ = some (.int .i64 n) := (((BIs.new w #[.int .i64 n, .slice A xs.length c] 46).ext (Ext.new _ _)).ext hx1).cell 0
   have q1 : w1.cell? ⟨w.heap.size, 1, none⟩ = some (.slice A xs.length c) := (((BIs.new w #[.int .i64 n, .slice A xs.length c] 46).ext (Ext.new _ _)).ext hx1).cell 1
   have hp1 : w.heap.size < w1.heap.size := by have := BR1.out.lt; omega
   clear hx1; obtain ⟨y0, y1, y2, y3, y4, y5, y6, y7, y8⟩ := nine BR1.out
   obtain ⟨z0, z1, z2, z3, z4, z5, z6, z7, z8⟩ := BR1.out.free9
   rw [HV.out]
   go_wp2_with fail
   refine (contains_any A c xs self w1 H1.out (by omega)).mono ?_
   rintro en w1' ⟨rfl, rfl⟩
   rw [HM.out]
   have hp2 : Hid (w.heap.size + 1 < w1.heap.size) := hJ BR1.out.lt
   go_wp2; refine E_begin 10 (fun w' => w'.cell? ⟨w.heap.size, 0, none⟩ = some (.int .i64 n) ∧ w'.cell? ⟨w.heap.size, 1, none⟩ = some (.slice A xs.length c)) (by kernel_rfl) ⟨by simpa using q0, by simpa using q1⟩ (fun hHeld => ?_)
   refine E_t 0 17 ?_; refine E_t 1 18 ?_; refine E_t 4 21 ?_; refine E_t 5 22 ?_; refine E_t 6 23 ?_; refine E_ready [2] (by kernel_rfl) (by simp) ?_
   refine AllE.cons (o := ⟨some 19, _, _, _, _, _⟩) rfl (fun K hK => ?_) (AllE.nil)
   go_simp; go_at_call 86; refine (cloneView_any n A c xs _ (H1.out.ext Ext.drew1) hx).mono ?_
   rintro en u1 ⟨A2, c2, rfl, h21, h22, HR2, HN2, hx2⟩
   have X2 : Hid (Ext w1 u1) := hJ (Ext.drew1.trans hx2)
   clear hx2; have u1_0 : u1.cell? ⟨w.heap.size, 0, none⟩ = some (.int .i64 n) := by rw [X2.out.cell (by exact hp1)]; exact q0
   have u1_1 : u1.cell? ⟨w.heap.size, 1, none⟩ = some (.slice A xs.length c) := by rw [X2.out.cell (by exact hp1)]; exact q1
   clear hHeld; refine hK.out _ _ ⟨u1_0, u1_1⟩ (fun hHeld => ?_)
   clear hK K; refine E_ready [3, 7] (by kernel_rfl) (by simp) ?_
   refine AllE.cons (o := ⟨some 20, _, _, _, _, _⟩) rfl (fun K hK => ?_) (AllE.cons (o := ⟨some 24, _, _, _, _, _⟩) rfl (fun K hK => ?_) (AllE.nil))
   ·go_simp
    have X4 : Hid (Ext w1 (u1.alloc (.cells #[.int .i64 n, .slice A2 xs.length c2] 46))) := hJ (X2.out.trans (Ext.new _ _))
    have F5 : Hid (Row (u1.alloc (.cells #[.int .i64 n, .slice A2 xs.length c2] 46)) A2 (ints xs)) := hJ (HR2.out.ext (Ext.new _ _))
    have F6 : Hid (viewE.Box (u1.alloc (.cells #[.int .i64 n, .slice A2 xs.length c2] 46)) (some ⟨u1.heap.size, 0, none⟩) [⟨n, A2, c2, xs⟩]) := hJ (view1_box HR2.out h21 h22)
    generalize (u1.alloc (.cells #[.int .i64 n, .slice A2 xs.length c2] 46)) = u3 at *
    have u3_0 : u3.cell? ⟨w.heap.size, 0, none⟩ = some (.int .i64 n) := by rw [X4.out.cell (by exact hp1)]; exact q0
    have u3_1 : u3.cell? ⟨w.heap.size, 1, none⟩ = some (.slice A xs.length c) := by rw [X4.out.cell (by exact hp1)]; exact q1
    clear hHeld; refine hK.out _ _ ⟨u3_0, u3_1⟩ (fun hHeld => ?_)
    clear hK K; try simp only [Act.put, aP1, aP2, aP3]
    refine E_ready [7] (by kernel_rfl) (by simp) ?_
    refine AllE.cons (o := ⟨some 24, _, _, _, _, _⟩) rfl (fun K hK => ?_) (AllE.nil)
    go_simp; go_at_call 87; refine (viewEntry_any n A c xs _ (H1.out.ext X4.out) (by omega)).mono ?_
    rintro en u7 ⟨rfl, hx2⟩
    have X8 : Hid (Ext w1 u7) := hJ (X4.out.trans hx2)
    have F9 : Hid (Row u7 A2 (ints xs)) := hJ (F5.out.ext hx2)
    have F10 : Hid (viewE.Box u7 (some ⟨u1.heap.size, 0, none⟩) [⟨n, A2, c2, xs⟩]) := hJ (F6.out.ext hx2)
    clear hx2; unfold entV
    have u7_0 : u7.cell? ⟨w.heap.size, 0, none⟩ = some (.int .i64 n) := by rw [X8.out.cell (by exact hp1)]; exact q0
    have u7_1 : u7.cell? ⟨w.heap.size, 1, none⟩ = some (.slice A xs.length c) := by rw [X8.out.cell (by exact hp1)]; exact q1
    clear hHeld; refine hK.out _ _ ⟨u7_0, u7_1⟩ (fun hHeld => ?_)
    clear hK K; try simp only [Act.put, aP1, aP2, aP3]
    refine E_ready [8] (by kernel_rfl) (by simp) ?_
    refine AllE.cons (o := ⟨some 25, _, _, _, _, _⟩) rfl (fun K hK => ?_) (AllE.nil)
    go_simp; have X12 : Hid (Ext w1 (u7.alloc (.cells #[.int .i64 (viewEnt n xs).v, .int .i64 (viewEnt n xs).o, .int .i64 (viewEnt n xs).q, .string (strB (viewEnt n xs).p)] 66))) := hJ (X8.out.trans (Ext.new _ _))
    have F13 : Hid (Row (u7.alloc (.cells #[.int .i64 (viewEnt n xs).v, .int .i64 (viewEnt n xs).o, .int .i64 (viewEnt n xs).q, .string (strB (viewEnt n xs).p)] 66)) A2 (ints xs)) := hJ (F9.out.ext (Ext.new _ _))
    have F14 : Hid (viewE.Box (u7.alloc (.cells #[.int .i64 (viewEnt n xs).v, .int .i64 (viewEnt n xs).o, .int .i64 (viewEnt n xs).q, .string (strB (viewEnt n xs).p)] 66)) (some ⟨u1.heap.size, 0, none⟩) [⟨n, A2, c2, xs⟩]) := hJ (F10.out.ext (Ext.new _ _))
    have F15 : Hid (Row (u7.alloc (.cells #[.int .i64 (viewEnt n xs).v, .int .i64 (viewEnt n xs).o, .int .i64 (viewEnt n xs).q, .string (strB (viewEnt n xs).p)] 66)) (some ⟨u7.heap.size, 0, none⟩) (entE.cells [viewEnt n xs])) := hJ (ent1_row (viewEnt n xs) u7)
    generalize (u7.alloc (.cells #[.int .i64 (viewEnt n xs).v, .int .i64 (viewEnt n xs).o, .int .i64 (viewEnt n xs).q, .string (strB (viewEnt n xs).p)] 66)) = u11 at *
    have u11_0 : u11.cell? ⟨w.heap.size, 0, none⟩ = some (.int .i64 n) := by rw [X12.out.cell (by exact hp1)]; exact q0
    have u11_1 : u11.cell? ⟨w.heap.size, 1, none⟩ = some (.slice A xs.length c) := by rw [X12.out.cell (by exact hp1)]; exact q1
    clear hHeld; refine hK.out _ _ ⟨u11_0, u11_1⟩ (fun hHeld => ?_)
    clear hK K; try simp only [Act.put, aP1, aP2, aP3]
    refine E_t 9 26 ?_; refine E_tail (by rfl) (by kernel_rfl) ?_
    have BRE := hJ (BR1.out.ext X12.out)
    obtain ⟨y0, y1, y2, y3, y4, y5, y6, y7, y8⟩ := nine BRE.out
    obtain ⟨z0, z1, z2, z3, z4, z5, z6, z7, z8⟩ := BRE.out.free9
    have hz := X12.out.size
    go_wp2; have BF : Hid (BIs (((((((((u11.setCell ⟨w.heap.size + 1, 0, none⟩ (.int .i64 self)).setCell ⟨w.heap.size + 1, 1, none⟩ (.slice (some ⟨u1.heap.size, 0, none⟩) 1 1)).setCell ⟨w.heap.size + 1, 2, none⟩ (.int .i64 n)).setCell ⟨w.heap.size + 1, 3, none⟩ (.slice (some ⟨u7.heap.size, 0, none⟩) 1 1)).setCell ⟨w.heap.size + 1, 4, none⟩ (.int .i64 0)).setCell ⟨w.heap.size + 1, 5, none⟩ (.int .i64 0)).setCell ⟨w.heap.size + 1, 6, none⟩ (.slice none 0 0)).setCell ⟨w.heap.size + 1, 7, none⟩ (.slice none 0 0)).setCell ⟨w.heap.size + 1, 8, none⟩ (.slice none 0 0)) (w.heap.size + 1) #[.int .i64 self, .slice (some ⟨u1.heap.size, 0, none⟩) 1 1, .int .i64 n, .slice (some ⟨u7.heap.size, 0, none⟩) 1 1, .int .i64 0, .int .i64 0, .slice none 0 0, .slice none 0 0, .slice none 0 0] 28) := hJ (nine_set BRE.out)
    have W9 : Hid (Wrote (w.heap.size + 1) u11 (((((((((u11.setCell ⟨w.heap.size + 1, 0, none⟩ (.int .i64 self)).setCell ⟨w.heap.size + 1, 1, none⟩ (.slice (some ⟨u1.heap.size, 0, none⟩) 1 1)).setCell ⟨w.heap.size + 1, 2, none⟩ (.int .i64 n)).setCell ⟨w.heap.size + 1, 3, none⟩ (.slice (some ⟨u7.heap.size, 0, none⟩) 1 1)).setCell ⟨w.heap.size + 1, 4, none⟩ (.int .i64 0)).setCell ⟨w.heap.size + 1, 5, none⟩ (.int .i64 0)).setCell ⟨w.heap.size + 1, 6, none⟩ (.slice none 0 0)).setCell ⟨w.heap.size + 1, 7, none⟩ (.slice none 0 0)).setCell ⟨w.heap.size + 1, 8, none⟩ (.slice none 0 0))) := hJ nine_wrote
    have XFF : Hid (Ext w (((((((((u11.setCell ⟨w.heap.size + 1, 0, none⟩ (.int .i64 self)).setCell ⟨w.heap.size + 1, 1, none⟩ (.slice (some ⟨u1.heap.size, 0, none⟩) 1 1)).setCell ⟨w.heap.size + 1, 2, none⟩ (.int .i64 n)).setCell ⟨w.heap.size + 1, 3, none⟩ (.slice (some ⟨u7.heap.size, 0, none⟩) 1 1)).setCell ⟨w.heap.size + 1, 4, none⟩ (.int .i64 0)).setCell ⟨w.heap.size + 1, 5, none⟩ (.int .i64 0)).setCell ⟨w.heap.size + 1, 6, none⟩ (.slice none 0 0)).setCell ⟨w.heap.size + 1, 7, none⟩ (.slice none 0 0)).setCell ⟨w.heap.size + 1, 8, none⟩ (.slice none 0 0))) := hJ (nine_wrote.ext ((E0.out.trans X1.out).trans X12.out) (by omega))
    generalize (((((((((u11.setCell ⟨w.heap.size + 1, 0, none⟩ (.int .i64 self)).setCell ⟨w.heap.size + 1, 1, none⟩ (.slice (some ⟨u1.heap.size, 0, none⟩) 1 1)).setCell ⟨w.heap.size + 1, 2, none⟩ (.int .i64 n)).setCell ⟨w.heap.size + 1, 3, none⟩ (.slice (some ⟨u7.heap.size, 0, none⟩) 1 1)).setCell ⟨w.heap.size + 1, 4, none⟩ (.int .i64 0)).setCell ⟨w.heap.size + 1, 5, none⟩ (.int .i64 0)).setCell ⟨w.heap.size + 1, 6, none⟩ (.slice none 0 0)).setCell ⟨w.heap.size + 1, 7, none⟩ (.slice none 0 0)).setCell ⟨w.heap.size + 1, 8, none⟩ (.slice none 0 0)) = W at *
    obtain ⟨e0, e1, e2, e3, e4, e5, e6, e7, e8⟩ := nine BF.out
    refine bodyPost_ret (v := .tuple #[.agg #[.int .i64 self, .slice (some ⟨u1.heap.size, 0, none⟩) 1 1, .int .i64 n, .slice (some ⟨u7.heap.size, 0, none⟩) 1 1, .int .i64 0, .int .i64 0, .slice none 0 0, .slice none 0 0, .slice none 0 0], .int .i64 0]) (by simp [results, Tryz.results22, go_sem, e0, e1, e2, e3, e4, e5, e6, e7, e8]) rfl ?_
    rw [HG.out]
    exact genesis_out F14.out F15.out W9.out XFF.out (by have := hp2.out; have := X2.out.size; omega) (by have := hp2.out; have := X8.out.size; omega) (fun q hne hq => by have h1 : w1.heap.size ≤ q.block := HN2.out q hne hq; have := hp2.out; omega) hx16
   ·go_simp
    go_at_call 87; refine (viewEntry_any n A c xs _ (H1.out.ext X2.out) (by omega)).mono ?_
    rintro en u16 ⟨rfl, hx2⟩
    have X17 : Hid (Ext w1 u16) := hJ (X2.out.trans hx2)
    have F18 : Hid (Row u16 A2 (ints xs)) := hJ (HR2.out.ext hx2)
    clear hx2; unfold entV
    have u16_0 : u16.cell? ⟨w.heap.size, 0, none⟩ = some (.int .i64 n) := by rw [X17.out.cell (by exact hp1)]; exact q0
    have u16_1 : u16.cell? ⟨w.heap.size, 1, none⟩ = some (.slice A xs.length c) := by rw [X17.out.cell (by exact hp1)]; exact q1
    clear hHeld; refine hK.out _ _ ⟨u16_0, u16_1⟩ (fun hHeld => ?_)
    clear hK K; try simp only [Act.put, aP1, aP2, aP3]
    refine E_ready [3, 8] (by kernel_rfl) (by simp) ?_
    refine AllE.cons (o := ⟨some 20, _, _, _, _, _⟩) rfl (fun K hK => ?_) (AllE.cons (o := ⟨some 25, _, _, _, _, _⟩) rfl (fun K hK => ?_) (AllE.nil))
    ·go_simp
     have X20 : Hid (Ext w1 (u16.alloc (.cells #[.int .i64 n, .slice A2 xs.length c2] 46))) := hJ (X17.out.trans (Ext.new _ _))
     have F21 : Hid (Row (u16.alloc (.cells #[.int .i64 n, .slice A2 xs.length c2] 46)) A2 (ints xs)) := hJ (F18.out.ext (Ext.new _ _))
     have F22 : Hid (viewE.Box (u16.alloc (.cells #[.int .i64 n, .slice A2 xs.length c2] 46)) (some ⟨u16.heap.size, 0, none⟩) [⟨n, A2, c2, xs⟩]) := hJ (view1_box F18.out h21 h22)
     generalize (u16.alloc (.cells #[.int .i64 n, .slice A2 xs.length c2] 46)) = u19 at *
     have u19_0 : u19.cell? ⟨w.heap.size, 0, none⟩ = some (.int .i64 n) := by rw [X20.out.cell (by exact hp1)]; exact q0
     have u19_1 : u19.cell? ⟨w.heap.size, 1, none⟩ = some (.slice A xs.length c) := by rw [X20.out.cell (by exact hp1)]; exact q1
     clear hHeld; refine hK.out _ _ ⟨u19_0, u19_1⟩ (fun hHeld => ?_)
     clear hK K; try simp only [Act.put, aP1, aP2, aP3]
     refine E_ready [8] (by kernel_rfl) (by simp) ?_
     refine AllE.cons (o := ⟨some 25, _, _, _, _, _⟩) rfl (fun K hK => ?_) (AllE.nil)
     go_simp; have X24 : Hid (Ext w1 (u19.alloc (.cells #[.int .i64 (viewEnt n xs).v, .int .i64 (viewEnt n xs).o, .int .i64 (viewEnt n xs).q, .string (strB (viewEnt n xs).p)] 66))) := hJ (X20.out.trans (Ext.new _ _))
     have F25 : Hid (Row (u19.alloc (.cells #[.int .i64 (viewEnt n xs).v, .int .i64 (viewEnt n xs).o, .int .i64 (viewEnt n xs).q, .string (strB (viewEnt n xs).p)] 66)) A2 (ints xs)) := hJ (F21.out.ext (Ext.new _ _))
     have F26 : Hid (viewE.Box (u19.alloc (.cells #[.int .i64 (viewEnt n xs).v, .int .i64 (viewEnt n xs).o, .int .i64 (viewEnt n xs).q, .string (strB (viewEnt n xs).p)] 66)) (some ⟨u16.heap.size, 0, none⟩) [⟨n, A2, c2, xs⟩]) := hJ (F22.out.ext (Ext.new _ _))
     have F27 : Hid (Row (u19.alloc (.cells #[.int .i64 (viewEnt n xs).v, .int .i64 (viewEnt n xs).o, .int .i64 (viewEnt n xs).q, .string (strB (viewEnt n xs).p)] 66)) (some ⟨u19.heap.size, 0, none⟩) (entE.cells [viewEnt n xs])) := hJ (ent1_row (viewEnt n xs) u19)
     generalize (u19.alloc (.cells #[.int .i64 (viewEnt n xs).v, .int .i64 (viewEnt n xs).o, .int .i64 (viewEnt n xs).q, .string (strB (viewEnt n xs).p)] 66)) = u23 at *
     have u23_0 : u23.cell? ⟨w.heap.size, 0, none⟩ = some (.int .i64 n) := by rw [X24.out.cell (by exact hp1)]; exact q0
     have u23_1 : u23.cell? ⟨w.heap.size, 1, none⟩ = some (.slice A xs.length c) := by rw [X24.out.cell (by exact hp1)]; exact q1
     clear hHeld; refine hK.out _ _ ⟨u23_0, u23_1⟩ (fun hHeld => ?_)
     clear hK K; try simp only [Act.put, aP1, aP2, aP3]
     refine E_t 9 26 ?_; refine E_tail (by rfl) (by kernel_rfl) ?_
     have BRE := hJ (BR1.out.ext X24.out)
     obtain ⟨y0, y1, y2, y3, y4, y5, y6, y7, y8⟩ := nine BRE.out
     obtain ⟨z0, z1, z2, z3, z4, z5, z6, z7, z8⟩ := BRE.out.free9
     have hz := X24.out.size
     go_wp2; have BF : Hid (BIs (((((((((u23.setCell ⟨w.heap.size + 1, 0, none⟩ (.int .i64 self)).setCell ⟨w.heap.size + 1, 1, none⟩ (.slice (some ⟨u16.heap.size, 0, none⟩) 1 1)).setCell ⟨w.heap.size + 1, 2, none⟩ (.int .i64 n)).setCell ⟨w.heap.size + 1, 3, none⟩ (.slice (some ⟨u19.heap.size, 0, none⟩) 1 1)).setCell ⟨w.heap.size + 1, 4, none⟩ (.int .i64 0)).setCell ⟨w.heap.size + 1, 5, none⟩ (.int .i64 0)).setCell ⟨w.heap.size + 1, 6, none⟩ (.slice none 0 0)).setCell ⟨w.heap.size + 1, 7, none⟩ (.slice none 0 0)).setCell ⟨w.heap.size + 1, 8, none⟩ (.slice none 0 0)) (w.heap.size + 1) #[.int .i64 self, .slice (some ⟨u16.heap.size, 0, none⟩) 1 1, .int .i64 n, .slice (some ⟨u19.heap.size, 0, none⟩) 1 1, .int .i64 0, .int .i64 0, .slice none 0 0, .slice none 0 0, .slice none 0 0] 28) := hJ (nine_set BRE.out)
     have W9 : Hid (Wrote (w.heap.size + 1) u23 (((((((((u23.setCell ⟨w.heap.size + 1, 0, none⟩ (.int .i64 self)).setCell ⟨w.heap.size + 1, 1, none⟩ (.slice (some ⟨u16.heap.size, 0, none⟩) 1 1)).setCell ⟨w.heap.size + 1, 2, none⟩ (.int .i64 n)).setCell ⟨w.heap.size + 1, 3, none⟩ (.slice (some ⟨u19.heap.size, 0, none⟩) 1 1)).setCell ⟨w.heap.size + 1, 4, none⟩ (.int .i64 0)).setCell ⟨w.heap.size + 1, 5, none⟩ (.int .i64 0)).setCell ⟨w.heap.size + 1, 6, none⟩ (.slice none 0 0)).setCell ⟨w.heap.size + 1, 7, none⟩ (.slice none 0 0)).setCell ⟨w.heap.size + 1, 8, none⟩ (.slice none 0 0))) := hJ nine_wrote
     have XFF : Hid (Ext w (((((((((u23.setCell ⟨w.heap.size + 1, 0, none⟩ (.int .i64 self)).setCell ⟨w.heap.size + 1, 1, none⟩ (.slice (some ⟨u16.heap.size, 0, none⟩) 1 1)).setCell ⟨w.heap.size + 1, 2, none⟩ (.int .i64 n)).setCell ⟨w.heap.size + 1, 3, none⟩ (.slice (some ⟨u19.heap.size, 0, none⟩) 1 1)).setCell ⟨w.heap.size + 1, 4, none⟩ (.int .i64 0)).setCell ⟨w.heap.size + 1, 5, none⟩ (.int .i64 0)).setCell ⟨w.heap.size + 1, 6, none⟩ (.slice none 0 0)).setCell ⟨w.heap.size + 1, 7, none⟩ (.slice none 0 0)).setCell ⟨w.heap.size + 1, 8, none⟩ (.slice none 0 0))) := hJ (nine_wrote.ext ((E0.out.trans X1.out).trans X24.out) (by omega))
     generalize (((((((((u23.setCell ⟨w.heap.size + 1, 0, none⟩ (.int .i64 self)).setCell ⟨w.heap.size + 1, 1, none⟩ (.slice (some ⟨u16.heap.size, 0, none⟩) 1 1)).setCell ⟨w.heap.size + 1, 2, none⟩ (.int .i64 n)).setCell ⟨w.heap.size + 1, 3, none⟩ (.slice (some ⟨u19.heap.size, 0, none⟩) 1 1)).setCell ⟨w.heap.size + 1, 4, none⟩ (.int .i64 0)).setCell ⟨w.heap.size + 1, 5, none⟩ (.int .i64 0)).setCell ⟨w.heap.size + 1, 6, none⟩ (.slice none 0 0)).setCell ⟨w.heap.size + 1, 7, none⟩ (.slice none 0 0)).setCell ⟨w.heap.size + 1, 8, none⟩ (.slice none 0 0)) = W at *
     obtain ⟨e0, e1, e2, e3, e4, e5, e6, e7, e8⟩ := nine BF.out
     refine bodyPost_ret (v := .tuple #[.agg #[.int .i64 self, .slice (some ⟨u16.heap.size, 0, none⟩) 1 1, .int .i64 n, .slice (some ⟨u19.heap.size, 0, none⟩) 1 1, .int .i64 0, .int .i64 0, .slice none 0 0, .slice none 0 0, .slice none 0 0], .int .i64 0]) (by simp [results, Tryz.results22, go_sem, e0, e1, e2, e3, e4, e5, e6, e7, e8]) rfl ?_
     rw [HG.out]
     exact genesis_out F26.out F27.out W9.out XFF.out (by have := hp2.out; have := X17.out.size; omega) (by have := hp2.out; have := X20.out.size; omega) (fun q hne hq => by have h1 : w1.heap.size ≤ q.block := HN2.out q hne hq; have := hp2.out; omega) hx16
    ·go_simp
     have X29 : Hid (Ext w1 (u16.alloc (.cells #[.int .i64 (viewEnt n xs).v, .int .i64 (viewEnt n xs).o, .int .i64 (viewEnt n xs).q, .string (strB (viewEnt n xs).p)] 66))) := hJ (X17.out.trans (Ext.new _ _))
     have F30 : Hid (Row (u16.alloc (.cells #[.int .i64 (viewEnt n xs).v, .int .i64 (viewEnt n xs).o, .int .i64 (viewEnt n xs).q, .string (strB (viewEnt n xs).p)] 66)) A2 (ints xs)) := hJ (F18.out.ext (Ext.new _ _))
     have F31 : Hid (Row (u16.alloc (.cells #[.int .i64 (viewEnt n xs).v, .int .i64 (viewEnt n xs).o, .int .i64 (viewEnt n xs).q, .string (strB (viewEnt n xs).p)] 66)) (some ⟨u16.heap.size, 0, none⟩) (entE.cells [viewEnt n xs])) := hJ (ent1_row (viewEnt n xs) u16)
     generalize (u16.alloc (.cells #[.int .i64 (viewEnt n xs).v, .int .i64 (viewEnt n xs).o, .int .i64 (viewEnt n xs).q, .string (strB (viewEnt n xs).p)] 66)) = u28 at *
     have u28_0 : u28.cell? ⟨w.heap.size, 0, none⟩ = some (.int .i64 n) := by rw [X29.out.cell (by exact hp1)]; exact q0
     have u28_1 : u28.cell? ⟨w.heap.size, 1, none⟩ = some (.slice A xs.length c) := by rw [X29.out.cell (by exact hp1)]; exact q1
     clear hHeld; refine hK.out _ _ ⟨u28_0, u28_1⟩ (fun hHeld => ?_)
     clear hK K; try simp only [Act.put, aP1, aP2, aP3]
     refine E_ready [3] (by kernel_rfl) (by simp) ?_
     refine AllE.cons (o := ⟨some 20, _, _, _, _, _⟩) rfl (fun K hK => ?_) (AllE.nil)
     go_simp; have X33 : Hid (Ext w1 (u28.alloc (.cells #[.int .i64 n, .slice A2 xs.length c2] 46))) := hJ (X29.out.trans (Ext.new _ _))
     have F34 : Hid (Row (u28.alloc (.cells #[.int .i64 n, .slice A2 xs.length c2] 46)) A2 (ints xs)) := hJ (F30.out.ext (Ext.new _ _))
     have F35 : Hid (Row (u28.alloc (.cells #[.int .i64 n, .slice A2 xs.length c2] 46)) (some ⟨u16.heap.size, 0, none⟩) (entE.cells [viewEnt n xs])) := hJ (F31.out.ext (Ext.new _ _))
     have F36 : Hid (viewE.Box (u28.alloc (.cells #[.int .i64 n, .slice A2 xs.length c2] 46)) (some ⟨u28.heap.size, 0, none⟩) [⟨n, A2, c2, xs⟩]) := hJ (view1_box F30.out h21 h22)
     generalize (u28.alloc (.cells #[.int .i64 n, .slice A2 xs.length c2] 46)) = u32 at *
     have u32_0 : u32.cell? ⟨w.heap.size, 0, none⟩ = some (.int .i64 n) := by rw [X33.out.cell (by exact hp1)]; exact q0
     have u32_1 : u32.cell? ⟨w.heap.size, 1, none⟩ = some (.slice A xs.length c) := by rw [X33.out.cell (by exact hp1)]; exact q1
     clear hHeld; refine hK.out _ _ ⟨u32_0, u32_1⟩ (fun hHeld => ?_)
     clear hK K; try simp only [Act.put, aP1, aP2, aP3]
     refine E_t 9 26 ?_; refine E_tail (by rfl) (by kernel_rfl) ?_
     have BRE := hJ (BR1.out.ext X33.out)
     obtain ⟨y0, y1, y2, y3, y4, y5, y6, y7, y8⟩ := nine BRE.out
     obtain ⟨z0, z1, z2, z3, z4, z5, z6, z7, z8⟩ := BRE.out.free9
     have hz := X33.out.size
     go_wp2; have BF : Hid (BIs (((((((((u32.setCell ⟨w.heap.size + 1, 0, none⟩ (.int .i64 self)).setCell ⟨w.heap.size + 1, 1, none⟩ (.slice (some ⟨u28.heap.size, 0, none⟩) 1 1)).setCell ⟨w.heap.size + 1, 2, none⟩ (.int .i64 n)).setCell ⟨w.heap.size + 1, 3, none⟩ (.slice (some ⟨u16.heap.size, 0, none⟩) 1 1)).setCell ⟨w.heap.size + 1, 4, none⟩ (.int .i64 0)).setCell ⟨w.heap.size + 1, 5, none⟩ (.int .i64 0)).setCell ⟨w.heap.size + 1, 6, none⟩ (.slice none 0 0)).setCell ⟨w.heap.size + 1, 7, none⟩ (.slice none 0 0)).setCell ⟨w.heap.size + 1, 8, none⟩ (.slice none 0 0)) (w.heap.size + 1) #[.int .i64 self, .slice (some ⟨u28.heap.size, 0, none⟩) 1 1, .int .i64 n, .slice (some ⟨u16.heap.size, 0, none⟩) 1 1, .int .i64 0, .int .i64 0, .slice none 0 0, .slice none 0 0, .slice none 0 0] 28) := hJ (nine_set BRE.out)
     have W9 : Hid (Wrote (w.heap.size + 1) u32 (((((((((u32.setCell ⟨w.heap.size + 1, 0, none⟩ (.int .i64 self)).setCell ⟨w.heap.size + 1, 1, none⟩ (.slice (some ⟨u28.heap.size, 0, none⟩) 1 1)).setCell ⟨w.heap.size + 1, 2, none⟩ (.int .i64 n)).setCell ⟨w.heap.size + 1, 3, none⟩ (.slice (some ⟨u16.heap.size, 0, none⟩) 1 1)).setCell ⟨w.heap.size + 1, 4, none⟩ (.int .i64 0)).setCell ⟨w.heap.size + 1, 5, none⟩ (.int .i64 0)).setCell ⟨w.heap.size + 1, 6, none⟩ (.slice none 0 0)).setCell ⟨w.heap.size + 1, 7, none⟩ (.slice none 0 0)).setCell ⟨w.heap.size + 1, 8, none⟩ (.slice none 0 0))) := hJ nine_wrote
     have XFF : Hid (Ext w (((((((((u32.setCell ⟨w.heap.size + 1, 0, none⟩ (.int .i64 self)).setCell ⟨w.heap.size + 1, 1, none⟩ (.slice (some ⟨u28.heap.size, 0, none⟩) 1 1)).setCell ⟨w.heap.size + 1, 2, none⟩ (.int .i64 n)).setCell ⟨w.heap.size + 1, 3, none⟩ (.slice (some ⟨u16.heap.size, 0, none⟩) 1 1)).setCell ⟨w.heap.size + 1, 4, none⟩ (.int .i64 0)).setCell ⟨w.heap.size + 1, 5, none⟩ (.int .i64 0)).setCell ⟨w.heap.size + 1, 6, none⟩ (.slice none 0 0)).setCell ⟨w.heap.size + 1, 7, none⟩ (.slice none 0 0)).setCell ⟨w.heap.size + 1, 8, none⟩ (.slice none 0 0))) := hJ (nine_wrote.ext ((E0.out.trans X1.out).trans X33.out) (by omega))
     generalize (((((((((u32.setCell ⟨w.heap.size + 1, 0, none⟩ (.int .i64 self)).setCell ⟨w.heap.size + 1, 1, none⟩ (.slice (some ⟨u28.heap.size, 0, none⟩) 1 1)).setCell ⟨w.heap.size + 1, 2, none⟩ (.int .i64 n)).setCell ⟨w.heap.size + 1, 3, none⟩ (.slice (some ⟨u16.heap.size, 0, none⟩) 1 1)).setCell ⟨w.heap.size + 1, 4, none⟩ (.int .i64 0)).setCell ⟨w.heap.size + 1, 5, none⟩ (.int .i64 0)).setCell ⟨w.heap.size + 1, 6, none⟩ (.slice none 0 0)).setCell ⟨w.heap.size + 1, 7, none⟩ (.slice none 0 0)).setCell ⟨w.heap.size + 1, 8, none⟩ (.slice none 0 0)) = W at *
     obtain ⟨e0, e1, e2, e3, e4, e5, e6, e7, e8⟩ := nine BF.out
     refine bodyPost_ret (v := .tuple #[.agg #[.int .i64 self, .slice (some ⟨u28.heap.size, 0, none⟩) 1 1, .int .i64 n, .slice (some ⟨u16.heap.size, 0, none⟩) 1 1, .int .i64 0, .int .i64 0, .slice none 0 0, .slice none 0 0, .slice none 0 0], .int .i64 0]) (by simp [results, Tryz.results22, go_sem, e0, e1, e2, e3, e4, e5, e6, e7, e8]) rfl ?_
     rw [HG.out]
     exact genesis_out F36.out F35.out W9.out XFF.out (by have := hp2.out; have := X29.out.size; omega) (by have := hp2.out; have := X17.out.size; omega) (fun q hne hq => by have h1 : w1.heap.size ≤ q.block := HN2.out q hne hq; have := hp2.out; omega) hx16
  ·have HM : Hid (hasB xs self = false) := hJ (by simpa using hm)
   have HF : Hid (genesisF (n, xs) self = (zeroS, 1)) := hJ (by unfold genesisF; simp only [hv, HM.out]; rfl)
   clear hv hm; go_enter Tryz.func22, Tryz.ntmps22
   go_wp2_with fail
   refine (valid_any n A c xs _ H0.out (by omega)).mono ?_
   rintro en w1 ⟨rfl, hx1⟩
   have X1 := hJ hx1
   have H1 := hJ (H0.out.ext hx1)
   have BR1 : Hid (BIs w1 (w.heap.size + 1) #[.int .i64 0, .slice none 0 0, .int .i64 0, .slice none 0 0, .int .i64 0, .int .i64 0, .slice none 0 0, .slice none 0 0, .slice none 0 0] 28) := hJ (by have := BIs.ext (BIs.new (w.alloc (.cells #[.int .i64 n, .slice A xs.length c] 46)) #[.int .i64 0, .slice none 0 0, .int .i64 0, .slice none 0 0, .int .i64 0, .int .i64 0, .slice none 0 0, .slice none 0 0, .slice none 0 0] 28) hx1; simpa using this)
   have q0 : w1.cell? ⟨w.heap.size, 0, none⟩ = some (.int .i64 n) := (((BIs.new w #[.int .i64 n, .slice A xs.length c] 46).ext (Ext.new _ _)).ext hx1).cell 0
   have q1 : w1.cell? ⟨w.heap.size, 1, none⟩ = some (.slice A xs.length c) := (((BIs.new w #[.int .i64 n, .slice A xs.length c] 46).ext (Ext.new _ _)).ext hx1).cell 1
   have hp1 : w.heap.size < w1.heap.size := by have := BR1.out.lt; omega
   clear hx1; obtain ⟨y0, y1, y2, y3, y4, y5, y6, y7, y8⟩ := nine BR1.out
   obtain ⟨z0, z1, z2, z3, z4, z5, z6, z7, z8⟩ := BR1.out.free9
   rw [HV.out]
   go_wp2_with fail
   refine (contains_any A c xs self w1 H1.out (by omega)).mono ?_
   rintro en w1' ⟨rfl, rfl⟩
   rw [HM.out]
   go_wp2; have BF : Hid (BIs (((((((((w1.setCell ⟨w.heap.size + 1, 0, none⟩ (.int .i64 0)).setCell ⟨w.heap.size + 1, 1, none⟩ (.slice none 0 0)).setCell ⟨w.heap.size + 1, 2, none⟩ (.int .i64 0)).setCell ⟨w.heap.size + 1, 3, none⟩ (.slice none 0 0)).setCell ⟨w.heap.size + 1, 4, none⟩ (.int .i64 0)).setCell ⟨w.heap.size + 1, 5, none⟩ (.int .i64 0)).setCell ⟨w.heap.size + 1, 6, none⟩ (.slice none 0 0)).setCell ⟨w.heap.size + 1, 7, none⟩ (.slice none 0 0)).setCell ⟨w.heap.size + 1, 8, none⟩ (.slice none 0 0)) (w.heap.size + 1) #[.int .i64 0, .slice none 0 0, .int .i64 0, .slice none 0 0, .int .i64 0, .int .i64 0, .slice none 0 0, .slice none 0 0, .slice none 0 0] 28) := hJ (nine_set BR1.out)
   have XFF : Hid (Ext w (((((((((w1.setCell ⟨w.heap.size + 1, 0, none⟩ (.int .i64 0)).setCell ⟨w.heap.size + 1, 1, none⟩ (.slice none 0 0)).setCell ⟨w.heap.size + 1, 2, none⟩ (.int .i64 0)).setCell ⟨w.heap.size + 1, 3, none⟩ (.slice none 0 0)).setCell ⟨w.heap.size + 1, 4, none⟩ (.int .i64 0)).setCell ⟨w.heap.size + 1, 5, none⟩ (.int .i64 0)).setCell ⟨w.heap.size + 1, 6, none⟩ (.slice none 0 0)).setCell ⟨w.heap.size + 1, 7, none⟩ (.slice none 0 0)).setCell ⟨w.heap.size + 1, 8, none⟩ (.slice none 0 0))) := hJ (nine_wrote.ext (E0.out.trans X1.out) (by omega))
   generalize (((((((((w1.setCell ⟨w.heap.size + 1, 0, none⟩ (.int .i64 0)).setCell ⟨w.heap.size + 1, 1, none⟩ (.slice none 0 0)).setCell ⟨w.heap.size + 1, 2, none⟩ (.int .i64 0)).setCell ⟨w.heap.size + 1, 3, none⟩ (.slice none 0 0)).setCell ⟨w.heap.size + 1, 4, none⟩ (.int .i64 0)).setCell ⟨w.heap.size + 1, 5, none⟩ (.int .i64 0)).setCell ⟨w.heap.size + 1, 6, none⟩ (.slice none 0 0)).setCell ⟨w.heap.size + 1, 7, none⟩ (.slice none 0 0)).setCell ⟨w.heap.size + 1, 8, none⟩ (.slice none 0 0)) = W at *
   obtain ⟨e0, e1, e2, e3, e4, e5, e6, e7, e8⟩ := nine BF.out
   refine bodyPost_ret (v := .tuple #[.agg #[.int .i64 0, .slice none 0 0, .int .i64 0, .slice none 0 0, .int .i64 0, .int .i64 0, .slice none 0 0, .slice none 0 0, .slice none 0 0], .int .i64 1]) (by simp [results, Tryz.results22, go_sem, e0, e1, e2, e3, e4, e5, e6, e7, e8]) rfl ?_
   exact gives_zero HF.out XFF.out
 ·have HV : Hid (validB n xs = false) := hJ (by simpa using hv)
  have HF : Hid (genesisF (n, xs) self = (zeroS, 1)) := hJ (by unfold genesisF; simp only [HV.out]; rfl)
  clear hv; go_enter Tryz.func22, Tryz.ntmps22
  go_wp2_with fail
  refine (valid_any n A c xs _ H0.out (by omega)).mono ?_
  rintro en w1 ⟨rfl, hx1⟩
  have X1 := hJ hx1
  have H1 := hJ (H0.out.ext hx1)
  have BR1 : Hid (BIs w1 (w.heap.size + 1) #[.int .i64 0, .slice none 0 0, .int .i64 0, .slice none 0 0, .int .i64 0, .int .i64 0, .slice none 0 0, .slice none 0 0, .slice none 0 0] 28) := hJ (by have := BIs.ext (BIs.new (w.alloc (.cells #[.int .i64 n, .slice A xs.length c] 46)) #[.int .i64 0, .slice none 0 0, .int .i64 0, .slice none 0 0, .int .i64 0, .int .i64 0, .slice none 0 0, .slice none 0 0, .slice none 0 0] 28) hx1; simpa using this)
  have q0 : w1.cell? ⟨w.heap.size, 0, none⟩ = some (.int .i64 n) := (((BIs.new w #[.int .i64 n, .slice A xs.length c] 46).ext (Ext.new _ _)).ext hx1).cell 0
  have q1 : w1.cell? ⟨w.heap.size, 1, none⟩ = some (.slice A xs.length c) := (((BIs.new w #[.int .i64 n, .slice A xs.length c] 46).ext (Ext.new _ _)).ext hx1).cell 1
  have hp1 : w.heap.size < w1.heap.size := by have := BR1.out.lt; omega
  clear hx1; obtain ⟨y0, y1, y2, y3, y4, y5, y6, y7, y8⟩ := nine BR1.out
  obtain ⟨z0, z1, z2, z3, z4, z5, z6, z7, z8⟩ := BR1.out.free9
  rw [HV.out]
  go_wp2; have BF : Hid (BIs (((((((((w1.setCell ⟨w.heap.size + 1, 0, none⟩ (.int .i64 0)).setCell ⟨w.heap.size + 1, 1, none⟩ (.slice none 0 0)).setCell ⟨w.heap.size + 1, 2, none⟩ (.int .i64 0)).setCell ⟨w.heap.size + 1, 3, none⟩ (.slice none 0 0)).setCell ⟨w.heap.size + 1, 4, none⟩ (.int .i64 0)).setCell ⟨w.heap.size + 1, 5, none⟩ (.int .i64 0)).setCell ⟨w.heap.size + 1, 6, none⟩ (.slice none 0 0)).setCell ⟨w.heap.size + 1, 7, none⟩ (.slice none 0 0)).setCell ⟨w.heap.size + 1, 8, none⟩ (.slice none 0 0)) (w.heap.size + 1) #[.int .i64 0, .slice none 0 0, .int .i64 0, .slice none 0 0, .int .i64 0, .int .i64 0, .slice none 0 0, .slice none 0 0, .slice none 0 0] 28) := hJ (nine_set BR1.out)
  have XFF : Hid (Ext w (((((((((w1.setCell ⟨w.heap.size + 1, 0, none⟩ (.int .i64 0)).setCell ⟨w.heap.size + 1, 1, none⟩ (.slice none 0 0)).setCell ⟨w.heap.size + 1, 2, none⟩ (.int .i64 0)).setCell ⟨w.heap.size + 1, 3, none⟩ (.slice none 0 0)).setCell ⟨w.heap.size + 1, 4, none⟩ (.int .i64 0)).setCell ⟨w.heap.size + 1, 5, none⟩ (.int .i64 0)).setCell ⟨w.heap.size + 1, 6, none⟩ (.slice none 0 0)).setCell ⟨w.heap.size + 1, 7, none⟩ (.slice none 0 0)).setCell ⟨w.heap.size + 1, 8, none⟩ (.slice none 0 0))) := hJ (nine_wrote.ext (E0.out.trans X1.out) (by omega))
  generalize (((((((((w1.setCell ⟨w.heap.size + 1, 0, none⟩ (.int .i64 0)).setCell ⟨w.heap.size + 1, 1, none⟩ (.slice none 0 0)).setCell ⟨w.heap.size + 1, 2, none⟩ (.int .i64 0)).setCell ⟨w.heap.size + 1, 3, none⟩ (.slice none 0 0)).setCell ⟨w.heap.size + 1, 4, none⟩ (.int .i64 0)).setCell ⟨w.heap.size + 1, 5, none⟩ (.int .i64 0)).setCell ⟨w.heap.size + 1, 6, none⟩ (.slice none 0 0)).setCell ⟨w.heap.size + 1, 7, none⟩ (.slice none 0 0)).setCell ⟨w.heap.size + 1, 8, none⟩ (.slice none 0 0)) = W at *
  obtain ⟨e0, e1, e2, e3, e4, e5, e6, e7, e8⟩ := nine BF.out
  refine bodyPost_ret (v := .tuple #[.agg #[.int .i64 0, .slice none 0 0, .int .i64 0, .slice none 0 0, .int .i64 0, .int .i64 0, .slice none 0 0, .slice none 0 0, .slice none 0 0], .int .i64 1]) (by simp [results, Tryz.results22, go_sem, e0, e1, e2, e3, e4, e5, e6, e7, e8]) rfl ?_
  exact gives_zero HF.out XFF.out
end Go.Proofs.YtponbabbabnaeaaGreat
