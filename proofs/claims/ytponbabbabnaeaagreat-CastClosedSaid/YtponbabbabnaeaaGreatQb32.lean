/- Part 32 of the proof: contracts of functions that the statement reaches. Conditions: as each theorem says. -/
import Derived.Test.YtponbabbabnaeaaGreatQb01
import Derived.Test.YtponbabbabnaeaaGreatQb20
import Derived.Test.YtponbabbabnaeaaGreatQb17
import Derived.Test.YtponbabbabnaeaaGreatQb10
import Derived.Test.YtponbabbabnaeaaGreatQb08
import Derived.Test.YtponbabbabnaeaaGreatQb09
import Derived.Test.YtponbabbabnaeaaGreatQb12
namespace Go.Proofs.YtponbabbabnaeaaGreat
open Go.RowKit
set_option maxRecDepth 100000 in
set_option maxHeartbeats 4000000 in
theorem newView_any (b : BM) (n : Int) (A : Option Addr) (c : Nat) (xs : List Int) (w : World) (h : b.Reads w) (hf : b.Fits) (hr : Row w A (ints xs)) (hx : xs.length ≤ 1000000) :
  Calls Tryz.prog 24 #[.agg b.cells, .agg #[.int .i64 n, .slice A xs.length c]] w (GivesS w (newViewF b.st (n, xs))) := by
 have W_x := hJ hr; have R_b := hJ h; have FT := hJ hf
 clear hr h hf; unfold BM.cells
 have XX : Hid (Ext w (((w.alloc (.cells #[.int .i64 b.self, .slice b.Av b.vs.length b.cv, .int .i64 b.base, .slice b.Al b.log.length b.cl, .int .i64 b.stable, .int .i64 b.sent, .slice b.Ap b.pend.length b.cp, .slice b.Am b.marks.length b.cm, .slice b.Af b.fls.length b.cf] 28)).alloc (.cells #[.int .i64 n, .slice A xs.length c] 46)).alloc (.cells #[.int .i64 0, .slice none 0 0, .int .i64 0, .slice none 0 0, .int .i64 0, .int .i64 0, .slice none 0 0, .slice none 0 0, .slice none 0 0] 28))) := hJ (((Ext.new _ _).trans (Ext.new _ _)).trans (Ext.new _ _))
 have B_s : Hid (BIs (((w.alloc (.cells #[.int .i64 b.self, .slice b.Av b.vs.length b.cv, .int .i64 b.base, .slice b.Al b.log.length b.cl, .int .i64 b.stable, .int .i64 b.sent, .slice b.Ap b.pend.length b.cp, .slice b.Am b.marks.length b.cm, .slice b.Af b.fls.length b.cf] 28)).alloc (.cells #[.int .i64 n, .slice A xs.length c] 46)).alloc (.cells #[.int .i64 0, .slice none 0 0, .int .i64 0, .slice none 0 0, .int .i64 0, .int .i64 0, .slice none 0 0, .slice none 0 0, .slice none 0 0] 28)) (w.heap.size) #[.int .i64 b.self, .slice b.Av b.vs.length b.cv, .int .i64 b.base, .slice b.Al b.log.length b.cl, .int .i64 b.stable, .int .i64 b.sent, .slice b.Ap b.pend.length b.cp, .slice b.Am b.marks.length b.cm, .slice b.Af b.fls.length b.cf] 28) := hJ (((BIs.newAt (w := w) #[.int .i64 b.self, .slice b.Av b.vs.length b.cv, .int .i64 b.base, .slice b.Al b.log.length b.cl, .int .i64 b.stable, .int .i64 b.sent, .slice b.Ap b.pend.length b.cp, .slice b.Am b.marks.length b.cm, .slice b.Af b.fls.length b.cf] 28 (by simp)).ext (Ext.new _ _)).ext (Ext.new _ _))
 have LW_s : Hid (w.heap.size ≤ w.heap.size) := hJ (by omega)
 have FR_x_s := hJ (Row.far W_x.out (r := w.heap.size) (by omega))
 have F_b_s : Hid (BM.Far b (w.heap.size)) := hJ (R_b.out.far (by omega))
 have B_v : Hid (BIs (((w.alloc (.cells #[.int .i64 b.self, .slice b.Av b.vs.length b.cv, .int .i64 b.base, .slice b.Al b.log.length b.cl, .int .i64 b.stable, .int .i64 b.sent, .slice b.Ap b.pend.length b.cp, .slice b.Am b.marks.length b.cm, .slice b.Af b.fls.length b.cf] 28)).alloc (.cells #[.int .i64 n, .slice A xs.length c] 46)).alloc (.cells #[.int .i64 0, .slice none 0 0, .int .i64 0, .slice none 0 0, .int .i64 0, .int .i64 0, .slice none 0 0, .slice none 0 0, .slice none 0 0] 28)) (w.heap.size + 1) #[.int .i64 n, .slice A xs.length c] 46) := hJ ((BIs.newAt (w := (w.alloc (.cells #[.int .i64 b.self, .slice b.Av b.vs.length b.cv, .int .i64 b.base, .slice b.Al b.log.length b.cl, .int .i64 b.stable, .int .i64 b.sent, .slice b.Ap b.pend.length b.cp, .slice b.Am b.marks.length b.cm, .slice b.Af b.fls.length b.cf] 28))) #[.int .i64 n, .slice A xs.length c] 46 (by simp)).ext (Ext.new _ _))
 have LW_v : Hid (w.heap.size ≤ w.heap.size + 1) := hJ (by omega)
 have L_s_v : Hid (w.heap.size < w.heap.size + 1) := hJ (by omega)
 have FR_x_v := hJ (Row.far W_x.out (r := w.heap.size + 1) (by omega))
 have F_b_v : Hid (BM.Far b (w.heap.size + 1)) := hJ (R_b.out.far (by omega))
 have B_ret : Hid (BIs (((w.alloc (.cells #[.int .i64 b.self, .slice b.Av b.vs.length b.cv, .int .i64 b.base, .slice b.Al b.log.length b.cl, .int .i64 b.stable, .int .i64 b.sent, .slice b.Ap b.pend.length b.cp, .slice b.Am b.marks.length b.cm, .slice b.Af b.fls.length b.cf] 28)).alloc (.cells #[.int .i64 n, .slice A xs.length c] 46)).alloc (.cells #[.int .i64 0, .slice none 0 0, .int .i64 0, .slice none 0 0, .int .i64 0, .int .i64 0, .slice none 0 0, .slice none 0 0, .slice none 0 0] 28)) (w.heap.size + 2) #[.int .i64 0, .slice none 0 0, .int .i64 0, .slice none 0 0, .int .i64 0, .int .i64 0, .slice none 0 0, .slice none 0 0, .slice none 0 0] 28) := hJ (BIs.newAt (w := ((w.alloc (.cells #[.int .i64 b.self, .slice b.Av b.vs.length b.cv, .int .i64 b.base, .slice b.Al b.log.length b.cl, .int .i64 b.stable, .int .i64 b.sent, .slice b.Ap b.pend.length b.cp, .slice b.Am b.marks.length b.cm, .slice b.Af b.fls.length b.cf] 28)).alloc (.cells #[.int .i64 n, .slice A xs.length c] 46))) #[.int .i64 0, .slice none 0 0, .int .i64 0, .slice none 0 0, .int .i64 0, .int .i64 0, .slice none 0 0, .slice none 0 0, .slice none 0 0] 28 (by simp))
 have LW_ret : Hid (w.heap.size ≤ w.heap.size + 2) := hJ (by omega)
 have L_s_ret : Hid (w.heap.size < w.heap.size + 2) := hJ (by omega)
 have L_v_ret : Hid (w.heap.size + 1 < w.heap.size + 2) := hJ (by omega)
 have FR_x_ret := hJ (Row.far W_x.out (r := w.heap.size + 2) (by omega))
 have F_b_ret : Hid (BM.Far b (w.heap.size + 2)) := hJ (R_b.out.far (by omega))
 replace W_x := hJ (W_x.out.ext XX.out)
 replace R_b := hJ (R_b.out.ext XX.out)
 go_enter Tryz.func24, Tryz.ntmps24
 go_wp2_with fail
 generalize (((w.alloc (.cells #[.int .i64 b.self, .slice b.Av b.vs.length b.cv, .int .i64 b.base, .slice b.Al b.log.length b.cl, .int .i64 b.stable, .int .i64 b.sent, .slice b.Ap b.pend.length b.cp, .slice b.Am b.marks.length b.cm, .slice b.Af b.fls.length b.cf] 28)).alloc (.cells #[.int .i64 n, .slice A xs.length c] 46)).alloc (.cells #[.int .i64 0, .slice none 0 0, .int .i64 0, .slice none 0 0, .int .i64 0, .int .i64 0, .slice none 0 0, .slice none 0 0, .slice none 0 0] 28)) = u0 at *
 refine (valid12_any b _ R_b.out FT.out).mono ?_
 rintro en w1 ⟨rfl, hx1⟩
 replace B_s := hJ (B_s.out.ext hx1)
 replace B_v := hJ (B_v.out.ext hx1)
 replace B_ret := hJ (B_ret.out.ext hx1)
 replace R_b := hJ (R_b.out.ext hx1)
 replace W_x := hJ (W_x.out.ext hx1)
 replace XX := hJ (XX.out.trans hx1)
 clear hx1; by_cases hv : validS b.st = true
 rotate_left
 ·have hv' : validS b.st = false := by simpa using hv
  have HF : Hid (newViewF b.st (n, xs) = (zeroS, 1)) := hJ (by unfold newViewF; rw [if_pos hv'])
  rw [hv']
  clear hv hv'; obtain ⟨y0, y1, y2, y3, y4, y5, y6, y7, y8⟩ := nine B_ret.out
  obtain ⟨z0, z1, z2, z3, z4, z5, z6, z7, z8⟩ := B_ret.out.free9
  go_wp2; have BF : Hid (BIs (((((((((w1.setCell ⟨(w.heap.size + 2), 0, none⟩ (.int .i64 0)).setCell ⟨(w.heap.size + 2), 1, none⟩ (.slice none 0 0)).setCell ⟨(w.heap.size + 2), 2, none⟩ (.int .i64 0)).setCell ⟨(w.heap.size + 2), 3, none⟩ (.slice none 0 0)).setCell ⟨(w.heap.size + 2), 4, none⟩ (.int .i64 0)).setCell ⟨(w.heap.size + 2), 5, none⟩ (.int .i64 0)).setCell ⟨(w.heap.size + 2), 6, none⟩ (.slice none 0 0)).setCell ⟨(w.heap.size + 2), 7, none⟩ (.slice none 0 0)).setCell ⟨(w.heap.size + 2), 8, none⟩ (.slice none 0 0)) (w.heap.size + 2) #[.int .i64 0, .slice none 0 0, .int .i64 0, .slice none 0 0, .int .i64 0, .int .i64 0, .slice none 0 0, .slice none 0 0, .slice none 0 0] 28) := hJ (nine_set B_ret.out)
  have XF : Hid (Ext w (((((((((w1.setCell ⟨(w.heap.size + 2), 0, none⟩ (.int .i64 0)).setCell ⟨(w.heap.size + 2), 1, none⟩ (.slice none 0 0)).setCell ⟨(w.heap.size + 2), 2, none⟩ (.int .i64 0)).setCell ⟨(w.heap.size + 2), 3, none⟩ (.slice none 0 0)).setCell ⟨(w.heap.size + 2), 4, none⟩ (.int .i64 0)).setCell ⟨(w.heap.size + 2), 5, none⟩ (.int .i64 0)).setCell ⟨(w.heap.size + 2), 6, none⟩ (.slice none 0 0)).setCell ⟨(w.heap.size + 2), 7, none⟩ (.slice none 0 0)).setCell ⟨(w.heap.size + 2), 8, none⟩ (.slice none 0 0))) := hJ (nine_wrote.ext XX.out LW_ret.out)
  generalize (((((((((w1.setCell ⟨(w.heap.size + 2), 0, none⟩ (.int .i64 0)).setCell ⟨(w.heap.size + 2), 1, none⟩ (.slice none 0 0)).setCell ⟨(w.heap.size + 2), 2, none⟩ (.int .i64 0)).setCell ⟨(w.heap.size + 2), 3, none⟩ (.slice none 0 0)).setCell ⟨(w.heap.size + 2), 4, none⟩ (.int .i64 0)).setCell ⟨(w.heap.size + 2), 5, none⟩ (.int .i64 0)).setCell ⟨(w.heap.size + 2), 6, none⟩ (.slice none 0 0)).setCell ⟨(w.heap.size + 2), 7, none⟩ (.slice none 0 0)).setCell ⟨(w.heap.size + 2), 8, none⟩ (.slice none 0 0)) = W at *
  obtain ⟨e0, e1, e2, e3, e4, e5, e6, e7, e8⟩ := nine BF.out
  refine bodyPost_ret (v := .tuple #[.agg #[.int .i64 0, .slice none 0 0, .int .i64 0, .slice none 0 0, .int .i64 0, .int .i64 0, .slice none 0 0, .slice none 0 0, .slice none 0 0], .int .i64 1]) (by simp [results, Tryz.results24, go_sem, e0, e1, e2, e3, e4, e5, e6, e7, e8]) rfl ?_
  exact gives_zero HF.out XF.out
 rw [hv]
 have HV := hJ hv
 clear hv; go_upto_region 3 with fail
 have hvl : b.vs.length ≤ 1000000 := by have := FT.out.vs; omega
 refine E_begin 8 (fun w' => w'.cell? ⟨w.heap.size, 1, none⟩ = some (.slice b.Av b.vs.length b.cv) ∧ w'.cell? ⟨w.heap.size + 1, 0, none⟩ = some (.int .i64 n) ∧ w'.cell? ⟨w.heap.size + 1, 1, none⟩ = some (.slice A xs.length c)) (by kernel_rfl) ⟨B_s.out.cell 1, B_v.out.cell 0, B_v.out.cell 1⟩ (fun hHeld => ?_)
 have XD : Hid (Ext w1 w1.drew) := hJ Ext.drew1
 replace B_s := hJ (B_s.out.ext XD.out)
 replace B_v := hJ (B_v.out.ext XD.out)
 replace B_ret := hJ (B_ret.out.ext XD.out)
 replace R_b := hJ (R_b.out.ext XD.out)
 replace W_x := hJ (W_x.out.ext XD.out)
 replace XX := hJ (XX.out.trans XD.out)
 clear XD; generalize w1.drew = u1 at *
 have LWU : Hid (w.heap.size ≤ u1.heap.size) := hJ XX.out.size; have LRU : Hid (w.heap.size + 2 < u1.heap.size) := hJ B_ret.out.lt
 refine E_t 0 12 ?_; refine E_t 1 13 ?_; refine E_t 3 15 ?_; refine E_ready [2] (by kernel_rfl) (by simp) ?_
 refine (AllE.cons (o := ⟨some 14, _, _, _, _, _⟩) rfl (fun K hK => ?_) AllE.nil)
 go_simp; go_at_call 93; refine (cloneViews_any b.Av b.cv b.vs _ R_b.out.vs hvl FT.out.vx).mono ?_
 rintro en w2 ⟨l1, hl1, hn1, A1, c1, rfl, h11, h12, ho1, hx2⟩
 have HO1 := hJ ho1; have XU := hJ hx2; have hw12 := hJ hx2.size
 clear ho1 hx2; clear hHeld; refine hK.out _ _ ⟨(B_s.out.ext XU.out).cell 1, (B_v.out.ext XU.out).cell 0, (B_v.out.ext XU.out).cell 1⟩ (fun hHeld => ?_)
 clear hK K; try simp only [Act.put, aP1, aP2, aP3]
 refine E_ready [4] (by kernel_rfl) (by simp) ?_
 refine (AllE.cons (o := ⟨some 16, _, _, _, _, _⟩) rfl (fun K hK => ?_) AllE.nil)
 go_simp; go_at_call 86; refine (cloneView_any n A c xs _ (W_x.out.ext XU.out) hx).mono ?_
 rintro en w3 ⟨A2, c2, rfl, h21, h22, hr2, hn2, hx3⟩
 dsimp only at h21 hr2 hn2 ⊢
 have HO1' := hJ (HO1.out.ext hx3)
 replace XU := hJ (XU.out.trans hx3)
 clear hx3; clear hHeld; refine hK.out _ _ ⟨(B_s.out.ext XU.out).cell 1, (B_v.out.ext XU.out).cell 0, (B_v.out.ext XU.out).cell 1⟩ (fun hHeld => ?_)
 clear hK K; try simp only [Act.put, aP1, aP2, aP3]
 refine E_ready [5] (by kernel_rfl) (by simp) ?_
 refine (AllE.cons (o := ⟨some 17, _, _, _, _, _⟩) rfl (fun K hK => ?_) AllE.nil)
 go_simp; have RV1 : Hid (viewE.Box (w3.alloc (.cells #[.int .i64 n, .slice A2 xs.length c2] 46)) (some ⟨w3.heap.size, 0, none⟩) [⟨n, A2, c2, xs⟩]) := hJ (view1_box hr2.out h21 h22)
 have HO2 := hJ (HO1'.out.ext (Ext.new w3 (.cells #[.int .i64 n, .slice A2 xs.length c2] 46)))
 have E1 : Hid (Ext w3 (w3.alloc (.cells #[.int .i64 n, .slice A2 xs.length c2] 46))) := hJ (Ext.new _ _)
 replace XU := hJ (XU.out.trans E1.out)
 clear E1; generalize w3.alloc (.cells #[.int .i64 n, .slice A2 xs.length c2] 46) = u4 at *
 generalize w3.heap.size = r_e at *
 clear hHeld; refine hK.out _ _ ⟨(B_s.out.ext XU.out).cell 1, (B_v.out.ext XU.out).cell 0, (B_v.out.ext XU.out).cell 1⟩ (fun hHeld => ?_)
 clear hK K; try simp only [Act.put, aP1, aP2, aP3]
 refine E_ready [6] (by kernel_rfl) (by simp) ?_
 refine (AllE.cons (o := ⟨some 18, _, _, _, _, _⟩) rfl (fun K hK => ?_) AllE.nil)
 have hap : Hid (∀ q ∈ [(⟨n, A2, c2, xs⟩ : VwM)], viewE.ok q ∧ ∀ r ∈ viewE.inn q, Row u4 r.1 r.2 ∧ Apt (.slice A1 l1.length c1) r) := hJ (fun q hq => ⟨(RV1.out.2 q hq).1, fun r hr => ⟨(RV1.out.2 q hq).2 r hr, by
  simp only [List.mem_cons, List.not_mem_nil, or_false] at hq
  subst hq
  simp only [viewE, List.mem_cons, List.not_mem_nil, or_false] at hr
  subst hr
  exact apt_new (wc := w2) (fun p hne hp => hn2.out p hne hp) HO1.out.1⟩⟩)
 refine step_push_e viewE rfl (.tmp 14) (.tmp 17) rfl u4 u1.heap.size _ l1 (by rfl) _ 1 1 [⟨n, A2, c2, xs⟩] (by rfl) rfl RV1.out.1 (by decide) HO2.out hap.out (by have h1 := congrArg List.length hl1.out; simp [vws] at h1; omega) XU.out.size ?_
 intro v5 u5 ho5 hg5 hs5
 replace XU : Hid (Ext u1 u5) := hJ (Below.trans XU.out ((Below.refl u1.heap.size u4).grown hg5 XU.out.size (fun k hk => (HO2.out.1.lt k hk).1)))
 have LN : Hid (vws (l1 ++ [(⟨n, A2, c2, xs⟩ : VwM)]) = vws b.vs ++ [(n, xs)]) := hJ (by have h := hl1.out; unfold vws at *; rw [List.map_append, h]; rfl)
 have VN : Hid (∀ v ∈ l1 ++ [(⟨n, A2, c2, xs⟩ : VwM)], NewAt u1.heap.size v.A (ints v.xs)) := hJ (fun v hv => by
  rcases List.mem_append.1 hv with hv | hv
  ·exact hn1.out v hv
  ·simp only [List.mem_cons, List.not_mem_nil, or_false] at hv
   subst hv
   exact fun p hne hp => Nat.le_trans hw12.out (hn2.out p hne hp))
 generalize l1 ++ [(⟨n, A2, c2, xs⟩ : VwM)] = l5 at *
 have HO5 := hJ ho5
 obtain ⟨A5, c5, rfl, h51, h52, _⟩ := ho5.slice
 clear ho5 hg5 hs5; clear hHeld; refine hK.out _ _ ⟨(B_s.out.ext XU.out).cell 1, (B_v.out.ext XU.out).cell 0, (B_v.out.ext XU.out).cell 1⟩ (fun hHeld => ?_)
 clear hK K; try simp only [Act.put, aP1, aP2, aP3]
 refine E_t 7 6 ?_; refine E_end (by kernel_rfl) (by rfl) ?_
 replace B_s := hJ (B_s.out.ext XU.out)
 replace B_v := hJ (B_v.out.ext XU.out)
 replace B_ret := hJ (B_ret.out.ext XU.out)
 replace R_b := hJ (R_b.out.ext XU.out)
 replace W_x := hJ (W_x.out.ext XU.out)
 replace XX := hJ (XX.out.trans XU.out)
 go_wp2_with fail
 have L5 : Hid (l5.length ≤ 1000000000 ∧ ∀ v ∈ l5, v.xs.length ≤ 1000000) := hJ (by
  have h1 : l5.map VwM.v = b.vs.map VwM.v ++ [(n, xs)] := LN.out
  refine ⟨by have := congrArg List.length h1; simp at this; omega, fun v hv => ?_⟩
  have h2 : v.v ∈ l5.map VwM.v := List.mem_map.2 ⟨v, hv, rfl⟩
  rw [h1] at h2
  rcases List.mem_append.1 h2 with h2 | h2
  ·obtain ⟨u, hu, he⟩ := List.mem_map.1 h2
   have := FT.out.vx u hu
   have h3 : u.xs = v.xs := congrArg Prod.snd he
   rw [← h3]; exact this
  ·simp only [List.mem_cons, List.not_mem_nil, or_false] at h2
   have h3 : v.xs = xs := congrArg Prod.snd h2
   rw [h3]; exact hx)
 have B5 : Hid (viewE.Box u5 A5 l5) := hJ ⟨HO5.out.1.row, fun a ha => ⟨(HO5.out.2 a ha).1, fun r hr => ((HO5.out.2 a ha).2 r hr).1⟩⟩
 refine (validViews_any A5 c5 l5 _ B5.out L5.out.1 L5.out.2).mono ?_
 rintro en w6 ⟨rfl, hx6⟩
 replace B5 := hJ (B5.out.ext hx6)
 have HO6 := hJ (HO5.out.ext hx6)
 replace B_s := hJ (B_s.out.ext hx6)
 replace B_v := hJ (B_v.out.ext hx6)
 replace B_ret := hJ (B_ret.out.ext hx6)
 replace R_b := hJ (R_b.out.ext hx6)
 replace W_x := hJ (W_x.out.ext hx6)
 replace XX := hJ (XX.out.trans hx6)
 clear hx6 HO5; by_cases hvv : validVs (vws l5) = true
 rotate_left
 ·have hvv' : validVs (vws l5) = false := by simpa using hvv
  have HF : Hid (newViewF b.st (n, xs) = (zeroS, 8)) := hJ (by unfold newViewF; rw [if_neg (by rw [HV.out]; simp), if_pos (by rw [← hvv', LN.out]; rfl)])
  rw [hvv']
  clear hvv hvv'; obtain ⟨y0, y1, y2, y3, y4, y5, y6, y7, y8⟩ := nine B_ret.out
  obtain ⟨z0, z1, z2, z3, z4, z5, z6, z7, z8⟩ := B_ret.out.free9
  go_wp2; have BF : Hid (BIs (((((((((w6.setCell ⟨(w.heap.size + 2), 0, none⟩ (.int .i64 0)).setCell ⟨(w.heap.size + 2), 1, none⟩ (.slice none 0 0)).setCell ⟨(w.heap.size + 2), 2, none⟩ (.int .i64 0)).setCell ⟨(w.heap.size + 2), 3, none⟩ (.slice none 0 0)).setCell ⟨(w.heap.size + 2), 4, none⟩ (.int .i64 0)).setCell ⟨(w.heap.size + 2), 5, none⟩ (.int .i64 0)).setCell ⟨(w.heap.size + 2), 6, none⟩ (.slice none 0 0)).setCell ⟨(w.heap.size + 2), 7, none⟩ (.slice none 0 0)).setCell ⟨(w.heap.size + 2), 8, none⟩ (.slice none 0 0)) (w.heap.size + 2) #[.int .i64 0, .slice none 0 0, .int .i64 0, .slice none 0 0, .int .i64 0, .int .i64 0, .slice none 0 0, .slice none 0 0, .slice none 0 0] 28) := hJ (nine_set B_ret.out)
  have XF : Hid (Ext w (((((((((w6.setCell ⟨(w.heap.size + 2), 0, none⟩ (.int .i64 0)).setCell ⟨(w.heap.size + 2), 1, none⟩ (.slice none 0 0)).setCell ⟨(w.heap.size + 2), 2, none⟩ (.int .i64 0)).setCell ⟨(w.heap.size + 2), 3, none⟩ (.slice none 0 0)).setCell ⟨(w.heap.size + 2), 4, none⟩ (.int .i64 0)).setCell ⟨(w.heap.size + 2), 5, none⟩ (.int .i64 0)).setCell ⟨(w.heap.size + 2), 6, none⟩ (.slice none 0 0)).setCell ⟨(w.heap.size + 2), 7, none⟩ (.slice none 0 0)).setCell ⟨(w.heap.size + 2), 8, none⟩ (.slice none 0 0))) := hJ (nine_wrote.ext XX.out LW_ret.out)
  generalize (((((((((w6.setCell ⟨(w.heap.size + 2), 0, none⟩ (.int .i64 0)).setCell ⟨(w.heap.size + 2), 1, none⟩ (.slice none 0 0)).setCell ⟨(w.heap.size + 2), 2, none⟩ (.int .i64 0)).setCell ⟨(w.heap.size + 2), 3, none⟩ (.slice none 0 0)).setCell ⟨(w.heap.size + 2), 4, none⟩ (.int .i64 0)).setCell ⟨(w.heap.size + 2), 5, none⟩ (.int .i64 0)).setCell ⟨(w.heap.size + 2), 6, none⟩ (.slice none 0 0)).setCell ⟨(w.heap.size + 2), 7, none⟩ (.slice none 0 0)).setCell ⟨(w.heap.size + 2), 8, none⟩ (.slice none 0 0)) = W at *
  obtain ⟨e0, e1, e2, e3, e4, e5, e6, e7, e8⟩ := nine BF.out
  refine bodyPost_ret (v := .tuple #[.agg #[.int .i64 0, .slice none 0 0, .int .i64 0, .slice none 0 0, .int .i64 0, .int .i64 0, .slice none 0 0, .slice none 0 0, .slice none 0 0], .int .i64 8]) (by simp [results, Tryz.results24, go_sem, e0, e1, e2, e3, e4, e5, e6, e7, e8]) rfl ?_
  exact gives_zero HF.out XF.out
 rw [hvv]
 have HVV := hJ hvv
 clear hvv; obtain ⟨q0, q1, q2, q3, q4, q5, q6, q7, q8⟩ := nine B_s.out
 go_wp2_with fail
 clear q0 q1 q2 q3 q4 q5 q6 q7 q8; have LR6 : Hid (w.heap.size + 2 < w6.heap.size) := hJ B_ret.out.lt
 refine (clone_any b _ R_b.out FT.out).mono ?_
 rintro en w7 ⟨b', col, rfl, hst7, hft7, hl7, hc7, _, _, hx7⟩
 have NB : Hid (b'.New w6.heap.size) := hJ (hl7.new hc7)
 have RB : Hid (b'.Reads w7) := hJ hl7.reads
 have STB := hJ hst7; have FTB := hJ hft7
 have LW6 : Hid (w.heap.size ≤ w6.heap.size) := hJ XX.out.size
 have LW1 : Hid (w.heap.size ≤ u1.heap.size) := LWU
 replace B5 := hJ (B5.out.ext hx7)
 replace B_s := hJ (B_s.out.ext hx7)
 replace B_v := hJ (B_v.out.ext hx7)
 replace B_ret := hJ (B_ret.out.ext hx7)
 replace R_b := hJ (R_b.out.ext hx7)
 replace W_x := hJ (W_x.out.ext hx7)
 replace XX := hJ (XX.out.trans hx7)
 clear hst7 hft7 hl7 hc7 hx7; obtain ⟨b2, hb2⟩ : ∃ x : BM, x = ⟨b'.self, b'.base, b'.stable, b'.sent, A5, c5, l5, b'.Al, b'.cl, b'.log, b'.Ap, b'.cp, b'.pend, none, 0, [], none, 0, []⟩ := ⟨_, rfl⟩
 have HB2 := hJ hb2
 clear hb2; have FRET : Hid (b2.Far (w.heap.size + 2)) := hJ (by
  rw [HB2.out]
  have lt : w.heap.size + 2 < w6.heap.size := LR6.out
  have lu : w.heap.size + 2 < u1.heap.size := LRU.out
  exact ⟨fun p hx hp e => by have := own_new (vs := viewE.cells l5) HO6.out.1 p hx hp; omega, fun v hv => NewAt.far (VN.out v hv) lu, NB.out.log.far lt, NB.out.pend.far lt, fun _ h => by simp [Elem.cells] at h, fun _ h => by simp [Elem.cells] at h, fun _ h => by simp at h⟩)
 have R_b2 : Hid (BM.Reads w7 b2) := hJ (by rw [HB2.out]; exact ⟨B5.out, RB.out.log, RB.out.pend, Row.nil _ _, Elem.Box.nil _ _⟩)
 have NB2 : Hid (b2.New w.heap.size) := hJ (by
  rw [HB2.out]
  have up : ∀ {A : Option Addr} {xs : List Value}, NewAt w6.heap.size A xs → NewAt w.heap.size A xs := fun h p hx hp => Nat.le_trans LW6.out (h p hx hp)
  exact ⟨fun p hx hp => Nat.le_trans LW1.out (own_new (vs := viewE.cells l5) HO6.out.1 p hx hp), fun v hv p hx hp => Nat.le_trans LW1.out (VN.out v hv p hx hp), up NB.out.log, up NB.out.pend, fun _ h => by simp [Elem.cells] at h, fun _ h => by simp [Elem.cells] at h, fun _ h => by simp at h⟩)
 have FB2 : Hid b2.Fits := hJ (by
  rw [HB2.out]
  have h2 := (validVs_len HVV.out).2
  exact ⟨by unfold vws at h2; simp at h2; simp only; omega, L5.out.2, FTB.out.log, FTB.out.lp, FTB.out.pend, FTB.out.pp, by simp, by simp, fun _ h => by simp at h, FTB.out.cl⟩)
 have ST2 : Hid ((b2.st, (0 : Int)) = newViewF b.st (n, xs)) := hJ (by
  rw [HB2.out]
  unfold newViewF
  rw [if_neg (by rw [HV.out]; simp), if_neg (by rw [show b.st.views ++ [(n, xs)] = vws l5 from LN.out.symm, HVV.out]; simp)]
  have h := STB.out
  unfold BM.st at h ⊢
  simp only [St.mk.injEq] at h
  simp only [Prod.mk.injEq, St.mk.injEq, and_true]
  obtain ⟨e1, _, e3, e4, e5, e6, e7, _, _⟩ := h
  refine ⟨e1, LN.out, e3, e4, e5, e6, e7, ?_⟩
  simp)
 clear R_b; clear W_x; have E1 : Hid (Ext w7 (w7.alloc (.cells #[.int .i64 b'.self, .slice b'.Av b'.vs.length b'.cv, .int .i64 b'.base, .slice b'.Al b'.log.length b'.cl, .int .i64 b'.stable, .int .i64 b'.sent, .slice b'.Ap b'.pend.length b'.cp, .slice b'.Am b'.marks.length b'.cm, .slice b'.Af b'.fls.length b'.cf] 28))) := hJ (Ext.new _ _)
 have L_s_o : Hid (w.heap.size < w7.heap.size) := hJ B_s.out.lt
 have L_v_o : Hid ((w.heap.size + 1) < w7.heap.size) := hJ B_v.out.lt
 have L_ret_o : Hid ((w.heap.size + 2) < w7.heap.size) := hJ B_ret.out.lt
 have F_b2_o : Hid (BM.Far b2 w7.heap.size) := hJ (R_b2.out.far (Nat.le_refl _))
 have LW_o : Hid (w.heap.size ≤ w7.heap.size) := hJ XX.out.size
 replace B_s := hJ (B_s.out.ext E1.out)
 replace B_v := hJ (B_v.out.ext E1.out)
 replace B_ret := hJ (B_ret.out.ext E1.out)
 replace R_b2 := hJ (R_b2.out.ext E1.out)
 replace XX := hJ (XX.out.trans E1.out)
 have B_o : Hid (BIs (w7.alloc (.cells #[.int .i64 b'.self, .slice b'.Av b'.vs.length b'.cv, .int .i64 b'.base, .slice b'.Al b'.log.length b'.cl, .int .i64 b'.stable, .int .i64 b'.sent, .slice b'.Ap b'.pend.length b'.cp, .slice b'.Am b'.marks.length b'.cm, .slice b'.Af b'.fls.length b'.cf] 28)) w7.heap.size #[.int .i64 b'.self, .slice b'.Av b'.vs.length b'.cv, .int .i64 b'.base, .slice b'.Al b'.log.length b'.cl, .int .i64 b'.stable, .int .i64 b'.sent, .slice b'.Ap b'.pend.length b'.cp, .slice b'.Am b'.marks.length b'.cm, .slice b'.Af b'.fls.length b'.cf] 28) := hJ (BIs.new _ _ _)
 clear E1; unfold BM.cells
 go_upto_region 7 with fail
 generalize (w7.alloc (.cells #[.int .i64 b'.self, .slice b'.Av b'.vs.length b'.cv, .int .i64 b'.base, .slice b'.Al b'.log.length b'.cl, .int .i64 b'.stable, .int .i64 b'.sent, .slice b'.Ap b'.pend.length b'.cp, .slice b'.Am b'.marks.length b'.cm, .slice b'.Af b'.fls.length b'.cf] 28)) = u8 at *
 generalize w7.heap.size = r_o at *
 obtain ⟨y0, y1, y2, y3, y4, y5, y6, y7, y8⟩ := nine B_o.out
 obtain ⟨z0, z1, z2, z3, z4, z5, z6, z7, z8⟩ := B_o.out.free9
 go_upto_region 8 with fail
 have W9 : Hid (Wrote r_o u8 (((u8.setCell ⟨r_o, 1, none⟩ (.slice A5 l5.length c5)).setCell ⟨r_o, 7, none⟩ (.slice none 0 0)).setCell ⟨r_o, 8, none⟩ (.slice none 0 0))) := hJ (((Wrote.set r_o 1 u8 _).trans (Wrote.set r_o 7 _ _)).trans (Wrote.set r_o 8 _ _))
 have BN : Hid (BIs (((u8.setCell ⟨r_o, 1, none⟩ (.slice A5 l5.length c5)).setCell ⟨r_o, 7, none⟩ (.slice none 0 0)).setCell ⟨r_o, 8, none⟩ (.slice none 0 0)) r_o #[.int .i64 b'.self, .slice A5 l5.length c5, .int .i64 b'.base, .slice b'.Al b'.log.length b'.cl, .int .i64 b'.stable, .int .i64 b'.sent, .slice b'.Ap b'.pend.length b'.cp, .slice none 0 0, .slice none 0 0] 28) := hJ (((B_o.out.set 1 _).set 7 _).set 8 _)
 clear y0 y1 y2 y3 y4 y5 y6 y7 y8 z0 z1 z2 z3 z4 z5 z6 z7 z8; replace B_s := hJ (B_s.out.wrote (Nat.ne_of_lt L_s_o.out) W9.out)
 replace B_v := hJ (B_v.out.wrote (Nat.ne_of_lt L_v_o.out) W9.out)
 replace B_ret := hJ (B_ret.out.wrote (Nat.ne_of_lt L_ret_o.out) W9.out)
 replace R_b2 := hJ (R_b2.out.wrote F_b2_o.out W9.out)
 replace XX := hJ (W9.out.ext XX.out LW_o.out)
 replace B_o := BN
 clear BN W9; generalize (((u8.setCell ⟨r_o, 1, none⟩ (.slice A5 l5.length c5)).setCell ⟨r_o, 7, none⟩ (.slice none 0 0)).setCell ⟨r_o, 8, none⟩ (.slice none 0 0)) = u9 at *
 obtain ⟨q0, q1, q2, q3, q4, q5, q6, q7, q8⟩ := nine B_o.out
 obtain ⟨y0, y1, y2, y3, y4, y5, y6, y7, y8⟩ := nine B_ret.out
 obtain ⟨z0, z1, z2, z3, z4, z5, z6, z7, z8⟩ := B_ret.out.free9
 go_wp2; have W9 : Hid (Wrote (w.heap.size + 2) u9 (((((((((u9.setCell ⟨(w.heap.size + 2), 0, none⟩ (.int .i64 b'.self)).setCell ⟨(w.heap.size + 2), 1, none⟩ (.slice A5 l5.length c5)).setCell ⟨(w.heap.size + 2), 2, none⟩ (.int .i64 b'.base)).setCell ⟨(w.heap.size + 2), 3, none⟩ (.slice b'.Al b'.log.length b'.cl)).setCell ⟨(w.heap.size + 2), 4, none⟩ (.int .i64 b'.stable)).setCell ⟨(w.heap.size + 2), 5, none⟩ (.int .i64 b'.sent)).setCell ⟨(w.heap.size + 2), 6, none⟩ (.slice b'.Ap b'.pend.length b'.cp)).setCell ⟨(w.heap.size + 2), 7, none⟩ (.slice none 0 0)).setCell ⟨(w.heap.size + 2), 8, none⟩ (.slice none 0 0))) := hJ nine_wrote
 have BF : Hid (BIs (((((((((u9.setCell ⟨(w.heap.size + 2), 0, none⟩ (.int .i64 b'.self)).setCell ⟨(w.heap.size + 2), 1, none⟩ (.slice A5 l5.length c5)).setCell ⟨(w.heap.size + 2), 2, none⟩ (.int .i64 b'.base)).setCell ⟨(w.heap.size + 2), 3, none⟩ (.slice b'.Al b'.log.length b'.cl)).setCell ⟨(w.heap.size + 2), 4, none⟩ (.int .i64 b'.stable)).setCell ⟨(w.heap.size + 2), 5, none⟩ (.int .i64 b'.sent)).setCell ⟨(w.heap.size + 2), 6, none⟩ (.slice b'.Ap b'.pend.length b'.cp)).setCell ⟨(w.heap.size + 2), 7, none⟩ (.slice none 0 0)).setCell ⟨(w.heap.size + 2), 8, none⟩ (.slice none 0 0)) (w.heap.size + 2) #[.int .i64 b'.self, .slice A5 l5.length c5, .int .i64 b'.base, .slice b'.Al b'.log.length b'.cl, .int .i64 b'.stable, .int .i64 b'.sent, .slice b'.Ap b'.pend.length b'.cp, .slice none 0 0, .slice none 0 0] 28) := hJ (nine_set B_ret.out)
 have F_b2_ret : Hid (b2.Far (w.heap.size + 2)) := FRET
 have RF : Hid (b2.Reads (((((((((u9.setCell ⟨(w.heap.size + 2), 0, none⟩ (.int .i64 b'.self)).setCell ⟨(w.heap.size + 2), 1, none⟩ (.slice A5 l5.length c5)).setCell ⟨(w.heap.size + 2), 2, none⟩ (.int .i64 b'.base)).setCell ⟨(w.heap.size + 2), 3, none⟩ (.slice b'.Al b'.log.length b'.cl)).setCell ⟨(w.heap.size + 2), 4, none⟩ (.int .i64 b'.stable)).setCell ⟨(w.heap.size + 2), 5, none⟩ (.int .i64 b'.sent)).setCell ⟨(w.heap.size + 2), 6, none⟩ (.slice b'.Ap b'.pend.length b'.cp)).setCell ⟨(w.heap.size + 2), 7, none⟩ (.slice none 0 0)).setCell ⟨(w.heap.size + 2), 8, none⟩ (.slice none 0 0))) := hJ (R_b2.out.wrote F_b2_ret.out W9.out)
 have XF : Hid (Ext w (((((((((u9.setCell ⟨(w.heap.size + 2), 0, none⟩ (.int .i64 b'.self)).setCell ⟨(w.heap.size + 2), 1, none⟩ (.slice A5 l5.length c5)).setCell ⟨(w.heap.size + 2), 2, none⟩ (.int .i64 b'.base)).setCell ⟨(w.heap.size + 2), 3, none⟩ (.slice b'.Al b'.log.length b'.cl)).setCell ⟨(w.heap.size + 2), 4, none⟩ (.int .i64 b'.stable)).setCell ⟨(w.heap.size + 2), 5, none⟩ (.int .i64 b'.sent)).setCell ⟨(w.heap.size + 2), 6, none⟩ (.slice b'.Ap b'.pend.length b'.cp)).setCell ⟨(w.heap.size + 2), 7, none⟩ (.slice none 0 0)).setCell ⟨(w.heap.size + 2), 8, none⟩ (.slice none 0 0))) := hJ (W9.out.ext XX.out LW_ret.out)
 generalize (((((((((u9.setCell ⟨(w.heap.size + 2), 0, none⟩ (.int .i64 b'.self)).setCell ⟨(w.heap.size + 2), 1, none⟩ (.slice A5 l5.length c5)).setCell ⟨(w.heap.size + 2), 2, none⟩ (.int .i64 b'.base)).setCell ⟨(w.heap.size + 2), 3, none⟩ (.slice b'.Al b'.log.length b'.cl)).setCell ⟨(w.heap.size + 2), 4, none⟩ (.int .i64 b'.stable)).setCell ⟨(w.heap.size + 2), 5, none⟩ (.int .i64 b'.sent)).setCell ⟨(w.heap.size + 2), 6, none⟩ (.slice b'.Ap b'.pend.length b'.cp)).setCell ⟨(w.heap.size + 2), 7, none⟩ (.slice none 0 0)).setCell ⟨(w.heap.size + 2), 8, none⟩ (.slice none 0 0)) = W at *
 obtain ⟨e0, e1, e2, e3, e4, e5, e6, e7, e8⟩ := nine BF.out
 refine bodyPost_ret (v := .tuple #[.agg #[.int .i64 b'.self, .slice A5 l5.length c5, .int .i64 b'.base, .slice b'.Al b'.log.length b'.cl, .int .i64 b'.stable, .int .i64 b'.sent, .slice b'.Ap b'.pend.length b'.cp, .slice none 0 0, .slice none 0 0], .int .i64 0]) (by simp [results, Tryz.results24, go_sem, e0, e1, e2, e3, e4, e5, e6, e7, e8]) rfl ?_
 rw [← ST2.out]
 exact ⟨b2, by rw [HB2.out]; rfl, rfl, RF.out, FB2.out, XF.out, NB2.out⟩
end Go.Proofs.YtponbabbabnaeaaGreat
namespace Go.Proofs.YtponbabbabnaeaaGreat
open Go.RowKit
def Tells (Q X : Prop) (en : Ending) : Prop := ∃ r, en = .returned (.bool r) ∧ (r = true → Q) ∧ X
set_option maxRecDepth 100000 in
theorem entries12_any (A : Option Addr) (c : Nat) (l : List Ent) (w : World) (h : Row w A (entE.cells l)) (hn : l.length ≤ 9223372036854775807) :
  Calls Tryz.prog 38 #[.slice A l.length c] w fun e w' => Tells (l.length ≤ 60 ∧ ∀ e ∈ l, e.p.length ≤ 7000) (w = w') e := by
 have H := hJ h; clear h
 go_enter Tryz.func38, Tryz.ntmps38
 go_wp2; go_loop [3] (fun i => ∃ k : Nat, k ≤ l.length ∧ i = .int .i64 k ∧ Hid (∀ (j : Nat) (e : Ent), j < k → l[j]? = some e → e.p.length ≤ 7000)) (fun i => l.length - (intOf i).toNat)
 case atStart => exact ⟨0, Nat.zero_le _, rfl, hJ (fun j e hj => absurd hj (Nat.not_lt_zero _))⟩
 case round =>
  obtain ⟨k, hk, rfl, HK⟩ := hrel
  by_cases hlt : k < l.length
  ·obtain ⟨b, off, e, rfl, hb, c0, c1, c2, c3, HE⟩ := ents_at H.out hlt
   have hsz := strB_size e.p
   by_cases hp : 7000 < e.p.length
   ·go_wp2
    go_ret
    exact ⟨_, rfl, (fun h => by cases h), rfl⟩
   ·have HK' : Hid (∀ (j : Nat) (x : Ent), j < k + 1 → l[j]? = some x → x.p.length ≤ 7000) := hJ (fun j x hj hx => by
     rcases Nat.lt_or_ge j k with h1 | h1
     ·exact HK.out j x h1 hx
     ·have : j = k := by omega
      subst this
      rw [HE.out] at hx; cases hx; omega)
    have hp' : e.p.length ≤ 7000 := by omega
    clear hp; go_wp2; go_round
    case rel => exact ⟨k + 1, by omega, by go_num, HK'⟩
    case measure => simp [intOf]; omega
  ·go_wp2
   go_ret
   exact ⟨_, rfl, fun h => ⟨by have := of_decide_eq_true h; omega, fun e he => by
    obtain ⟨j, hj, rfl⟩ := List.mem_iff_getElem.1 he
    exact HK.out j _ (by omega) (List.getElem?_eq_getElem hj)⟩, rfl⟩
structure SmallB (b : BM) : Prop where
 vs : b.vs.length ≤ 20
 log : b.log.length ≤ 60
 pend : b.pend.length ≤ 40
 marks : b.marks.length ≤ 40
 fls : b.fls.length ≤ 20
 vx : ∀ v ∈ b.vs, v.xs.length ≤ 40
 fl : ∀ f ∈ b.fls, f.log.length ≤ 60 ∧ ∀ e ∈ f.log, e.p.length ≤ 7000
 pp : ∀ p ∈ b.pend, p.length ≤ 7000
 lp : ∀ e ∈ b.log, e.p.length ≤ 7000
theorem SmallB.fits {b : BM} (h : SmallB b) (hc : b.log.length ≤ b.cl ∧ b.cl ≤ maxLen) : b.Fits :=
 ⟨Nat.le_trans h.vs (by decide), fun v hv => Nat.le_trans (h.vx v hv) (by decide), Nat.le_trans h.log (by decide), fun e he => Nat.le_trans (h.lp e he) (by decide), Nat.le_trans h.pend (by decide), fun p hp => Nat.le_trans (h.pp p hp) (by decide), Nat.le_trans h.marks (by decide), Nat.le_trans h.fls (by decide), fun f hf => ⟨Nat.le_trans (h.fl f hf).1 (by decide), fun e he => Nat.le_trans ((h.fl f hf).2 e he) (by decide)⟩, hc⟩
structure BM.Slices (b : BM) : Prop where
 vs : b.vs.length ≤ b.cv ∧ b.cv ≤ maxLen
 log : b.log.length ≤ b.cl ∧ b.cl ≤ maxLen
 pend : b.pend.length ≤ b.cp ∧ b.cp ≤ maxLen
 marks : b.marks.length ≤ b.cm ∧ b.cm ≤ maxLen
 fls : b.fls.length ≤ b.cf ∧ b.cf ≤ maxLen
set_option maxRecDepth 100000 in
set_option maxHeartbeats 2000000 in
theorem small12_any (b : BM) (w : World) (h : b.Reads w) (hs : b.Slices) :
  Calls Tryz.prog 11 #[.agg b.cells] w fun e w' => Tells (SmallB b) (Ext w w') e := by
 obtain ⟨self, base, stable, sent, Av, cv, vs, Al, cl, log, Ap, cp, pend, Am, cm, marks, Af, cf, fls⟩ := b
 have E0 : Hid (Ext w (w.alloc (.cells #[.int .i64 self, .slice Av vs.length cv, .int .i64 base, .slice Al log.length cl, .int .i64 stable, .int .i64 sent, .slice Ap pend.length cp, .slice Am marks.length cm, .slice Af fls.length cf] 28))) := hJ (Ext.new _ _)
 have B0 : Hid (BIs (w.alloc (.cells #[.int .i64 self, .slice Av vs.length cv, .int .i64 base, .slice Al log.length cl, .int .i64 stable, .int .i64 sent, .slice Ap pend.length cp, .slice Am marks.length cm, .slice Af fls.length cf] 28)) w.heap.size #[.int .i64 self, .slice Av vs.length cv, .int .i64 base, .slice Al log.length cl, .int .i64 stable, .int .i64 sent, .slice Ap pend.length cp, .slice Am marks.length cm, .slice Af fls.length cf] 28) := hJ (BIs.new _ _ _)
 have R0 := hJ (h.ext E0.out)
 have hml : maxLen ≤ 9223372036854775807 := by unfold maxLen; decide
 obtain ⟨hs1, hs2⟩ := hs.vs; obtain ⟨hs3, hs4⟩ := hs.log; obtain ⟨hs5, hs6⟩ := hs.pend; obtain ⟨hs7, hs8⟩ := hs.marks; obtain ⟨hs9, hs10⟩ := hs.fls
 obtain ⟨q0, q1, q2, q3, q4, q5, q6, q7, q8⟩ := nine B0.out
 simp only at hs1 hs2 hs3 hs4 hs5 hs6 hs7 hs8 hs9 hs10
 obtain ⟨RV, RL, RP, RM, RF⟩ := R0.out
 replace RV := hJ RV; replace RL := hJ RL; replace RP := hJ RP; replace RM := hJ RM; replace RF := hJ RF
 simp only at RV RL RP RM RF
 clear h hs R0; unfold BM.cells
 have NO : ∀ (w' : World), Ext w w' → Tells (SmallB (⟨self, base, stable, sent, Av, cv, vs, Al, cl, log, Ap, cp, pend, Am, cm, marks, Af, cf, fls⟩ : BM)) (Ext w w') (.returned (.bool false)) := fun w' x => ⟨false, rfl, fun h => (by cases h), x⟩
 by_cases h1 : 20 < vs.length
 ·go_enter Tryz.func11, Tryz.ntmps11
  go_wp2; go_ret
  exact NO _ E0.out
 by_cases h2 : 60 < log.length
 ·have d1 : vs.length ≤ 20 := by omega
  clear h1; go_enter Tryz.func11, Tryz.ntmps11
  go_wp2; go_ret
  exact NO _ E0.out
 by_cases h3 : 40 < pend.length
 ·have d1 : vs.length ≤ 20 := by omega
  have d2 : log.length ≤ 60 := by omega
  clear h1 h2; go_enter Tryz.func11, Tryz.ntmps11
  go_wp2; go_ret
  exact NO _ E0.out
 by_cases h4 : 40 < marks.length
 ·have d1 : vs.length ≤ 20 := by omega
  have d2 : log.length ≤ 60 := by omega
  have d3 : pend.length ≤ 40 := by omega
  clear h1 h2 h3; go_enter Tryz.func11, Tryz.ntmps11
  go_wp2; go_ret
  exact NO _ E0.out
 have d1 : vs.length ≤ 20 := by omega
 have d2 : log.length ≤ 60 := by omega
 have d3 : pend.length ≤ 40 := by omega
 have d4 : marks.length ≤ 40 := by omega
 clear h1 h2 h3 h4; by_cases h5 : 20 < fls.length
 ·go_enter Tryz.func11, Tryz.ntmps11
  go_wp2; go_ret
  exact NO _ E0.out
 have d5 : fls.length ≤ 20 := by omega
 clear h5; go_enter Tryz.func11, Tryz.ntmps11
 go_upto_region 3 with fail
 generalize (w.alloc (.cells #[.int .i64 self, .slice Av vs.length cv, .int .i64 base, .slice Al log.length cl, .int .i64 stable, .int .i64 sent, .slice Ap pend.length cp, .slice Am marks.length cm, .slice Af fls.length cf] 28)) = u0 at *
 have hru : w.heap.size < u0.heap.size := B0.out.lt
 go_wp2; go_loop [3] (fun i => ∃ k : Nat, k ≤ vs.length ∧ i = .int .i64 k ∧ Hid (∀ (j : Nat) (v : VwM), j < k → vs[j]? = some v → v.xs.length ≤ 40)) (fun i => vs.length - (intOf i).toNat)
 case atStart => exact ⟨0, Nat.zero_le _, rfl, hJ (fun j e hj => absurd hj (Nat.not_lt_zero _))⟩
 case round =>
  obtain ⟨k, hk, rfl, HK⟩ := hrel
  by_cases hlt : k < vs.length
  ·obtain ⟨bb, off, n, X, cx, xs, hA, hb, c0, c1, HR, g1, g2, HE⟩ := views_at RV.out hlt
   subst hA
   by_cases hp : 40 < xs.length
   ·go_wp2
    go_ret
    exact NO _ E0.out
   ·have HK' : Hid (∀ (j : Nat) (v : VwM), j < k + 1 → vs[j]? = some v → v.xs.length ≤ 40) := hJ (fun j x hj hx => by
     rcases Nat.lt_or_ge j k with h1 | h1
     ·exact HK.out j x h1 hx
     ·have : j = k := by omega
      subst this
      rw [HE.out] at hx; cases hx; simp only; omega)
    have hp' : xs.length ≤ 40 := by omega
    clear hp; go_wp2; go_round
    case rel => exact ⟨k + 1, by omega, by go_num, HK'⟩
    case measure => simp [intOf]; omega
  ·have HV : Hid (∀ v ∈ vs, v.xs.length ≤ 40) := hJ (fun e he => by
    obtain ⟨j, hj, rfl⟩ := List.mem_iff_getElem.1 he
    exact HK.out j _ (by omega) (List.getElem?_eq_getElem hj))
   clear HK; go_wp2; go_loopw [4] (fun i wr => ∃ k : Nat, k ≤ fls.length ∧ i = .int .i64 k ∧ Hid (∀ (j : Nat) (f : FlM), j < k → fls[j]? = some f → f.log.length ≤ 60 ∧ ∀ e ∈ f.log, e.p.length ≤ 7000) ∧ u0 = wr) (fun i _ => fls.length - (intOf i).toNat)
   case atStart => exact ⟨0, Nat.zero_le _, rfl, hJ (fun j e hj => absurd hj (Nat.not_lt_zero _)), rfl⟩
   case round =>
    obtain ⟨k2, hk2, rfl, HF, rfl⟩ := hrel
    by_cases hlt2 : k2 < fls.length
    ·obtain ⟨bb, off, f, hA, hb, c0, c1, c2, HR, HE⟩ := fls_at RF.out hlt2
     subst hA
     have hfl := (RF.out.2 f (List.mem_of_getElem? HE.out)).1
     go_wp2_with fail
     refine (entries12_any f.A f.c f.log u0 HR.out (by have h1 := hfl.1; have h2 := hfl.2; omega)).mono ?_
     rintro e w' ⟨r, rfl, hr, rfl⟩
     cases r with
     | false =>
      go_wp2; go_ret
      exact NO _ E0.out
     | true =>
      have HF' : Hid (∀ (j : Nat) (f : FlM), j < k2 + 1 → fls[j]? = some f → f.log.length ≤ 60 ∧ ∀ e ∈ f.log, e.p.length ≤ 7000) := hJ (fun j x hj hx => by
       rcases Nat.lt_or_ge j k2 with h1 | h1
       ·exact HF.out j x h1 hx
       ·have : j = k2 := by omega
        subst this
        rw [HE.out] at hx; cases hx; exact hr rfl)
      clear hr; go_wp2; go_roundw
      case rel => exact ⟨k2 + 1, by omega, by go_num, HF', by first | trivial | rfl⟩
      case measure => simp [intOf]; omega
    ·have HFA : Hid (∀ f ∈ fls, f.log.length ≤ 60 ∧ ∀ e ∈ f.log, e.p.length ≤ 7000) := hJ (fun e he => by
      obtain ⟨j, hj, rfl⟩ := List.mem_iff_getElem.1 he
      exact HF.out j _ (by omega) (List.getElem?_eq_getElem hj))
     clear HF; go_wp2; go_loopw [5] (fun i wr => ∃ k : Nat, k ≤ pend.length ∧ i = .int .i64 k ∧ Hid (∀ (j : Nat) (p : List UInt8), j < k → pend[j]? = some p → p.length ≤ 7000) ∧ u0 = wr) (fun i _ => pend.length - (intOf i).toNat)
     case atStart => exact ⟨0, Nat.zero_le _, rfl, hJ (fun j e hj => absurd hj (Nat.not_lt_zero _)), rfl⟩
     case round =>
      obtain ⟨k3, hk3, rfl, HP, rfl⟩ := hrel
      by_cases hlt3 : k3 < pend.length
      ·obtain ⟨bb, off, pl, hA, hb, c0, HE⟩ := strs_at RP.out hlt3
       subst hA
       have hsz := strB_size pl
       by_cases hp : 7000 < pl.length
       ·go_wp2
        go_ret
        exact NO _ E0.out
       ·have HP' : Hid (∀ (j : Nat) (p : List UInt8), j < k3 + 1 → pend[j]? = some p → p.length ≤ 7000) := hJ (fun j x hj hx => by
         rcases Nat.lt_or_ge j k3 with h1 | h1
         ·exact HP.out j x h1 hx
         ·have : j = k3 := by omega
          subst this
          rw [HE.out] at hx; cases hx; omega)
        have hp' : pl.length ≤ 7000 := by omega
        clear hp; go_wp2; go_roundw
        case rel => exact ⟨k3 + 1, by omega, by go_num, HP', by first | trivial | rfl⟩
        case measure => simp [intOf]; omega
      ·have HPA : Hid (∀ p ∈ pend, p.length ≤ 7000) := hJ (fun e he => by
        obtain ⟨j, hj, rfl⟩ := List.mem_iff_getElem.1 he
        exact HP.out j _ (by omega) (List.getElem?_eq_getElem hj))
       clear HP; go_wp2_with fail
       refine (entries12_any Al cl log u0 RL.out (by omega)).mono ?_
       rintro e w' ⟨r, rfl, hr, rfl⟩
       go_wp2; go_ret
       exact ⟨r, rfl, fun h => ⟨d1, (hr h).1, d3, d4, d5, HV.out, HFA.out, HPA.out, (hr h).2⟩, E0.out⟩
end Go.Proofs.YtponbabbabnaeaaGreat
