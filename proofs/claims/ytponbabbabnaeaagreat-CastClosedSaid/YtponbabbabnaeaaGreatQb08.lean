/- Part 8 of the proof: contracts of functions that the statement reaches. Conditions: as each theorem says. -/
import Derived.Test.YtponbabbabnaeaaGreatQb01
import Derived.Test.YtponbabbabnaeaaGreatQb07
namespace Go.Proofs.YtponbabbabnaeaaGreat
open Go.RowKit
def beginsB (l p : List Ent) : Bool := decide (p.length ≤ l.length) && sameL (l.take p.length) p
theorem Row.take_ents {w : World} {A : Option Addr} {l : List Ent} (h : Row w A (entE.cells l)) (n : Nat) : Row w A (entE.cells (l.take n)) := by
 intro hne
 have hl : entE.cells l = entE.cells (l.take n) ++ entE.cells (l.drop n) := by rw [← entE.cells_append, List.take_append_drop]
 obtain ⟨b, off, h1, h2, h3⟩ := h (by rw [hl]; simp [hne])
 refine ⟨b, off, h1, h2, fun j u hj => h3 j u ?_⟩
 rw [hl, List.getElem?_append_left (List.getElem?_eq_some_iff.1 hj).1]; exact hj
theorem equalE_n (A A' : Option Addr) (n c c' : Nat) (xs ys : List Ent) (w : World) (hl : n = xs.length) (h : Row w A (entE.cells xs)) (h' : Row w A' (entE.cells ys)) (hn : xs.length ≤ 1000000000) :
  Calls Tryz.prog 179 #[.slice A n c, .slice A' ys.length c'] w fun e w' => e = .returned (.bool (sameL xs ys)) ∧ Still w w' := by
 subst hl; exact equalE_any A A' c c' xs ys w h h' hn
set_option maxRecDepth 100000 in
theorem begins_any (A A' : Option Addr) (c c' : Nat) (l p : List Ent) (w : World) (h : Row w A (entE.cells l)) (h' : Row w A' (entE.cells p)) (hn : l.length ≤ 1000000000) (hc : l.length ≤ c) :
  Calls Tryz.prog 130 #[.slice A l.length c, .slice A' p.length c'] w fun e w' => e = .returned (.bool (beginsB l p)) ∧ Ext w w' := by
 have H := hJ (h.take_ents p.length); have H' := hJ h'; clear h h'
 by_cases hle : p.length ≤ l.length
 ·have HL := hJ hle
  have hle1 : decide ((p.length : Int) ≤ (l.length : Int)) = true := decide_eq_true (by omega)
  have k1 : (0 : Int) ≤ (p.length : Int) := by omega
  have k2 : (p.length : Int) ≤ (c : Int) := by omega
  have k3 : p.length ≤ c := by omega
  have hlt : (l.take p.length).length = p.length := by rw [List.length_take]; omega
  have HT := hJ hlt
  clear hle hlt; go_enter Tryz.func130, Tryz.ntmps130
  go_wp2_with fail
  refine (equalE_n A A' p.length c c' (l.take p.length) p _ HT.out.symm H.out H'.out (by rw [HT.out]; omega)).mono ?_
  rintro e w1 ⟨rfl, hs1⟩
  have X1 := hJ hs1.ext
  clear hs1; go_wp2; go_ret
  exact ⟨ret_bool (by rw [beginsB, decide_eq_true HL.out]; rfl), X1.out⟩
 ·have HL := hJ hle
  have hle1 : decide ((p.length : Int) ≤ (l.length : Int)) = false := decide_eq_false (by omega)
  clear hle; go_enter Tryz.func130, Tryz.ntmps130
  go_wp2; go_ret
  exact ⟨ret_bool (by rw [beginsB, decide_eq_false HL.out]; rfl), Ext.refl _⟩
end Go.Proofs.YtponbabbabnaeaaGreat
namespace Go.Proofs.YtponbabbabnaeaaGreat
open Go.RowKit
abbrev BM.cells3 (b : BM) (st : Int) (Ap : Option Addr) : Array Value := #[.int .i64 b.self, .slice b.Av b.vs.length b.cv, .int .i64 b.base, .slice b.Al b.log.length b.cl, .int .i64 st, .int .i64 b.sent, .slice Ap b.pend.length b.cp, .slice b.Am b.marks.length b.cm, .slice b.Af b.fls.length b.cf]
theorem cells9y {w w' : World} {b : BM} {st : Int} {Ap : Option Addr} (h : Ext (w.alloc (.cells (b.cells3 st Ap) 28)) w') :
  w'.cell? ⟨w.heap.size, 0, none⟩ = some (.int .i64 b.self) ∧ w'.cell? ⟨w.heap.size, 1, none⟩ = some (.slice b.Av b.vs.length b.cv) ∧ w'.cell? ⟨w.heap.size, 2, none⟩ = some (.int .i64 b.base) ∧ w'.cell? ⟨w.heap.size, 3, none⟩ = some (.slice b.Al b.log.length b.cl) ∧ w'.cell? ⟨w.heap.size, 4, none⟩ = some (.int .i64 st) ∧ w'.cell? ⟨w.heap.size, 5, none⟩ = some (.int .i64 b.sent) ∧ w'.cell? ⟨w.heap.size, 6, none⟩ = some (.slice Ap b.pend.length b.cp) ∧ w'.cell? ⟨w.heap.size, 7, none⟩ = some (.slice b.Am b.marks.length b.cm) ∧ w'.cell? ⟨w.heap.size, 8, none⟩ = some (.slice b.Af b.fls.length b.cf) ∧ w.heap.size < w'.heap.size := by
 refine ⟨?_, ?_, ?_, ?_, ?_, ?_, ?_, ?_, ?_, ?_⟩
 ·simpa using h.cell_new 0
 ·simpa using h.cell_new 1
 ·simpa using h.cell_new 2
 ·simpa using h.cell_new 3
 ·simpa using h.cell_new 4
 ·simpa using h.cell_new 5
 ·simpa using h.cell_new 6
 ·simpa using h.cell_new 7
 ·simpa using h.cell_new 8
 ·have := h.size; simp at this; omega
theorem own_b (A : Option Addr) (c : Nat) (l : List Ent) (o : Int) (w : World) (h : Row w A (entE.cells l)) (hn : l.length ≤ 1000000000) (n : Nat) (hr : ownN l o = n) :
  Calls Tryz.prog 91 #[.slice A l.length c, .int .i64 o] w fun e w' => e = .returned (.int .i64 n) ∧ Ext w w' := by
 subst hr; exact own_any A c l o w h hn
theorem own_c (A : Option Addr) (k c : Nat) (l : List Ent) (o : Int) (w : World) (hk : k = l.length) (h : Row w A (entE.cells l)) (hn : l.length ≤ 1000000000) (n : Nat) (hr : ownN l o = n) :
  Calls Tryz.prog 91 #[.slice A k c, .int .i64 o] w fun e w' => e = .returned (.int .i64 n) ∧ Ext w w' := by
 subst hk; exact own_b A c l o w h hn n hr
def knB (s : St) : Bool := decide (s.base = -1) || (match knownV s.views s.base with | none => false | some v => hasB v.2 s.self)
theorem validS_eq (s : St) : validS s = (isId s.self && (validVs s.views && (decide (0 ≤ s.sent) && (decide (s.sent ≤ 1099511627776) && (basedB s.log s.base && (knB s && (decide ((ownN s.log s.self : Int) ≤ s.sent) && (decide (0 ≤ s.stable) && (decide (s.stable ≤ s.log.length) && (decide (s.pend.length ≤ 32) && (decide ((s.pend.length : Int) = s.sent - ownN (s.log.take s.stable.toNat) s.self) && ((s.pend.all fun p => decide (p.length ≤ 6000)) && listsB s)))))))))))) := by
 unfold validS knB; rfl
theorem kn_yes {s : St} (h : s.base = -1) : knB s = true := by unfold knB; rw [decide_eq_true h]; rfl
theorem kn_none {s : St} (hb : s.base ≠ -1) (h : knownV s.views s.base = none) : knB s = false := by unfold knB; rw [decide_eq_false hb, h]; rfl
theorem kn_some {s : St} {v : Vw} (hb : s.base ≠ -1) (h : knownV s.views s.base = some v) : knB s = hasB v.2 s.self := by unfold knB; rw [decide_eq_false hb, h]; rfl
theorem vs_pos {l : List Vw} (h : validVs l = true) : 0 < l.length := by
 unfold validVs at h; simp only [Bool.and_eq_true, decide_eq_true_eq] at h; omega
theorem strs_at {w : World} {A : Option Addr} {l : List (List UInt8)} {i : Nat} (h : Row w A (strE.cells l)) (hi : i < l.length) :
  ∃ b off p, A = some ⟨b, off, none⟩ ∧ b < w.heap.size ∧ w.cell? ⟨b, off + i, none⟩ = some (.string (strB p)) ∧ Hid (l[i]? = some p) := by
 obtain ⟨b, off, p, h1, h2, h3, _, h5⟩ := Elem.Box.at_ (E := strE) (w := w) (A := A) (l := l) ⟨h, fun a _ => ⟨trivial, fun r hr => by simp [strE] at hr⟩⟩ hi
 have h3' : ∀ j u, (strE.f p)[j]? = some u → w.cell? ⟨b, off + i * 1 + j, none⟩ = some u := h3.out
 exact ⟨b, off, p, h1, h2, by simpa using h3' 0 _ rfl, h5⟩
theorem pend_no {l : List (List UInt8)} {k : Nat} {p : List UInt8} (h : l[k]? = some p) (hp : ¬ p.length ≤ 6000) : (l.all fun p => decide (p.length ≤ 6000)) = false := by
 rw [List.all_eq_false]; exact ⟨p, List.mem_of_getElem? h, by simpa using hp⟩
theorem pend_step {l : List (List UInt8)} {k : Nat} {p : List UInt8} (h : l[k]? = some p) (hp : p.length ≤ 6000) (h1 : ((l.take k).all fun p => decide (p.length ≤ 6000)) = true) : ((l.take (k + 1)).all fun p => decide (p.length ≤ 6000)) = true := by
 rw [take_snoc h, List.all_append, h1]; simp [hp]
theorem validLists_b (b : BM) (st : Int) (Ap : Option Addr) (w : World) (h1 : b.stable = st) (h2 : b.Ap = Ap) (h : b.Reads w) (hp : 0 < b.vs.length) (hf : b.Fits) :
  Calls Tryz.prog 92 #[.agg #[.int .i64 b.self, .slice b.Av b.vs.length b.cv, .int .i64 b.base, .slice b.Al b.log.length b.cl, .int .i64 st, .int .i64 b.sent, .slice Ap b.pend.length b.cp, .slice b.Am b.marks.length b.cm, .slice b.Af b.fls.length b.cf]] w fun e w' => e = .returned (.bool (listsB b.st)) ∧ Ext w w' := by
 subst h1 h2; exact validLists_any b w h hp hf
set_option maxRecDepth 100000 in
set_option maxHeartbeats 8000000 in
theorem valid12_raw (b : BM) (st : Int) (Ap : Option Addr) (w : World) (hst : b.stable = st) (hAp : b.Ap = Ap) (h : b.Reads w) (hf : b.Fits) :
  Calls Tryz.prog 23 #[.agg #[.int .i64 b.self, .slice b.Av b.vs.length b.cv, .int .i64 b.base, .slice b.Al b.log.length b.cl, .int .i64 st, .int .i64 b.sent, .slice Ap b.pend.length b.cp, .slice b.Am b.marks.length b.cm, .slice b.Af b.fls.length b.cf]] w fun e w' => e = .returned (.bool (validS b.st)) ∧ Ext w w' := by
 have H0 := hJ (Ext.new w (.cells (b.cells3 st Ap) 28))
 have HR := hJ (h.ext H0.out)
 have hn : b.vs.length ≤ 1000000000 := by have := hf.vs; omega
 have hll : b.log.length ≤ 1000000000 := by have := hf.log; omega
 have hpl : b.pend.length ≤ 1000000000 := by have := hf.pend; omega
 have hlc : b.log.length ≤ b.cl := hf.cl.1
 have HFT := hJ hf; have HST := hJ hst; have HAP := hJ hAp
 have HE := hJ (validS_eq b.st)
 clear h hf hst hAp; unfold BM.cells3 at H0 HR
 go_enter Tryz.func23, Tryz.ntmps23
 go_wp2_with fail
 refine (identifier_any b.self _).mono ?_
 cases h1 : isId b.self
 ·have H1 := hJ (show isId b.st.self = false from h1); clear h1
  rintro e w1 ⟨rfl, rfl⟩
  go_wp2; go_ret
  exact ⟨ret_bool (by rw [HE.out, H1.out]; rfl), H0.out⟩
 have H1 := hJ (show isId b.st.self = true from h1); clear h1
 rintro e w1 ⟨rfl, rfl⟩
 go_wp2_with fail
 refine (validViews_any b.Av b.cv b.vs _ HR.out.vs hn HFT.out.vx).mono ?_
 cases h2 : validVs (vws b.vs)
 ·have H2 := hJ (show validVs b.st.views = false from h2); clear h2
  rintro e w1 ⟨rfl, hx1⟩
  have X1 := hJ hx1; clear hx1
  go_wp2; go_ret
  exact ⟨ret_bool (by rw [HE.out, H2.out]; simp), H0.out.trans X1.out⟩
 have H2 := hJ (show validVs b.st.views = true from h2)
 have hp : 0 < b.vs.length := by have := vs_pos h2; rwa [vws_len] at this
 clear h2; rintro e w1 ⟨rfl, hx1⟩
 have X1 := hJ hx1; clear hx1
 obtain ⟨p0, p1, p2, p3, p4, p5, p6, p7, p8, zz⟩ := cells9y X1.out
 by_cases h3 : b.sent < 0
 ·have h3' : decide (b.sent < 0) = true := decide_eq_true h3
  have H3 := hJ (show decide (0 ≤ b.st.sent) = false from decide_eq_false (by show ¬ 0 ≤ b.sent; omega))
  clear h3; go_wp2; go_ret
  exact ⟨ret_bool (by rw [HE.out, H3.out]; simp), H0.out.trans X1.out⟩
 have h3' : decide (b.sent < 0) = false := decide_eq_false h3
 have H3 := hJ (show decide (0 ≤ b.st.sent) = true from decide_eq_true (by show 0 ≤ b.sent; omega))
 by_cases h4 : 1099511627776 < b.sent
 ·have h4' : decide (1099511627776 < b.sent) = true := decide_eq_true h4
  have H4 := hJ (show decide (b.st.sent ≤ 1099511627776) = false from decide_eq_false (by show ¬ b.sent ≤ 1099511627776; omega))
  clear h4 h3; go_wp2; go_ret
  exact ⟨ret_bool (by rw [HE.out, H4.out]; simp), H0.out.trans X1.out⟩
 have h4' : decide (1099511627776 < b.sent) = false := decide_eq_false h4
 have H4 := hJ (show decide (b.st.sent ≤ 1099511627776) = true from decide_eq_true (by show b.sent ≤ 1099511627776; omega))
 have HSB := hJ (show 0 ≤ b.sent ∧ b.sent ≤ 1099511627776 by omega)
 clear h3 h4; go_wp2_with fail
 refine (based_any b.Al b.cl b.log b.base _ (HR.out.ext X1.out).log hll HFT.out.lp).mono ?_
 cases h5 : basedB b.log b.base
 ·have H5 := hJ (show basedB b.st.log b.st.base = false from h5); clear h5
  rintro e w2 ⟨rfl, hx2⟩
  have X2 := hJ (X1.out.trans hx2); clear hx2
  go_wp2; go_ret
  exact ⟨ret_bool (by rw [HE.out, H5.out]; simp), H0.out.trans X2.out⟩
 have H5 := hJ (show basedB b.st.log b.st.base = true from h5); clear h5
 rintro e w2 ⟨rfl, hx2⟩
 have X2 := hJ (X1.out.trans hx2); clear hx2 h3' h4' X1
 clear p0 p1 p2 p3 p4 p5 p6 p7 p8 zz; obtain ⟨p0, p1, p2, p3, p4, p5, p6, p7, p8, zz⟩ := cells9y X2.out
 go_upto_if 37 with fail
 go_cut [2] (fun _ wx => Hid (knB b.st = true) ∧ Ext (w.alloc (.cells (b.cells3 st Ap) 28)) wx)
 case first =>
  by_cases hb : b.base = -1
  ·have HB := hJ (kn_yes (s := b.st) hb)
   have hb' : (b.base != -1) = false := by simp [hb]
   clear hb; go_wp2; go_meet
   case rel => exact ⟨HB, X2.out⟩
  ·have HB := hJ hb
   have hb' : (b.base != -1) = true := by simp [hb]
   clear hb; go_wp2_with fail
   refine (known_any b.Av b.cv b.vs b.base _ (HR.out.ext X2.out).vs hn).mono ?_
   cases hk : knownV (vws b.vs) b.base with
   | none =>
    have HK := hJ (kn_none (s := b.st) HB.out hk)
    clear hk; rintro e w3 ⟨A3, c3, rfl, _, _, _, hx3⟩
    have X3 := hJ (X2.out.trans hx3); clear hx3
    simp only [Option.getD_none, Option.isSome_none, List.length_nil]
    go_wp2; go_ret
    exact ⟨ret_bool (by rw [HE.out, HK.out]; simp), H0.out.trans (X3.out.alloc _)⟩
   | some v =>
    obtain ⟨vn, xs⟩ := v
    have HK := hJ (kn_some (s := b.st) HB.out hk)
    have hxl : xs.length ≤ 9223372036854775807 := by
     have := List.mem_of_find?_eq_some hk
     obtain ⟨u, hu, hv⟩ := List.mem_map.1 this
     have := HFT.out.vx u hu
     have e : u.xs = xs := by have := congrArg Prod.snd hv; exact this
     rw [e] at this; omega
    clear hk; rintro e w3 ⟨A3, c3, rfl, _, _, HR3, hx3⟩
    have X3 := hJ (X2.out.trans hx3); clear hx3
    simp only [Option.getD_some, Option.isSome_some] at HR3 ⊢
    obtain ⟨y0, _, _, _, _, _, _, _, _, yz⟩ := cells9y X3.out
    go_wp2_with fail
    refine (contains_c A3 c3 xs b.self _ (HR3.out.ext (Ext.new _ _)) hxl _ rfl).mono ?_
    cases hh : hasB xs b.self
    ·have HH := hJ (show hasB (vn, xs).2 b.st.self = false from hh); clear hh
     rintro e w4 ⟨rfl, rfl⟩
     go_wp2; go_ret
     exact ⟨ret_bool (by rw [HE.out, HK.out, HH.out]; simp), H0.out.trans (X3.out.alloc _)⟩
    ·have HH := hJ (show hasB (vn, xs).2 b.st.self = true from hh); clear hh
     rintro e w4 ⟨rfl, rfl⟩
     go_wp2; go_meet
     case rel => exact ⟨hJ (by rw [HK.out]; exact HH.out), X3.out.alloc _⟩
 case rest =>
  obtain ⟨HKN, HX3⟩ := hcut
  have X3 := hJ HX3; clear HX3 X2 p0 p1 p2 p3 p4 p5 p6 p7 p8 zz
  obtain ⟨p0, p1, p2, p3, p4, p5, p6, p7, p8, zz⟩ := cells9y X3.out
  have RL := hJ ((HR.out.ext X3.out.drew).log)
  obtain ⟨no, hno⟩ : ∃ n, ownN b.log b.self = n := ⟨_, rfl⟩
  have HNO := hJ hno
  have HNO' : Hid (ownN b.st.log b.st.self = no) := hJ hno
  have hnb : no ≤ b.log.length := by rw [← hno]; exact own_le _ _
  clear hno; by_cases h6 : b.sent < (no : Int)
  ·have h6' : decide (b.sent < (no : Int)) = true := decide_eq_true h6
   have H6 := hJ (show decide ((ownN b.st.log b.st.self : Int) ≤ b.st.sent) = false from decide_eq_false (by rw [HNO'.out]; show ¬ (no : Int) ≤ b.sent; omega))
   clear h6; go_wp2; refine wp_region_held_drew (S := fun w' => w'.cell? ⟨w.heap.size, 0, none⟩ = some (.int .i64 b.self) ∧ w'.cell? ⟨w.heap.size, 3, none⟩ = some (.slice b.Al b.log.length b.cl) ∧ w'.cell? ⟨w.heap.size, 4, none⟩ = some (.int .i64 st) ∧ w'.cell? ⟨w.heap.size, 5, none⟩ = some (.int .i64 b.sent) ∧ w'.cell? ⟨w.heap.size, 6, none⟩ = some (.slice Ap b.pend.length b.cp)) (by kernel_rfl) ⟨p0, p3, p4, p5, p6⟩ (fun hHeld => ?_)
   refine wpAnyH_take (i := 0) (oi := ⟨some 56, _, _, _, _, _⟩) (v := ?_) rfl (by kernel_rfl) (by kernel_rfl) (by kernel_rfl) (fun _ _ _ h => h) (Or.inl ⟨by rfl, ?_⟩) (by assumption) ?_
   rotate_left
   ·(intro w9 hSw; (try dsimp only at hSw); go_simp <;> with_reducible rfl)
   try simp only [Act.put, l1, l2, l3]
   refine wpAnyH_take (i := 1) (oi := ⟨some 57, _, _, _, _, _⟩) (v := ?_) rfl (by kernel_rfl) (by kernel_rfl) (by kernel_rfl) (fun _ _ _ h => h) (Or.inl ⟨by rfl, ?_⟩) (by assumption) ?_
   rotate_left
   ·(intro w9 hSw; (try dsimp only at hSw); go_simp <;> with_reducible rfl)
   try simp only [Act.put, l1, l2, l3]
   refine wpAnyH_take (i := 2) (oi := ⟨some 58, _, _, _, _, _⟩) (v := ?_) rfl (by kernel_rfl) (by kernel_rfl) (by kernel_rfl) (fun _ _ _ h => h) (Or.inl ⟨by rfl, ?_⟩) (by assumption) ?_
   rotate_left
   ·(intro w9 hSw; (try dsimp only at hSw); go_simp <;> with_reducible rfl)
   try simp only [Act.put, l1, l2, l3]
   refine wpAnyH_take (i := 3) (oi := ⟨some 59, _, _, _, _, _⟩) (v := ?_) rfl (by kernel_rfl) (by kernel_rfl) (by kernel_rfl) (fun _ _ _ h => h) (Or.inl ⟨by rfl, ?_⟩) (by assumption) ?_
   rotate_left
   ·(intro w9 hSw; (try dsimp only at hSw); go_simp <;> with_reducible rfl)
   try simp only [Act.put, l1, l2, l3]
   refine wpAnyH_take (i := 5) (oi := ⟨some 61, _, _, _, _, _⟩) (v := ?_) rfl (by kernel_rfl) (by kernel_rfl) (by kernel_rfl) (fun _ _ _ h => h) (Or.inl ⟨by rfl, ?_⟩) (by assumption) ?_
   rotate_left
   ·(intro w9 hSw; (try dsimp only at hSw); go_simp <;> with_reducible rfl)
   try simp only [Act.put, l1, l2, l3]
   refine wpAnyH_take (i := 6) (oi := ⟨some 62, _, _, _, _, _⟩) (v := ?_) rfl (by kernel_rfl) (by kernel_rfl) (by kernel_rfl) (fun _ _ _ h => h) (Or.inl ⟨by rfl, ?_⟩) (by assumption) ?_
   rotate_left
   ·(intro w9 hSw; (try dsimp only at hSw); go_simp <;> with_reducible rfl)
   try simp only [Act.put, l1, l2, l3]
   refine wpAnyH_ready (rs := [4]) (by kernel_rfl) (by simp) ?_
   refine AllReadyH.cons (o := ⟨some 60, _, _, _, _, _⟩) rfl (fun K hK => ?_) AllReadyH.nil
   go_simp; go_at_call 91; refine (own_b b.Al b.cl b.log b.self _ RL.out hll no HNO.out).mono ?_
   rintro e w4 ⟨rfl, hx4⟩
   have X4 := hJ ((X3.out.drew).trans hx4)
   clear hHeld hx4 p0 p1 p2 p3 p4 p5 p6 p7 p8 zz; obtain ⟨p0, p1, p2, p3, p4, p5, p6, p7, p8, zz⟩ := cells9y X4.out
   refine hK.out _ _ ⟨p0, p3, p4, p5, p6⟩ (fun hHeld => ?_)
   try simp only [Act.put, l1, l2, l3]
   refine wpAnyH_take (i := 7) (oi := ⟨some 63, _, _, _, _, _⟩) (v := ?_) rfl (by kernel_rfl) (by kernel_rfl) (by kernel_rfl) (fun _ _ _ h => h) (Or.inl ⟨by rfl, ?_⟩) (by assumption) ?_
   rotate_left
   ·(intro w9 hSw; (try dsimp only at hSw); go_simp <;> with_reducible rfl)
   try simp only [Act.put, l1, l2, l3]
   refine wpAnyH_take (i := 8) (oi := ⟨some 64, _, _, _, _, _⟩) (v := ?_) rfl (by kernel_rfl) (by kernel_rfl) (by kernel_rfl) (fun _ _ _ h => h) (Or.inl ⟨by rfl, ?_⟩) (by assumption) ?_
   rotate_left
   ·(intro w9 hSw; (try dsimp only at hSw); go_simp <;> with_reducible rfl)
   try simp only [Act.put, l1, l2, l3]
   refine wpAnyH_take (i := 9) (oi := ⟨some 65, _, _, _, _, _⟩) (v := undef) rfl (by kernel_rfl) (by kernel_rfl) (by kernel_rfl) (fun _ _ _ h => h) (Or.inr ⟨by rfl, rfl⟩) (by assumption) ?_
   try simp only [Act.put, l1, l2, l3]
   refine wpAnyH_take (i := 10) (oi := ⟨some 66, _, _, _, _, _⟩) (v := undef) rfl (by kernel_rfl) (by kernel_rfl) (by kernel_rfl) (fun _ _ _ h => h) (Or.inr ⟨by rfl, rfl⟩) (by assumption) ?_
   try simp only [Act.put, l1, l2, l3]
   refine wpAnyH_take (i := 11) (oi := ⟨some 67, _, _, _, _, _⟩) (v := undef) rfl (by kernel_rfl) (by kernel_rfl) (by kernel_rfl) (fun _ _ _ h => h) (Or.inr ⟨by rfl, rfl⟩) (by assumption) ?_
   try simp only [Act.put, l1, l2, l3]
   refine wpAnyH_take (i := 12) (oi := ⟨some 68, _, _, _, _, _⟩) (v := ?_) rfl (by kernel_rfl) (by kernel_rfl) (by kernel_rfl) (fun _ _ _ h => h) (Or.inl ⟨by rfl, ?_⟩) (by assumption) ?_
   rotate_left
   ·(intro w9 hSw; (try dsimp only at hSw); go_simp <;> with_reducible rfl)
   try simp only [Act.put, l1, l2, l3]
   refine wpAnyH_take (i := 13) (oi := ⟨some 69, _, _, _, _, _⟩) (v := ?_) rfl (by kernel_rfl) (by kernel_rfl) (by kernel_rfl) (fun _ _ _ h => h) (Or.inl ⟨by rfl, ?_⟩) (by assumption) ?_
   rotate_left
   ·(intro w9 hSw; (try dsimp only at hSw); go_simp <;> with_reducible rfl)
   try simp only [Act.put, l1, l2, l3]
   refine wpAnyH_take (i := 14) (oi := ⟨some 70, _, _, _, _, _⟩) (v := undef) rfl (by kernel_rfl) (by kernel_rfl) (by kernel_rfl) (fun _ _ _ h => h) (Or.inr ⟨by rfl, rfl⟩) (by assumption) ?_
   try simp only [Act.put, l1, l2, l3]
   refine wpAnyH_take (i := 15) (oi := ⟨some 71, _, _, _, _, _⟩) (v := undef) rfl (by kernel_rfl) (by kernel_rfl) (by kernel_rfl) (fun _ _ _ h => h) (Or.inr ⟨by rfl, rfl⟩) (by assumption) ?_
   try simp only [Act.put, l1, l2, l3]
   refine wpAnyH_take (i := 16) (oi := ⟨some 72, _, _, _, _, _⟩) (v := undef) rfl (by kernel_rfl) (by kernel_rfl) (by kernel_rfl) (fun _ _ _ h => h) (Or.inr ⟨by rfl, rfl⟩) (by assumption) ?_
   try simp only [Act.put, l1, l2, l3]
   refine wpAnyH_take (i := 17) (oi := ⟨some 73, _, _, _, _, _⟩) (v := undef) rfl (by kernel_rfl) (by kernel_rfl) (by kernel_rfl) (fun _ _ _ h => h) (Or.inr ⟨by rfl, rfl⟩) (by assumption) ?_
   try simp only [Act.put, l1, l2, l3]
   refine wpAnyH_take (i := 18) (oi := ⟨some 74, _, _, _, _, _⟩) (v := undef) rfl (by kernel_rfl) (by kernel_rfl) (by kernel_rfl) (fun _ _ _ h => h) (Or.inr ⟨by rfl, rfl⟩) (by assumption) ?_
   try simp only [Act.put, l1, l2, l3]
   refine wpAnyH_take (i := 19) (oi := ⟨some 75, _, _, _, _, _⟩) (v := undef) rfl (by kernel_rfl) (by kernel_rfl) (by kernel_rfl) (fun _ _ _ h => h) (Or.inr ⟨by rfl, rfl⟩) (by assumption) ?_
   try simp only [Act.put, l1, l2, l3]
   refine wpAnyH_take (i := 20) (oi := ⟨some 76, _, _, _, _, _⟩) (v := ?_) rfl (by kernel_rfl) (by kernel_rfl) (by kernel_rfl) (fun _ _ _ h => h) (Or.inl ⟨by rfl, ?_⟩) (by assumption) ?_
   rotate_left
   ·(intro w9 hSw; (try dsimp only at hSw); go_simp <;> with_reducible rfl)
   try simp only [Act.put, l1, l2, l3]
   refine wpAnyH_done (by kernel_rfl) ?_ _
   go_wp2; go_ret
   exact ⟨ret_bool (by rw [HE.out, H6.out]; simp), H0.out.trans X4.out⟩
  have h6' : decide (b.sent < (no : Int)) = false := decide_eq_false h6
  have H6 := hJ (show decide ((ownN b.st.log b.st.self : Int) ≤ b.st.sent) = true from decide_eq_true (by rw [HNO'.out]; show (no : Int) ≤ b.sent; omega))
  clear h6; by_cases h7 : st < 0
  ·have h7' : decide (st < 0) = true := decide_eq_true h7
   have H7 := hJ (show decide (0 ≤ b.st.stable) = false from decide_eq_false (by show ¬ 0 ≤ b.stable; rw [HST.out]; omega))
   clear h7; go_wp2; refine wp_region_held_drew (S := fun w' => w'.cell? ⟨w.heap.size, 0, none⟩ = some (.int .i64 b.self) ∧ w'.cell? ⟨w.heap.size, 3, none⟩ = some (.slice b.Al b.log.length b.cl) ∧ w'.cell? ⟨w.heap.size, 4, none⟩ = some (.int .i64 st) ∧ w'.cell? ⟨w.heap.size, 5, none⟩ = some (.int .i64 b.sent) ∧ w'.cell? ⟨w.heap.size, 6, none⟩ = some (.slice Ap b.pend.length b.cp)) (by kernel_rfl) ⟨p0, p3, p4, p5, p6⟩ (fun hHeld => ?_)
   refine wpAnyH_take (i := 0) (oi := ⟨some 56, _, _, _, _, _⟩) (v := ?_) rfl (by kernel_rfl) (by kernel_rfl) (by kernel_rfl) (fun _ _ _ h => h) (Or.inl ⟨by rfl, ?_⟩) (by assumption) ?_
   rotate_left
   ·(intro w9 hSw; (try dsimp only at hSw); go_simp <;> with_reducible rfl)
   try simp only [Act.put, l1, l2, l3]
   refine wpAnyH_take (i := 1) (oi := ⟨some 57, _, _, _, _, _⟩) (v := ?_) rfl (by kernel_rfl) (by kernel_rfl) (by kernel_rfl) (fun _ _ _ h => h) (Or.inl ⟨by rfl, ?_⟩) (by assumption) ?_
   rotate_left
   ·(intro w9 hSw; (try dsimp only at hSw); go_simp <;> with_reducible rfl)
   try simp only [Act.put, l1, l2, l3]
   refine wpAnyH_take (i := 2) (oi := ⟨some 58, _, _, _, _, _⟩) (v := ?_) rfl (by kernel_rfl) (by kernel_rfl) (by kernel_rfl) (fun _ _ _ h => h) (Or.inl ⟨by rfl, ?_⟩) (by assumption) ?_
   rotate_left
   ·(intro w9 hSw; (try dsimp only at hSw); go_simp <;> with_reducible rfl)
   try simp only [Act.put, l1, l2, l3]
   refine wpAnyH_take (i := 3) (oi := ⟨some 59, _, _, _, _, _⟩) (v := ?_) rfl (by kernel_rfl) (by kernel_rfl) (by kernel_rfl) (fun _ _ _ h => h) (Or.inl ⟨by rfl, ?_⟩) (by assumption) ?_
   rotate_left
   ·(intro w9 hSw; (try dsimp only at hSw); go_simp <;> with_reducible rfl)
   try simp only [Act.put, l1, l2, l3]
   refine wpAnyH_take (i := 5) (oi := ⟨some 61, _, _, _, _, _⟩) (v := ?_) rfl (by kernel_rfl) (by kernel_rfl) (by kernel_rfl) (fun _ _ _ h => h) (Or.inl ⟨by rfl, ?_⟩) (by assumption) ?_
   rotate_left
   ·(intro w9 hSw; (try dsimp only at hSw); go_simp <;> with_reducible rfl)
   try simp only [Act.put, l1, l2, l3]
   refine wpAnyH_take (i := 6) (oi := ⟨some 62, _, _, _, _, _⟩) (v := ?_) rfl (by kernel_rfl) (by kernel_rfl) (by kernel_rfl) (fun _ _ _ h => h) (Or.inl ⟨by rfl, ?_⟩) (by assumption) ?_
   rotate_left
   ·(intro w9 hSw; (try dsimp only at hSw); go_simp <;> with_reducible rfl)
   try simp only [Act.put, l1, l2, l3]
   refine wpAnyH_ready (rs := [4]) (by kernel_rfl) (by simp) ?_
   refine AllReadyH.cons (o := ⟨some 60, _, _, _, _, _⟩) rfl (fun K hK => ?_) AllReadyH.nil
   go_simp; go_at_call 91; refine (own_b b.Al b.cl b.log b.self _ RL.out hll no HNO.out).mono ?_
   rintro e w4 ⟨rfl, hx4⟩
   have X4 := hJ ((X3.out.drew).trans hx4)
   clear hHeld hx4 p0 p1 p2 p3 p4 p5 p6 p7 p8 zz; obtain ⟨p0, p1, p2, p3, p4, p5, p6, p7, p8, zz⟩ := cells9y X4.out
   refine hK.out _ _ ⟨p0, p3, p4, p5, p6⟩ (fun hHeld => ?_)
   try simp only [Act.put, l1, l2, l3]
   refine wpAnyH_take (i := 7) (oi := ⟨some 63, _, _, _, _, _⟩) (v := ?_) rfl (by kernel_rfl) (by kernel_rfl) (by kernel_rfl) (fun _ _ _ h => h) (Or.inl ⟨by rfl, ?_⟩) (by assumption) ?_
   rotate_left
   ·(intro w9 hSw; (try dsimp only at hSw); go_simp <;> with_reducible rfl)
   try simp only [Act.put, l1, l2, l3]
   refine wpAnyH_take (i := 8) (oi := ⟨some 64, _, _, _, _, _⟩) (v := ?_) rfl (by kernel_rfl) (by kernel_rfl) (by kernel_rfl) (fun _ _ _ h => h) (Or.inl ⟨by rfl, ?_⟩) (by assumption) ?_
   rotate_left
   ·(intro w9 hSw; (try dsimp only at hSw); go_simp <;> with_reducible rfl)
   try simp only [Act.put, l1, l2, l3]
   refine wpAnyH_take (i := 9) (oi := ⟨some 65, _, _, _, _, _⟩) (v := ?_) rfl (by kernel_rfl) (by kernel_rfl) (by kernel_rfl) (fun _ _ _ h => h) (Or.inl ⟨by rfl, ?_⟩) (by assumption) ?_
   rotate_left
   ·(intro w9 hSw; (try dsimp only at hSw); go_simp <;> with_reducible rfl)
   try simp only [Act.put, l1, l2, l3]
   refine wpAnyH_take (i := 10) (oi := ⟨some 66, _, _, _, _, _⟩) (v := ?_) rfl (by kernel_rfl) (by kernel_rfl) (by kernel_rfl) (fun _ _ _ h => h) (Or.inl ⟨by rfl, ?_⟩) (by assumption) ?_
   rotate_left
   ·(intro w9 hSw; (try dsimp only at hSw); go_simp <;> with_reducible rfl)
   try simp only [Act.put, l1, l2, l3]
   refine wpAnyH_take (i := 11) (oi := ⟨some 67, _, _, _, _, _⟩) (v := ?_) rfl (by kernel_rfl) (by kernel_rfl) (by kernel_rfl) (fun _ _ _ h => h) (Or.inl ⟨by rfl, ?_⟩) (by assumption) ?_
   rotate_left
   ·(intro w9 hSw; (try dsimp only at hSw); go_simp <;> with_reducible rfl)
   try simp only [Act.put, l1, l2, l3]
   refine wpAnyH_take (i := 12) (oi := ⟨some 68, _, _, _, _, _⟩) (v := ?_) rfl (by kernel_rfl) (by kernel_rfl) (by kernel_rfl) (fun _ _ _ h => h) (Or.inl ⟨by rfl, ?_⟩) (by assumption) ?_
   rotate_left
   ·(intro w9 hSw; (try dsimp only at hSw); go_simp <;> with_reducible rfl)
   try simp only [Act.put, l1, l2, l3]
   refine wpAnyH_take (i := 13) (oi := ⟨some 69, _, _, _, _, _⟩) (v := ?_) rfl (by kernel_rfl) (by kernel_rfl) (by kernel_rfl) (fun _ _ _ h => h) (Or.inl ⟨by rfl, ?_⟩) (by assumption) ?_
   rotate_left
   ·(intro w9 hSw; (try dsimp only at hSw); go_simp <;> with_reducible rfl)
   try simp only [Act.put, l1, l2, l3]
   refine wpAnyH_take (i := 14) (oi := ⟨some 70, _, _, _, _, _⟩) (v := undef) rfl (by kernel_rfl) (by kernel_rfl) (by kernel_rfl) (fun _ _ _ h => h) (Or.inr ⟨by rfl, rfl⟩) (by assumption) ?_
   try simp only [Act.put, l1, l2, l3]
   refine wpAnyH_take (i := 15) (oi := ⟨some 71, _, _, _, _, _⟩) (v := undef) rfl (by kernel_rfl) (by kernel_rfl) (by kernel_rfl) (fun _ _ _ h => h) (Or.inr ⟨by rfl, rfl⟩) (by assumption) ?_
   try simp only [Act.put, l1, l2, l3]
   refine wpAnyH_take (i := 16) (oi := ⟨some 72, _, _, _, _, _⟩) (v := undef) rfl (by kernel_rfl) (by kernel_rfl) (by kernel_rfl) (fun _ _ _ h => h) (Or.inr ⟨by rfl, rfl⟩) (by assumption) ?_
   try simp only [Act.put, l1, l2, l3]
   refine wpAnyH_take (i := 17) (oi := ⟨some 73, _, _, _, _, _⟩) (v := undef) rfl (by kernel_rfl) (by kernel_rfl) (by kernel_rfl) (fun _ _ _ h => h) (Or.inr ⟨by rfl, rfl⟩) (by assumption) ?_
   try simp only [Act.put, l1, l2, l3]
   refine wpAnyH_take (i := 18) (oi := ⟨some 74, _, _, _, _, _⟩) (v := undef) rfl (by kernel_rfl) (by kernel_rfl) (by kernel_rfl) (fun _ _ _ h => h) (Or.inr ⟨by rfl, rfl⟩) (by assumption) ?_
   try simp only [Act.put, l1, l2, l3]
   refine wpAnyH_take (i := 19) (oi := ⟨some 75, _, _, _, _, _⟩) (v := undef) rfl (by kernel_rfl) (by kernel_rfl) (by kernel_rfl) (fun _ _ _ h => h) (Or.inr ⟨by rfl, rfl⟩) (by assumption) ?_
   try simp only [Act.put, l1, l2, l3]
   refine wpAnyH_take (i := 20) (oi := ⟨some 76, _, _, _, _, _⟩) (v := ?_) rfl (by kernel_rfl) (by kernel_rfl) (by kernel_rfl) (fun _ _ _ h => h) (Or.inl ⟨by rfl, ?_⟩) (by assumption) ?_
   rotate_left
   ·(intro w9 hSw; (try dsimp only at hSw); go_simp <;> with_reducible rfl)
   try simp only [Act.put, l1, l2, l3]
   refine wpAnyH_done (by kernel_rfl) ?_ _
   go_wp2; go_ret
   exact ⟨ret_bool (by rw [HE.out, H7.out]; simp), H0.out.trans X4.out⟩
  have h7' : decide (st < 0) = false := decide_eq_false h7
  have H7 := hJ (show decide (0 ≤ b.st.stable) = true from decide_eq_true (by show 0 ≤ b.stable; rw [HST.out]; omega))
  by_cases h8 : (b.log.length : Int) < st
  ·have h8' : decide ((b.log.length : Int) < st) = true := decide_eq_true h8
   have H8 := hJ (show decide (b.st.stable ≤ (b.st.log.length : Int)) = false from decide_eq_false (by show ¬ b.stable ≤ (b.log.length : Int); rw [HST.out]; omega))
   clear h8 h7; go_wp2; go_region_held3 (fun w' => w'.cell? ⟨w.heap.size, 0, none⟩ = some (.int .i64 b.self) ∧ w'.cell? ⟨w.heap.size, 3, none⟩ = some (.slice b.Al b.log.length b.cl) ∧ w'.cell? ⟨w.heap.size, 4, none⟩ = some (.int .i64 st) ∧ w'.cell? ⟨w.heap.size, 5, none⟩ = some (.int .i64 b.sent) ∧ w'.cell? ⟨w.heap.size, 6, none⟩ = some (.slice Ap b.pend.length b.cp))
    (first | exact ⟨p0, p3, p4, p5, p6⟩)
    (first
     | (go_at_call 91; (with_reducible refine (own_b b.Al b.cl b.log b.self _ (by exact RL.out) hll no (by exact HNO.out)).mono ?_); rintro e w4 ⟨rfl, hx4⟩; have X4 := hJ (Ext.trans (X3.out.drew) hx4); clear hx4; obtain ⟨p0, p1, p2, p3, p4, p5, p6, p7, p8, zz⟩ := cells9y X4.out))
   go_wp2; go_ret
   exact ⟨ret_bool (by rw [HE.out, H8.out]; simp), H0.out.trans X4.out⟩
  have h8' : decide ((b.log.length : Int) < st) = false := decide_eq_false h8
  have H8 := hJ (show decide (b.st.stable ≤ (b.st.log.length : Int)) = true from decide_eq_true (by show b.stable ≤ (b.log.length : Int); rw [HST.out]; omega))
  have HSR := hJ (show 0 ≤ st ∧ st ≤ (b.log.length : Int) by omega)
  clear h8 h7; go_wp2; go_region_held3 (fun w' => w'.cell? ⟨w.heap.size, 0, none⟩ = some (.int .i64 b.self) ∧ w'.cell? ⟨w.heap.size, 3, none⟩ = some (.slice b.Al b.log.length b.cl) ∧ w'.cell? ⟨w.heap.size, 4, none⟩ = some (.int .i64 st) ∧ w'.cell? ⟨w.heap.size, 5, none⟩ = some (.int .i64 b.sent) ∧ w'.cell? ⟨w.heap.size, 6, none⟩ = some (.slice Ap b.pend.length b.cp))
   (first | exact ⟨p0, p3, p4, p5, p6⟩)
   (first
    | (go_at_call 91; (with_reducible refine (own_b b.Al b.cl b.log b.self _ (by exact RL.out) hll no (by exact HNO.out)).mono ?_); rintro e w4 ⟨rfl, hx4⟩; have X4 := hJ (Ext.trans (X3.out.drew) hx4); clear hx4; obtain ⟨p0, p1, p2, p3, p4, p5, p6, p7, p8, zz⟩ := cells9y X4.out))
  have X5 := X4
  clear X3 RL h6' h7' h8' X4; have X3 := X5
  clear X5; obtain ⟨n, hn0⟩ : ∃ n : Nat, st = (n : Int) := ⟨st.toNat, by have := HSR.out; omega⟩
  subst hn0
  have hnl : n ≤ b.log.length := by have := HSR.out; omega
  have k1 : (0 : Int) ≤ (n : Int) := by omega
  have k2 : (n : Int) ≤ (b.cl : Int) := by omega
  have k3 : n ≤ b.cl := by omega
  have htl : n = (b.log.take n).length := by rw [List.length_take]; omega
  have HTL := hJ htl
  clear htl; obtain ⟨nb, hnb2⟩ : ∃ k, ownN (b.log.take n) b.self = k := ⟨_, rfl⟩
  have HNB := hJ hnb2
  have HNB' : Hid (ownN (b.st.log.take b.st.stable.toNat) b.st.self = nb) := hJ (by
   show ownN (b.log.take b.stable.toNat) b.self = nb
   rw [HST.out]; exact hnb2)
  have hnb3 : nb ≤ b.log.length := by rw [← hnb2]; exact Nat.le_trans (own_take _ _ _) hnl
  have hlb := HFT.out.log
  have hsb := HSB.out
  have hwb : IntKind.i64.wrap (b.sent - (nb : Int)) = b.sent - (nb : Int) := IntWalk.i64_in _ (by omega)
  clear hnb2 hsb hlb; have RL2 := hJ ((HR.out.ext X3.out.drew).log.take_ents n)
  have hll2 : (b.log.take n).length ≤ 1000000000 := by rw [List.length_take]; omega
  by_cases h9 : 32 < b.pend.length
  ·have h9' : decide ((32 : Int) < (b.pend.length : Int)) = true := decide_eq_true (by omega)
   have H9 := hJ (show decide (b.st.pend.length ≤ 32) = false from decide_eq_false (by show ¬ b.pend.length ≤ 32; omega))
   go_wp2; go_quiet (fail)
   go_wp2; go_ret
   exact ⟨ret_bool (by rw [HE.out, H9.out]; simp), H0.out.trans (X3.out.drewN _)⟩
  have h9' : decide ((32 : Int) < (b.pend.length : Int)) = false := decide_eq_false (by omega)
  have H9 := hJ (show decide (b.st.pend.length ≤ 32) = true from decide_eq_true (by show b.pend.length ≤ 32; omega))
  clear h9; by_cases h10 : (b.pend.length : Int) = b.sent - (nb : Int)
  rotate_left
  ·have h10' : ((b.pend.length : Int) != b.sent - (nb : Int)) = true := by simp [h10]
   have H10 := hJ (show decide ((b.st.pend.length : Int) = b.st.sent - ownN (b.st.log.take b.st.stable.toNat) b.st.self) = false from decide_eq_false (by rw [HNB'.out]; exact h10))
   clear h10; go_wp2; go_region_held3 (fun w' => w'.cell? ⟨w.heap.size, 0, none⟩ = some (.int .i64 b.self) ∧ w'.cell? ⟨w.heap.size, 3, none⟩ = some (.slice b.Al b.log.length b.cl) ∧ w'.cell? ⟨w.heap.size, 4, none⟩ = some (.int .i64 (n : Int)) ∧ w'.cell? ⟨w.heap.size, 5, none⟩ = some (.int .i64 b.sent) ∧ w'.cell? ⟨w.heap.size, 6, none⟩ = some (.slice Ap b.pend.length b.cp))
    (first | exact ⟨p0, p3, p4, p5, p6⟩)
    (first
     | (go_at_call 91; (with_reducible refine (own_c b.Al n b.cl (b.log.take n) b.self _ (by exact HTL.out) (by exact RL2.out) hll2 nb (by exact HNB.out)).mono ?_); rintro e w4 ⟨rfl, hx4⟩; have X4 := hJ (Ext.trans (X3.out.drew) hx4); clear hx4; obtain ⟨p0, p1, p2, p3, p4, p5, p6, p7, p8, zz⟩ := cells9y X4.out))
   go_wp2; go_ret
   exact ⟨ret_bool (by rw [HE.out, H10.out]; simp), H0.out.trans X4.out⟩
  have h10' : ((b.pend.length : Int) != b.sent - (nb : Int)) = false := by simp [h10]
  have H10 := hJ (show decide ((b.st.pend.length : Int) = b.st.sent - ownN (b.st.log.take b.st.stable.toNat) b.st.self) = true from decide_eq_true (by rw [HNB'.out]; exact h10))
  clear h10; go_wp2; go_region_held3 (fun w' => w'.cell? ⟨w.heap.size, 0, none⟩ = some (.int .i64 b.self) ∧ w'.cell? ⟨w.heap.size, 3, none⟩ = some (.slice b.Al b.log.length b.cl) ∧ w'.cell? ⟨w.heap.size, 4, none⟩ = some (.int .i64 (n : Int)) ∧ w'.cell? ⟨w.heap.size, 5, none⟩ = some (.int .i64 b.sent) ∧ w'.cell? ⟨w.heap.size, 6, none⟩ = some (.slice Ap b.pend.length b.cp))
   (first | exact ⟨p0, p3, p4, p5, p6⟩)
   (first
    | (go_at_call 91; (with_reducible refine (own_c b.Al n b.cl (b.log.take n) b.self _ (by exact HTL.out) (by exact RL2.out) hll2 nb (by exact HNB.out)).mono ?_); rintro e w4 ⟨rfl, hx4⟩; have X4 := hJ (Ext.trans (X3.out.drew) hx4); clear hx4; obtain ⟨p0, p1, p2, p3, p4, p5, p6, p7, p8, zz⟩ := cells9y X4.out))
  have X6 := X4
  clear X3 RL2 h9' h10' X4 hwb; go_wp2; go_loopw [101] (fun i wr => ∃ k : Nat, k ≤ b.pend.length ∧ i = .int .i64 k ∧ Hid (((b.pend.take k).all fun p => decide (p.length ≤ 6000)) = true) ∧ Ext (w.alloc (.cells (b.cells3 (n : Int) Ap) 28)) wr) (fun i _ => b.pend.length - (intOf i).toNat)
  case atStart => exact ⟨0, Nat.zero_le _, rfl, hJ rfl, X6.out⟩
  case round =>
   obtain ⟨k, hk, rfl, HT, HS0⟩ := hrel
   have HS := hJ HS0; clear HS0
   by_cases hlt : k < b.pend.length
   ·obtain ⟨bb, off, p, rfl, hb, c0, HP⟩ := strs_at (show Row wr Ap (strE.cells b.pend) by rw [← HAP.out]; exact (HR.out.ext HS.out).pend) hlt
    have hsz := strB_size p
    by_cases h11 : p.length ≤ 6000
    ·have H11 := hJ h11
     have h11' : ¬ 6000 < p.length := by omega
     have h11i : decide ((6000 : Int) < (p.length : Int)) = false := decide_eq_false (by omega)
     clear h11; go_wp2; go_roundw
     case rel => exact ⟨k + 1, by omega, by go_num, hJ (pend_step HP.out H11.out HT.out), HS.out⟩
     case measure => simp [intOf]; omega
    ·have H11 := hJ (show (b.st.pend.all fun p => decide (p.length ≤ 6000)) = false from pend_no HP.out h11)
     have h11' : 6000 < p.length := by omega
     have h11i : decide ((6000 : Int) < (p.length : Int)) = true := decide_eq_true (by omega)
     clear h11; go_wp2; go_ret
     exact ⟨ret_bool (by rw [HE.out, H11.out]; simp), H0.out.trans HS.out⟩
   ·have HALL := hJ (show (b.st.pend.all fun p => decide (p.length ≤ 6000)) = true from by
     have := HT.out; rw [List.take_of_length_le (by omega)] at this; exact this)
    obtain ⟨t0, t1, t2, t3, t4, t5, t6, t7, t8, tz⟩ := cells9y HS.out
    go_wp2_with fail
    refine (validLists_b b (n : Int) Ap _ HST.out HAP.out (HR.out.ext HS.out) hp HFT.out).mono ?_
    rintro e w7 ⟨rfl, hx7⟩
    have X7 := hJ (HS.out.trans hx7); clear hx7
    go_wp2; go_ret
    exact ⟨ret_bool (by rw [HE.out, H1.out, H2.out, H3.out, H4.out, H5.out, HKN.out, H6.out, H7.out, H8.out, H9.out, H10.out, HALL.out]; simp), H0.out.trans X7.out⟩
theorem valid12_any (b : BM) (w : World) (h : b.Reads w) (hf : b.Fits) :
  Calls Tryz.prog 23 #[.agg b.cells] w fun e w' => e = .returned (.bool (validS b.st)) ∧ Ext w w' := valid12_raw b b.stable b.Ap w rfl rfl h hf
end Go.Proofs.YtponbabbabnaeaaGreat
namespace Go.Proofs.YtponbabbabnaeaaGreat
open Go.RowKit
theorem view_cells_set : ∀ (l : List VwM) (k : Nat) (a : VwM), k < l.length → viewE.cells (l.set k a) = ((viewE.cells l).set (k * 2) (.int .i64 a.n)).set (k * 2 + 1) (.slice a.A a.xs.length a.c) := by
 intro l
 induction l with
 | nil => intro k a h; simp at h
 | cons x l ih =>
  intro k a h
  match k with
  | 0 => rfl
  | k + 1 =>
   rw [List.set_cons_succ, viewE.cells_cons, viewE.cells_cons, ih k a (by simpa using h)]
   have e1 : (k + 1) * 2 = k * 2 + 1 + 1 := by omega
   rw [e1]
   rfl
theorem row_set_far {w : World} {p : Addr} {u : Value} {A : Option Addr} {vs : List Value} (h : Row w A vs) (hne : ∀ q, vs ≠ [] → A = some q → q.block ≠ p.block) : Row (w.setCell p u) A vs := by
 intro hx
 obtain ⟨b, off, h1, h2, h3⟩ := h hx
 refine ⟨b, off, h1, by rw [show (w.setCell p u).heap.size = w.heap.size from by simp [World.setCell]]; exact h2, fun j v hj => ?_⟩
 have hb : (w.setCell p u).heap[b]? = w.heap[b]? := Below.heap_setCell _ _ _ _ (hne _ hx h1)
 exact (World.cell?_of_block (a := ⟨b, off + j, none⟩) hb).trans (h3 j v hj)
theorem views_set {w : World} {B g cap : Nat} {l : List VwM} {k : Nat} {a : VwM} (h : viewE.OB w B (.slice (some ⟨g, 0, none⟩) l.length cap) l) (hk : k < l.length) (ha : viewE.ok a) (hr : Row w a.A (ints a.xs)) (hap : Apt (.slice (some ⟨g, 0, none⟩) l.length cap) (a.A, ints a.xs)) :
  viewE.OB ((w.setCell ⟨g, k * 2, none⟩ (.int .i64 a.n)).setCell ⟨g, k * 2 + 1, none⟩ (.slice a.A a.xs.length a.c)) B (.slice (some ⟨g, 0, none⟩) l.length cap) (l.set k a) := by
 have far : ∀ {r : Option Addr × List Value}, Row w r.1 r.2 → Apt (.slice (some ⟨g, 0, none⟩) l.length cap) r → Row ((w.setCell ⟨g, k * 2, none⟩ (.int .i64 a.n)).setCell ⟨g, k * 2 + 1, none⟩ (.slice a.A a.xs.length a.c)) r.1 r.2 := fun h1 h2 =>
  row_set_far (row_set_far h1 (fun q hne hq => Ne.symm (h2 q g hne hq rfl))) (fun q hne hq => Ne.symm (h2 q g hne hq rfl))
 refine ⟨?_, fun q hq => ?_⟩
 ·obtain ⟨h1, h2⟩ := h.1
  refine ⟨by rw [viewE.cells_len], .inr ?_⟩
  rcases h2 with ⟨h2, _⟩ | ⟨g', cap', cur, hv, h3, hh, h4, h5, h6, h7⟩
  ·cases h2
  ·simp only [Value.slice.injEq, Option.some.injEq, Addr.mk.injEq, and_true, true_and] at hv
   obtain ⟨rfl, rfl⟩ := hv
   refine ⟨g, cap, (cur.setIfInBounds (k * 2) (.int .i64 a.n)).setIfInBounds (k * 2 + 1) (.slice a.A a.xs.length a.c), by rw [List.length_set], h3, ?_, by rw [List.length_set]; exact h4, h5, by simpa using h6, ?_⟩
   ·exact heap_setCell_same _ _ _ _ _ _ (heap_setCell_same _ _ _ _ _ _ hh)
   ·rw [List.length_set, Array.toList_setIfInBounds, Array.toList_setIfInBounds, List.take_set, List.take_set, h7, view_cells_set l k a hk]
 ·rcases List.mem_or_eq_of_mem_set hq with hq | rfl
  ·exact ⟨(h.2 q hq).1, fun r hr' => ⟨far ((h.2 q hq).2 r hr').1 ((h.2 q hq).2 r hr').2, ((h.2 q hq).2 r hr').2⟩⟩
  ·refine ⟨ha, fun r hr' => ?_⟩
   simp only [viewE, List.mem_cons, List.not_mem_nil, or_false] at hr'
   subst hr'
   exact ⟨far (r := (q.A, ints q.xs)) hr hap, hap⟩
theorem vws_set {l : List VwM} {k : Nat} {n : Int} {X A : Option Addr} {cx c : Nat} {xs : List Int} (h : l[k]? = some ⟨n, X, cx, xs⟩) : vws (l.set k ⟨n, A, c, xs⟩) = vws l := by
 unfold vws
 rw [List.map_set]
 apply List.ext_getElem?
 intro i
 by_cases hi : k = i
 ·subst hi
  rw [List.getElem?_set]
  obtain ⟨hk, he⟩ := List.getElem?_eq_some_iff.1 h
  simp [hk, he, VwM.v]
 ·rw [List.getElem?_set]; simp [hi]
theorem own_form {w : World} {B : Nat} {A : Option Addr} {n c : Nat} {l : List VwM} (h : viewE.OB w B (.slice A n c) l) (hp : 0 < l.length) : ∃ g, A = some ⟨g, 0, none⟩ ∧ n = l.length ∧ g < w.heap.size ∧ w.frozen? ⟨g, 0, none⟩ = false := by
 obtain ⟨_, h2⟩ := h.1
 rcases h2 with ⟨_, hn⟩ | ⟨g, cap, cur, hv, _, hh, _⟩
 ·omega
 ·simp only [Value.slice.injEq] at hv
  have hg : g < w.heap.size := by
   rcases Nat.lt_or_ge g w.heap.size with hlt | hge
   ·exact hlt
   ·rw [Array.getElem?_eq_none hge] at hh; cases hh
  exact ⟨g, hv.1, hv.2.1, hg, by simp [World.frozen?, hh]⟩
theorem own_free {w : World} {B g c n : Nat} {l : List VwM} (h : viewE.OB w B (.slice (some ⟨g, 0, none⟩) n c) l) (i : Nat) : w.frozen? ⟨g, i, none⟩ = false := by
 obtain ⟨_, h2⟩ := h.1
 rcases h2 with ⟨h2, _⟩ | ⟨g', cap, cur, hv, _, hh, _⟩
 ·cases h2
 ·simp only [Value.slice.injEq, Option.some.injEq, Addr.mk.injEq, and_true] at hv
  obtain ⟨rfl, _⟩ := hv
  simp [World.frozen?, hh]
def NewR (w : World) (A : Option Addr) (xs : List Value) : Prop := ∀ p, xs ≠ [] → A = some p → w.heap.size ≤ p.block
theorem new_set {w : World} {l : List VwM} {k : Nat} {a : VwM} (h : ∀ i v, i < k → l[i]? = some v → NewR w v.A (ints v.xs)) (ha : NewR w a.A (ints a.xs)) : ∀ i v, i < k + 1 → (l.set k a)[i]? = some v → NewR w v.A (ints v.xs) := by
 intro i v hi hv
 rw [List.getElem?_set] at hv
 split at hv
 ·split at hv
  ·cases hv; exact ha
  ·cases hv
 ·exact h i v (by omega) hv
set_option maxRecDepth 100000 in
set_option maxHeartbeats 1000000 in
theorem cloneViews_any (A : Option Addr) (c : Nat) (l : List VwM) (w : World) (h : viewE.Box w A l) (hn : l.length ≤ 1000000) (hx : ∀ v ∈ l, v.xs.length ≤ 1000000) :
  Calls Tryz.prog 93 #[.slice A l.length c] w fun e w' => ∃ l', Hid (vws l' = vws l) ∧ Hid (∀ v ∈ l', NewR w v.A (ints v.xs)) ∧ viewE.Gives w l' e w' := by
 have H := hJ h; have HXX := hJ (show ∀ v ∈ vws l, v.2.length ≤ 1000000 from fun v hv => by obtain ⟨u, hu, rfl⟩ := List.mem_map.1 hv; exact hx u hu); clear h hx
 go_enter Tryz.func93, Tryz.ntmps93
 go_wp2_with fail
 refine (clone_views A c l _ H.out hn).mono ?_
 rintro e w1 ⟨A1, c1, rfl, h11, h12, ho1, hx1⟩
 have HO := hJ ho1; have X1 := hJ hx1
 clear ho1 hx1; go_wp2; go_loopw [9] (fun i wr => ∃ (k : Nat) (l' : List VwM), k ≤ l.length ∧ i = .int .i64 k ∧ Hid (l'.length = l.length) ∧ Hid (vws l' = vws l) ∧ Hid (∀ i v, i < k → l'[i]? = some v → NewR w v.A (ints v.xs)) ∧ Hid (viewE.OB wr w.heap.size (.slice A1 l.length c1) l') ∧ Ext w wr) (fun i _ => l.length - (intOf i).toNat)
 case atStart => exact ⟨0, l, Nat.zero_le _, rfl, hJ rfl, hJ rfl, hJ (fun i v hi => absurd hi (Nat.not_lt_zero _)), HO, X1.out⟩
 case round =>
  obtain ⟨k, l', hk, rfl, HLL, HVV, HNW, HOO, HS0⟩ := hrel
  have HS := hJ HS0; clear HS0
  by_cases hlt : k < l.length
  ·have hlt' : k < l'.length := by rw [HLL.out]; exact hlt
   obtain ⟨g, rfl, hnn, hg, _⟩ := own_form HOO.out (by omega)
   clear hnn; have HBX : Hid (viewE.Box wr (some ⟨g, 0, none⟩) l') := hJ (by
    obtain ⟨A', c', hv, _, _, hb⟩ := HOO.out.slice
    simp only [Value.slice.injEq] at hv
    rw [hv.1]; exact hb)
   obtain ⟨b, off, n, X, cx, xs, hA, hb, c0, c1', HR, hl1, hl2, HX⟩ := views_at HBX.out hlt'
   simp only [Option.some.injEq, Addr.mk.injEq, and_true] at hA
   obtain ⟨rfl, rfl⟩ := hA
   simp only [Nat.zero_add] at c0 c1'
   have hxl : xs.length ≤ 1000000 := HXX.out _ (by rw [← HVV.out]; exact List.mem_of_getElem? (vws_at HX.out))
   have f0 := own_free HOO.out (k * 2)
   have f1 := own_free HOO.out (k * 2 + 1)
   go_wp2_with fail
   refine (cloneView_any n X cx xs _ HR.out hxl).mono ?_
   rintro e w2 ⟨A2, c2, rfl, h21, h22, HR2, HN2, hx2⟩
   have HO2 := hJ (HOO.out.ext hx2)
   have X2 := hJ (HS.out.trans hx2)
   have d0 : w2.cell? ⟨g, k * 2, none⟩ = some (.int .i64 n) := by rw [hx2.cell (by exact hb)]; exact c0
   have d1 : w2.cell? ⟨g, k * 2 + 1, none⟩ = some (.slice X xs.length cx) := by rw [hx2.cell (by exact hb)]; exact c1'
   have g0 : w2.frozen? ⟨g, k * 2, none⟩ = false := by rw [hx2.frozen (by exact hb)]; exact f0
   have g1 : w2.frozen? ⟨g, k * 2 + 1, none⟩ = false := by rw [hx2.frozen (by exact hb)]; exact f1
   have HAP : Hid (Apt (.slice (some ⟨g, 0, none⟩) l'.length c1) (A2, ints xs)) := hJ (apt_new (E := viewE) (wc := wr) (B := w.heap.size) (l := l') HN2.out (by rw [HLL.out]; exact HOO.out.1))
   have HO3 := hJ (views_set (k := k) (a := ⟨n, A2, c2, xs⟩) (by rw [HLL.out]; exact HO2.out) hlt' ⟨h21, h22⟩ HR2.out HAP.out)
   have HGB : Hid (w.heap.size ≤ g) := hJ (HOO.out.1.lt g rfl).1
   clear hx2 c0 c1' f0 f1; go_wp2; go_roundw
   case rel => exact ⟨k + 1, l'.set k ⟨n, A2, c2, xs⟩, by omega, by go_num, hJ (by rw [List.length_set]; exact HLL.out), hJ (by rw [vws_set HX.out]; exact HVV.out), hJ (new_set HNW.out (fun p hne hp => Nat.le_trans HS.out.size (HN2.out p hne hp))), hJ (by have := HO3.out; rw [HLL.out] at this; exact this), (X2.out.set (by exact HGB.out) _).set (by exact HGB.out) _⟩
   case measure => simp [intOf]; omega
  ·go_wp2
   go_ret
   exact ⟨l', HVV, hJ (fun v hv => by obtain ⟨i, hi, he⟩ := List.mem_iff_getElem.1 hv; exact HNW.out i v (by have := HLL.out; omega) (by rw [← he]; exact List.getElem?_eq_getElem hi)), A1, c1, by rw [HLL.out]; rfl, by rw [HLL.out]; exact h11, h12, by rw [HLL.out]; exact HOO.out, HS.out⟩
end Go.Proofs.YtponbabbabnaeaaGreat
