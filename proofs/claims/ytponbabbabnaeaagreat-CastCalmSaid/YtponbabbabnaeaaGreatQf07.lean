/- Part 7 of the proof: contracts of functions that the statement reaches. Conditions: as each theorem says. -/
import Derived.Deep.RegionHeld3
import Derived.Lib.AppendZerosOnto
import Derived.Test.YtponbabbabnaeaaGreatQf01
import Derived.Test.YtponbabbabnaeaaGreatQf04
import Derived.Test.YtponbabbabnaeaaGreatQf06
import Derived.Test.YtponbabbabnaeaaGreatQf03
set_option maxRecDepth 100000
set_option maxHeartbeats 40000000
namespace Go.Proofs.YtponbabbabnaeaaGreat
section
variable {P:Program} {ops:Array Oper} {Q:Exit→Act→World→Prop} {md:Region.Mode} {S:World→Prop} {n:Nat}
def wpE(P:Program)(md:Region.Mode)(ops:Array Oper)(Q:Exit→Act→World→Prop)(S:World→Prop)(n:Nat):Nat→Array Bool→Act→World→Prop
 | 0,listed,a,w=>Region.ready md ops listed=[]∧Q .normal a w
 | fuel+1,listed,a,w=>
  (Region.ready md ops listed=[]→Q .normal a w)∧
  ∀i∈Region.ready md ops listed,wpOp P ops Q i (fun a' w'=>(i<n→S w')∧wpE P md ops Q S n fuel (listed.setIfInBounds i true) a' w') a w
theorem qmc:∀(fuel:Nat) (listed:Array Bool) (a:Act) (w:World),wpE P md ops Q S n fuel listed a w→wpAny P md ops Q fuel listed a w
 | 0,_,_,_,h=>h
 | fuel+1,_,_,_,h=>⟨h.1,fun i hi=>wpOp_mono (fun a' w' h'=>qmc fuel _ a' w' h'.2) (h.2 i hi)⟩
def qve(md:Region.Mode)(ops:Array Oper)(n:Nat):Bool:=
 (List.range ops.size).all fun t=>decide (t≤n)||(List.range t).any fun j=>decide (n≤j)&&Region.waitsFor md ops t j
theorem qop{n:Nat}{listed:Array Bool}(hs:Region.sinkB md ops n=true)(hc:qve md ops n=true)(inv:HeadInv md ops n listed) :
  ∀(d i:Nat),n - i=d→i<n→listed.getD i true=false→∀t,n≤t→t∉Region.ready md ops listed:=by
 intro d;induction d using Nat.strongRecOn with
 | _ d ih=>
  intro i hd hi hun t ht hr;obtain⟨_,ot,hot,hall⟩:=mem_ready.1 hr;have htlt:t<ops.size:=(Array.getElem?_eq_some_iff.1 hot).1;by_cases htn:t=n
  ·subst htn;have h1:=List.all_eq_true.1 hs i (List.mem_range.2 hi);obtain⟨j,hj,hj2⟩:=List.any_eq_true.1 h1;simp only[zB,zE] at hj2;obtain⟨oj,hoj,e,he,hb,hon⟩:=Region.waitsFor_spec hj2.2;have hjle:j≤t:=by have:=List.mem_range.1 hj;omega
   by_cases hjt:j=t
   ·subst hjt;have:oj=ot:=Option.some.inj (hoj.symm.trans hot);subst this;have h2:=hall e he hb;rw[hon,getD_both hun] at h2;cases h2
   ·cases hl:listed.getD j false with
    | true=>
     have h2:=inv.closed j oj hoj hl e he hb;rw[hon,getD_both hun] at h2;cases h2
    | false=>
     have hjs:j<listed.size:=by rw[inv.size];omega
     exact ih (t - j) (by omega) j rfl (by omega) (getD_in hjs hl) t (zR _) hr
  ·have h1:=List.all_eq_true.1 hc t (List.mem_range.2 htlt);simp only[Bool.or_eq_true,zE] at h1;rcases h1 with h1|h1
   ·omega
   ·obtain⟨t',ht',h3⟩:=List.any_eq_true.1 h1;simp only[zB,zE] at h3;obtain⟨o',ho',e,he,hb,hon⟩:=Region.waitsFor_spec h3.2;have:o'=ot:=Option.some.inj (ho'.symm.trans hot);subst this;have h2:=hall e he hb;rw[hon,getD_both (inv.tail t' h3.1 (by have:=List.mem_range.1 ht';omega))] at h2;cases h2
theorem qtP{i:Nat}{oi:Oper}{v:Value}(hi:ops[i]?=some oi)(hsel:∀(j:Nat) (o:Oper) cs b,ops[j]?=some o→o.op≠.select cs b)
  (hs:n=ops.size∨(Region.sinkB md ops n=true∧qve md ops n=true∧n<ops.size)) (hin:i<n)
  (hQ:∀c a w,Q (.panic c) (a.put oi.dst v) w→Q (.panic c) a w) :
  ∀(fuel:Nat) (listed:Array Bool) (a:Act) (w:World),HeadInv md ops n listed→
   (∀j oj,ops[j]?=some oj→j≠i→listed.getD j true=false→(∀e∈oj.after,Region.binds md e=true→e.on≠i)→oi.apart ops oj=true)→
   i∈Region.ready md ops listed→YieldsIf P ops S oi v a→S w→
   wpE P md ops Q S n fuel (listed.setIfInBounds i true) (a.put oi.dst v) w→wpE P md ops Q S n (fuel+1) listed a w:=by
 intro fuel;induction fuel with
 | zero=>
  intro listed a w _ _ hr hy hS H;refine⟨fun h=>(by rw[h] at hr;cases hr),fun j hj=>?_⟩;by_cases hji:j=i
  ·subst hji;exact hy.wpOp hi hS ⟨fun _=>hS,H⟩
  ·have:=ready_mono hj hji;rw[H.1] at this;cases this
 | succ fuel ih=>
  intro listed a w inv hfree hr hy hS H;have hun:=(mem_ready.1 hr).1;refine⟨fun h=>(by rw[h] at hr;cases hr),fun j hj=>?_⟩;by_cases hji:j=i
  ·subst hji;exact hy.wpOp hi hS ⟨fun _=>hS,H⟩
  ·have hjn:j<n:=by
    rcases Nat.lt_or_ge j n with h|h
    ·exact h
    ·rcases hs with hs|⟨hs,hc,hn⟩
     ·obtain⟨_,oj,hoj,_⟩:=mem_ready.1 hj;have:=(Array.getElem?_eq_some_iff.1 hoj).1;omega
     ·exact absurd hj (qop hs hc inv _ i rfl hin hun j h)
   have h1:=H.2 j (ready_mono hj hji);obtain⟨hjun,oj,hoj,hall⟩:=mem_ready.1 hj;have hnot:∀e∈oj.after,Region.binds md e=true→e.on≠i:=fun e he hb heq=>by
    have h1:=hall e he hb;rw[heq,getD_both hun] at h1;cases h1
   have h2:=wpOp_putIf hoj (hfree j oj hoj hji hjun hnot) (fun cs b=>hsel i oi cs b hi) (fun cs b=>hsel j oj cs b hoj) hQ hy h1;have hfree':∀k ok,ops[k]?=some ok→k≠i→(listed.setIfInBounds j true).getD k true=false→
     (∀e∈ok.after,Region.binds md e=true→e.on≠i)→oi.apart ops ok=true:=fun k ok hk hki hun hno=>by
    refine hfree k ok hk hki ?_ hno;by_cases hjk:j=k
    ·subst hjk;exact hjun
    ·rw[getD_set_ne true hjk] at hun;exact hun
   refine wpOp_mono (fun a' w' h3=>⟨h3.2.1,ih (listed.setIfInBounds j true) a' w' (inv.set hj hjn) hfree' (ready_mono hr (Ne.symm hji)) h3.1 (h3.2.1 hjn) ?_⟩) h2;rw[Array.setIfInBounds_comm _ _ hji];exact h3.2.2
def qs8(md:Region.Mode)(ops:Array Oper)(n:Nat)(listed:Array Bool):Bool:=
 decide (listed.size=ops.size)&&(((List.range ops.size).all fun j=>!listed.getD j false||((ops[j]?).map (·.after.all fun e=>!Region.binds md e||listed.getD e.on false)).getD true)&&((List.range ops.size).all fun t=>decide (t<n)||!listed.getD t true))
theorem qmW{listed:Array Bool}(h:qs8 md ops n listed=true):HeadInv md ops n listed:=by
 unfold qs8 at h;simp only[zB,zE,List.all_eq_true,List.mem_range] at h;obtain⟨h1,h2,h3⟩:=h;refine⟨h1,fun j oj hj hl e he hb=>?_,fun t ht ht'=>?_⟩
 ·have h4:=h2 j (Array.getElem?_eq_some_iff.1 hj).1;rw[hl,hj] at h4;simp only[Bool.not_true,Option.map_some,Option.getD_some,Bool.false_or] at h4;have h5:=Array.all_eq_true'.1 h4 e he;rw[hb] at h5;simpa using h5
 ·have h4:=h3 t ht';simp only[Bool.or_eq_true,zE,Bool.not_eq_true'] at h4;rcases h4 with h4|h4
  ·omega
  ·exact h4
def qfj(md:Region.Mode)(ops:Array Oper)(n:Nat)(listed:Array Bool)(i:Nat):Bool:=
 Region.noSelect ops&&((decide (n=ops.size)||(Region.sinkB md ops n&&(qve md ops n&&decide (n<ops.size))))&&(decide (i<n)&&(qs8 md ops n listed&&(Region.free md ops listed i&&(Region.ready md ops listed).contains i))))
theorem qhA(i:Nat){oi:Oper}{v:Value}{fuel:Nat}{listed:Array Bool}{a:Act}{w:World}(hi:ops[i]?=some oi)(hB:qfj md ops n listed i=true)
  (hQ:∀c a w,Q (.panic c) (a.put oi.dst v) w→Q (.panic c) a w) (hy:YieldsIf P ops S oi v a) (hS:S w)
  (h:wpE P md ops Q S n fuel (listed.setIfInBounds i true) (a.put oi.dst v) w):wpE P md ops Q S n (fuel+1) listed a w:=by
 unfold qfj at hB;simp only[zB,Bool.or_eq_true,zE] at hB;obtain⟨b1,b2,b5,b6,b7,b8⟩:=hB;exact qtP hi (Region.noSelect_spec b1) b2 b5 hQ fuel listed a w (qmW b6) (Region.free_spec hi b7) (by simpa using b8) hy hS h
def AllE(P:Program)(md:Region.Mode)(ops:Array Oper)(Q:Exit→Act→World→Prop)(S:World→Prop)(n fuel:Nat)(listed:Array Bool)(a:Act)(w:World)(rs:List Nat):Prop:=
 ∀i∈rs,wpOp P ops Q i (fun a' w'=>(i<n→S w')∧wpE P md ops Q S n fuel (listed.setIfInBounds i true) a' w') a w
theorem AllE.nil{fuel:Nat}{listed:Array Bool}{a:Act}{w:World}:AllE P md ops Q S n fuel listed a w []:=fun _ h=>by cases h
theorem AllE.cons{fuel:Nat}{listed:Array Bool}{a:Act}{w:World}{i:Nat}{o:Oper}{rs:List Nat}(ho:ops[i]?=some o)
  (h:∀K':Act→World→Prop,Shut (∀a w,S w→(S w→wpE P md ops Q S n fuel (listed.setIfInBounds i true) a w)→K' a w)→if Region.wanted o (yielded ops a.tmps)=true then Oper.wp P o a w K' Q else K' (a.put o.dst undef) w)
  (hs:AllE P md ops Q S n fuel listed a w rs):AllE P md ops Q S n fuel listed a w (i::rs):=fun j hj=>by
 rcases zC.1 hj with rfl|hj
 ·exact wpOp_step ho (fun K' hK=>h K' (fun a w hS hW=>hK a w ⟨fun _=>hS,hW hS⟩))
 ·exact hs j hj
theorem qcC(rs:List Nat){fuel:Nat}{listed:Array Bool}{a:Act}{w:World}(hr:Region.ready md ops listed=rs)(hne:rs≠[])
  (h:AllE P md ops Q S n fuel listed a w rs):wpE P md ops Q S n (fuel+1) listed a w:=⟨fun h0=>absurd (hr▸h0) hne,hr▸h⟩
theorem quu:∀(l:List Oper) (k:Nat) (listed:Array Bool) (a:Act) (w:World),(∀j,l[j]?=ops[k+j]?)→n≤k→
  Region.seqB md ops l.length k listed=true→wpList P ops Q l a w→wpE P md ops Q S n l.length listed a w
 | [],_,_,_,_,_,_,hB,h=>⟨by simpa[Region.seqB] using hB,h⟩
 | o::l,k,listed,a,w,hl,hnk,hB,h=>by
  have h0:ops[k]?=some o:=by simpa using (hl 0).symm
  simp only[zK,Region.seqB,zB,zE] at hB;refine⟨fun h1=>(by rw[hB.1] at h1;cases h1),fun i hi=>?_⟩;rw[hB.1] at hi;have hik:i=k:=by simpa using hi
  subst hik;have hw:wpOp P ops Q i (wpList P ops Q l) a w:=by unfold wpOp;simp only[h0];exact h
  exact wpOp_mono (fun a' w' h'=>⟨fun hlt=>by omega,quu l (i+1) _ a' w' (fun j=>by have:=hl (j+1);simpa[Nat.add_assoc,Nat.add_comm 1 j] using this) (by omega) hB.2 h'⟩) hw
theorem qp5{S':World→Prop}{n':Nat}:∀(fuel:Nat) (listed:Array Bool) (a:Act) (w:World),(∀i,i<n→listed.getD i true=true)→wpE P md ops Q S' n' fuel listed a w→wpE P md ops Q S n fuel listed a w
 | 0,_,_,_,_,h=>h
 | fuel+1,listed,a,w,hl,h=>by
  refine⟨h.1,fun i hi=>wpOp_mono (fun a' w' h'=>⟨fun hin=>?_,qp5 fuel _ a' w' (fun j hj=>?_) h'.2⟩) (h.2 i hi)⟩
  ·have:=(mem_ready.1 hi).1;rw[hl i hin] at this;cases this
  ·by_cases hji:i=j
   ·subst hji;have:=(mem_ready.1 hi).1;rw[hl i hj] at this;cases this
   ·rw[getD_set_ne true hji];exact hl j hj
def qvj(n:Nat)(listed:Array Bool):Bool:=(List.range n).all fun i=>listed.getD i true
theorem qhe(n':Nat)(S':World→Prop){fuel:Nat}{listed:Array Bool}{a:Act}{w:World}(hB:qvj n listed=true)(hS:S' w)(h:S' w→wpE P md ops Q S' n' fuel listed a w):wpE P md ops Q S n fuel listed a w:=
 qp5 fuel listed a w (fun i hi=>by
  unfold qvj at hB;exact List.all_eq_true.1 hB i (List.mem_range.2 hi)) (h hS)
theorem qtZ{l:List Oper}{fuel:Nat}{listed:Array Bool}{a:Act}{w:World}(hf:(l.drop n).length=fuel)(hB:Region.seqB md l.toArray (l.drop n).length n listed=true)
  (h:wpList P l.toArray Q (l.drop n) a w):wpE P md l.toArray Q S n fuel listed a w:=by
 subst hf;exact quu (l.drop n) n listed a w (fun j=>by simp) (zR _) hB h
theorem quV{fuel:Nat}{listed:Array Bool}{a:Act}{w:World}(hr:Region.ready md ops listed=[])(hf:fuel=0)(h:Q .normal a w):wpE P md ops Q S n fuel listed a w:=by
 subst hf;exact⟨hr,h⟩
theorem qtR(n:Nat)(S:World→Prop){id:Nat}{a:Act}{w:World}(hm:P.follows .mixedOrders=true)(hS:S w.drew)
  (h:S w.drew→wpE P .any ops Q S n ops.size (Array.replicate ops.size false) a w.drew):(Code.region id ops true).wp P Q a w:=
 wp_region_any hm (qmc _ _ _ _ (h hS))
end
end Go.Proofs.YtponbabbabnaeaaGreat

namespace Go.Proofs.YtponbabbabnaeaaGreat
theorem aP1 {α : Type} {l : List α} {i : Nat} {a : α} : l.toArray.setIfInBounds i a = (l.set i a).toArray := List.setIfInBounds_toArray ..
theorem aP2 {α : Type} {a b : α} {l : List α} : (a :: l).set 0 b = b :: l := rfl
theorem aP3 {α : Type} {a b : α} {l : List α} {n : Nat} : (a :: l).set (n + 1) b = a :: l.set n b := rfl
section
variable {P : Program} {ops : Array Oper} {Q : Exit → Act → World → Prop} {md : Region.Mode} {S : World → Prop} {n : Nat}
theorem E_t (i d : Nat) {oi : Oper} {v : Value} {fuel : Nat} {listed : Array Bool} {a a' : Act} {w : World} (h : wpE P md ops Q S n fuel (listed.setIfInBounds i true) a' w)
    (hi : ops[i]? = some oi := by rfl) (hd : oi.dst = some d := by rfl) (hB : qfj md ops n listed i = true := by kernel_rfl) (hy : ∀ w9, S w9 → (execOp a.eval oi).run P w9 = .ok (.value v) w9 := by intro w9 hSw; (try dsimp only at hSw); go_simp <;> with_reducible rfl)
    (ha : a.put (some d) v = a' := by simp only [Act.put, aP1, aP2, aP3] <;> rfl) (hQ : ∀ c a w, Q (.panic c) (a.put oi.dst v) w → Q (.panic c) a w := by exact fun _ _ _ h => h)
    (hw : Region.wanted oi (yielded ops a.tmps) = true := by rfl) (hS : S w := by assumption) : wpE P md ops Q S n (fuel + 1) listed a w := by
  subst ha; rw [← hd] at h; exact qhA i hi hB hQ (Or.inl ⟨hw, hy⟩) hS h
theorem E_r (i : Nat) (d : Option Nat) {x1 : Op} {x2 : TypeId} {x3 : String} {x4 : Array Edge} {x5 : Option (Tmp × Bool)} {fuel : Nat} {listed : Array Bool} {a : Act} {w : World}
    (h : ∀ K' : Act → World → Prop, Shut (∀ a w, S w → (S w → wpE P md ops Q S n fuel (listed.setIfInBounds i true) a w) → K' a w) → if Region.wanted ⟨d, x1, x2, x3, x4, x5⟩ (yielded ops a.tmps) = true then Oper.wp P ⟨d, x1, x2, x3, x4, x5⟩ a w K' Q else K' (a.put d undef) w)
    (hr : Region.ready md ops listed = [i] := by kernel_rfl) (ho : ops[i]? = some ⟨d, x1, x2, x3, x4, x5⟩ := by rfl) : wpE P md ops Q S n (fuel + 1) listed a w := qcC [i] hr (by simp) (AllE.cons ho h AllE.nil)
theorem E_s (i d : Nat) {oi : Oper} {fuel : Nat} {listed : Array Bool} {a a' : Act} {w : World} (h : wpE P md ops Q S n fuel (listed.setIfInBounds i true) a' w)
    (hi : ops[i]? = some oi := by rfl) (hd : oi.dst = some d := by rfl) (hB : qfj md ops n listed i = true := by kernel_rfl)
    (ha : a.put (some d) undef = a' := by simp only [Act.put, aP1, aP2, aP3] <;> rfl) (hQ : ∀ c a w, Q (.panic c) (a.put oi.dst undef) w → Q (.panic c) a w := by exact fun _ _ _ h => h)
    (hw : Region.wanted oi (yielded ops a.tmps) = false := by rfl) (hS : S w := by assumption) : wpE P md ops Q S n (fuel + 1) listed a w := by
  subst ha; rw [← hd] at h; exact qhA i hi hB hQ (Or.inr ⟨hw, rfl⟩) hS h
theorem E_t2 (i d : Nat) {o0 : Oper} {v0 : Value} {a1 : Act} {o1 : Oper} {v1 : Value} {a2 : Act} {fuel : Nat} {listed : Array Bool} {a0 : Act} {w : World} (h : wpE P md ops Q S n fuel ((listed.setIfInBounds i true).setIfInBounds (i + 1) true) a2 w)
    (hi0 : ops[i]? = some o0 := by rfl) (hd0 : o0.dst = some d := by rfl) (hB0 : qfj md ops n listed i = true := by kernel_rfl) (hy0 : ∀ w9, S w9 → (execOp a0.eval o0).run P w9 = .ok (.value v0) w9 := by intro w9 hSw; (try dsimp only at hSw); go_simp <;> with_reducible rfl) (ha0 : a0.put (some d) v0 = a1 := by simp only [Act.put, aP1, aP2, aP3] <;> rfl) (hQ0 : ∀ c a w, Q (.panic c) (a.put o0.dst v0) w → Q (.panic c) a w := by exact fun _ _ _ h => h) (hw0 : Region.wanted o0 (yielded ops a0.tmps) = true := by rfl)
    (hi1 : ops[(i + 1)]? = some o1 := by rfl) (hd1 : o1.dst = some (d + 1) := by rfl) (hB1 : qfj md ops n (listed.setIfInBounds i true) (i + 1) = true := by kernel_rfl) (hy1 : ∀ w9, S w9 → (execOp a1.eval o1).run P w9 = .ok (.value v1) w9 := by intro w9 hSw; (try dsimp only at hSw); go_simp <;> with_reducible rfl) (ha1 : a1.put (some (d + 1)) v1 = a2 := by simp only [Act.put, aP1, aP2, aP3] <;> rfl) (hQ1 : ∀ c a w, Q (.panic c) (a.put o1.dst v1) w → Q (.panic c) a w := by exact fun _ _ _ h => h) (hw1 : Region.wanted o1 (yielded ops a1.tmps) = true := by rfl)
    (hS : S w := by assumption) : wpE P md ops Q S n (fuel + 2) listed a0 w := E_t i d (v := v0) (a' := a1) (E_t (i + 1) (d + 1) (v := v1) (a' := a2) (h) hi1 hd1 hB1 hy1 ha1 hQ1 hw1 hS) hi0 hd0 hB0 hy0 ha0 hQ0 hw0 hS
theorem E_t4 (i d : Nat) {o0 : Oper} {v0 : Value} {a1 : Act} {o1 : Oper} {v1 : Value} {a2 : Act} {o2 : Oper} {v2 : Value} {a3 : Act} {o3 : Oper} {v3 : Value} {a4 : Act} {fuel : Nat} {listed : Array Bool} {a0 : Act} {w : World} (h : wpE P md ops Q S n fuel ((((listed.setIfInBounds i true).setIfInBounds (i + 1) true).setIfInBounds (i + 2) true).setIfInBounds (i + 3) true) a4 w)
    (hi0 : ops[i]? = some o0 := by rfl) (hd0 : o0.dst = some d := by rfl) (hB0 : qfj md ops n listed i = true := by kernel_rfl) (hy0 : ∀ w9, S w9 → (execOp a0.eval o0).run P w9 = .ok (.value v0) w9 := by intro w9 hSw; (try dsimp only at hSw); go_simp <;> with_reducible rfl) (ha0 : a0.put (some d) v0 = a1 := by simp only [Act.put, aP1, aP2, aP3] <;> rfl) (hQ0 : ∀ c a w, Q (.panic c) (a.put o0.dst v0) w → Q (.panic c) a w := by exact fun _ _ _ h => h) (hw0 : Region.wanted o0 (yielded ops a0.tmps) = true := by rfl)
    (hi1 : ops[(i + 1)]? = some o1 := by rfl) (hd1 : o1.dst = some (d + 1) := by rfl) (hB1 : qfj md ops n (listed.setIfInBounds i true) (i + 1) = true := by kernel_rfl) (hy1 : ∀ w9, S w9 → (execOp a1.eval o1).run P w9 = .ok (.value v1) w9 := by intro w9 hSw; (try dsimp only at hSw); go_simp <;> with_reducible rfl) (ha1 : a1.put (some (d + 1)) v1 = a2 := by simp only [Act.put, aP1, aP2, aP3] <;> rfl) (hQ1 : ∀ c a w, Q (.panic c) (a.put o1.dst v1) w → Q (.panic c) a w := by exact fun _ _ _ h => h) (hw1 : Region.wanted o1 (yielded ops a1.tmps) = true := by rfl)
    (hi2 : ops[(i + 2)]? = some o2 := by rfl) (hd2 : o2.dst = some (d + 2) := by rfl) (hB2 : qfj md ops n ((listed.setIfInBounds i true).setIfInBounds (i + 1) true) (i + 2) = true := by kernel_rfl) (hy2 : ∀ w9, S w9 → (execOp a2.eval o2).run P w9 = .ok (.value v2) w9 := by intro w9 hSw; (try dsimp only at hSw); go_simp <;> with_reducible rfl) (ha2 : a2.put (some (d + 2)) v2 = a3 := by simp only [Act.put, aP1, aP2, aP3] <;> rfl) (hQ2 : ∀ c a w, Q (.panic c) (a.put o2.dst v2) w → Q (.panic c) a w := by exact fun _ _ _ h => h) (hw2 : Region.wanted o2 (yielded ops a2.tmps) = true := by rfl)
    (hi3 : ops[(i + 3)]? = some o3 := by rfl) (hd3 : o3.dst = some (d + 3) := by rfl) (hB3 : qfj md ops n (((listed.setIfInBounds i true).setIfInBounds (i + 1) true).setIfInBounds (i + 2) true) (i + 3) = true := by kernel_rfl) (hy3 : ∀ w9, S w9 → (execOp a3.eval o3).run P w9 = .ok (.value v3) w9 := by intro w9 hSw; (try dsimp only at hSw); go_simp <;> with_reducible rfl) (ha3 : a3.put (some (d + 3)) v3 = a4 := by simp only [Act.put, aP1, aP2, aP3] <;> rfl) (hQ3 : ∀ c a w, Q (.panic c) (a.put o3.dst v3) w → Q (.panic c) a w := by exact fun _ _ _ h => h) (hw3 : Region.wanted o3 (yielded ops a3.tmps) = true := by rfl)
    (hS : S w := by assumption) : wpE P md ops Q S n (fuel + 4) listed a0 w := E_t i d (v := v0) (a' := a1) (E_t (i + 1) (d + 1) (v := v1) (a' := a2) (E_t (i + 2) (d + 2) (v := v2) (a' := a3) (E_t (i + 3) (d + 3) (v := v3) (a' := a4) (h) hi3 hd3 hB3 hy3 ha3 hQ3 hw3 hS) hi2 hd2 hB2 hy2 ha2 hQ2 hw2 hS) hi1 hd1 hB1 hy1 ha1 hQ1 hw1 hS) hi0 hd0 hB0 hy0 ha0 hQ0 hw0 hS
theorem E_s2 (i d : Nat) {o0 : Oper} {a1 : Act} {o1 : Oper} {a2 : Act} {fuel : Nat} {listed : Array Bool} {a0 : Act} {w : World} (h : wpE P md ops Q S n fuel ((listed.setIfInBounds i true).setIfInBounds (i + 1) true) a2 w)
    (hi0 : ops[i]? = some o0 := by rfl) (hd0 : o0.dst = some d := by rfl) (hB0 : qfj md ops n listed i = true := by kernel_rfl) (ha0 : a0.put (some d) undef = a1 := by simp only [Act.put, aP1, aP2, aP3] <;> rfl) (hQ0 : ∀ c a w, Q (.panic c) (a.put o0.dst undef) w → Q (.panic c) a w := by exact fun _ _ _ h => h) (hw0 : Region.wanted o0 (yielded ops a0.tmps) = false := by rfl)
    (hi1 : ops[(i + 1)]? = some o1 := by rfl) (hd1 : o1.dst = some (d + 1) := by rfl) (hB1 : qfj md ops n (listed.setIfInBounds i true) (i + 1) = true := by kernel_rfl) (ha1 : a1.put (some (d + 1)) undef = a2 := by simp only [Act.put, aP1, aP2, aP3] <;> rfl) (hQ1 : ∀ c a w, Q (.panic c) (a.put o1.dst undef) w → Q (.panic c) a w := by exact fun _ _ _ h => h) (hw1 : Region.wanted o1 (yielded ops a1.tmps) = false := by rfl)
    (hS : S w := by assumption) : wpE P md ops Q S n (fuel + 2) listed a0 w := E_s i d (a' := a1) (E_s (i + 1) (d + 1) (a' := a2) (h) hi1 hd1 hB1 ha1 hQ1 hw1 hS) hi0 hd0 hB0 ha0 hQ0 hw0 hS
theorem E_s4 (i d : Nat) {o0 : Oper} {a1 : Act} {o1 : Oper} {a2 : Act} {o2 : Oper} {a3 : Act} {o3 : Oper} {a4 : Act} {fuel : Nat} {listed : Array Bool} {a0 : Act} {w : World} (h : wpE P md ops Q S n fuel ((((listed.setIfInBounds i true).setIfInBounds (i + 1) true).setIfInBounds (i + 2) true).setIfInBounds (i + 3) true) a4 w)
    (hi0 : ops[i]? = some o0 := by rfl) (hd0 : o0.dst = some d := by rfl) (hB0 : qfj md ops n listed i = true := by kernel_rfl) (ha0 : a0.put (some d) undef = a1 := by simp only [Act.put, aP1, aP2, aP3] <;> rfl) (hQ0 : ∀ c a w, Q (.panic c) (a.put o0.dst undef) w → Q (.panic c) a w := by exact fun _ _ _ h => h) (hw0 : Region.wanted o0 (yielded ops a0.tmps) = false := by rfl)
    (hi1 : ops[(i + 1)]? = some o1 := by rfl) (hd1 : o1.dst = some (d + 1) := by rfl) (hB1 : qfj md ops n (listed.setIfInBounds i true) (i + 1) = true := by kernel_rfl) (ha1 : a1.put (some (d + 1)) undef = a2 := by simp only [Act.put, aP1, aP2, aP3] <;> rfl) (hQ1 : ∀ c a w, Q (.panic c) (a.put o1.dst undef) w → Q (.panic c) a w := by exact fun _ _ _ h => h) (hw1 : Region.wanted o1 (yielded ops a1.tmps) = false := by rfl)
    (hi2 : ops[(i + 2)]? = some o2 := by rfl) (hd2 : o2.dst = some (d + 2) := by rfl) (hB2 : qfj md ops n ((listed.setIfInBounds i true).setIfInBounds (i + 1) true) (i + 2) = true := by kernel_rfl) (ha2 : a2.put (some (d + 2)) undef = a3 := by simp only [Act.put, aP1, aP2, aP3] <;> rfl) (hQ2 : ∀ c a w, Q (.panic c) (a.put o2.dst undef) w → Q (.panic c) a w := by exact fun _ _ _ h => h) (hw2 : Region.wanted o2 (yielded ops a2.tmps) = false := by rfl)
    (hi3 : ops[(i + 3)]? = some o3 := by rfl) (hd3 : o3.dst = some (d + 3) := by rfl) (hB3 : qfj md ops n (((listed.setIfInBounds i true).setIfInBounds (i + 1) true).setIfInBounds (i + 2) true) (i + 3) = true := by kernel_rfl) (ha3 : a3.put (some (d + 3)) undef = a4 := by simp only [Act.put, aP1, aP2, aP3] <;> rfl) (hQ3 : ∀ c a w, Q (.panic c) (a.put o3.dst undef) w → Q (.panic c) a w := by exact fun _ _ _ h => h) (hw3 : Region.wanted o3 (yielded ops a3.tmps) = false := by rfl)
    (hS : S w := by assumption) : wpE P md ops Q S n (fuel + 4) listed a0 w := E_s i d (a' := a1) (E_s (i + 1) (d + 1) (a' := a2) (E_s (i + 2) (d + 2) (a' := a3) (E_s (i + 3) (d + 3) (a' := a4) (h) hi3 hd3 hB3 ha3 hQ3 hw3 hS) hi2 hd2 hB2 ha2 hQ2 hw2 hS) hi1 hd1 hB1 ha1 hQ1 hw1 hS) hi0 hd0 hB0 ha0 hQ0 hw0 hS
theorem E_e {fuel : Nat} {listed : Array Bool} {a : Act} {w : World} (h : Q .normal a w) (hr : Region.ready md ops listed = [] := by kernel_rfl) (hf : fuel = 0 := by rfl) : wpE P md ops Q S n fuel listed a w := quV hr hf h
theorem E_l {l : List Oper} {fuel : Nat} {listed : Array Bool} {a : Act} {w : World} (h : wpList P l.toArray Q (l.drop n) a w) (hf : (l.drop n).length = fuel := by rfl) (hB : Region.seqB md l.toArray (l.drop n).length n listed = true := by kernel_rfl) : wpE P md l.toArray Q S n fuel listed a w := qtZ hf hB h
theorem E_g (n : Nat) (S : World → Prop) {id : Nat} {a : Act} {w : World} (hS : S w.drew) (h : S w.drew → wpE P .any ops Q S n ops.size (Array.replicate ops.size false) a w.drew) (hm : P.follows .mixedOrders = true := by kernel_rfl) : (Code.region id ops true).wp P Q a w := qtR n S hm hS h
end
end Go.Proofs.YtponbabbabnaeaaGreat
namespace Go.Proofs.YtponbabbabnaeaaGreat
open Go.RowKit
theorem qgn {P : Prop} (h : P := by
 go_wp2;(try simp only[Exit.inBlock,Exit.then]);refine bodyPost_ret (qe4 rfl _ _ _) rfl ?_
 exact qmB _ HF.out (Ext.refl _)) : P := h
def qvk(r:List UInt8×Nat×Int):Ending:=.returned (.tuple #[.string (qaF r.1),.int .i64 (r.2.1:Int),.int .i64 r.2.2])
theorem qnd(A:Option Addr)(c:Nat)(bs:List UInt8)(m:Nat)(w:World)(h:Row w A (qac bs))(hc:bs.length≤c)(hl:bs.length≤1000000000)(hm:m≤1000000000) :
  Calls Tryz.prog 184 #[.slice A bs.length c,Jq (m:Int)] w fun e w'=>e=qvk (qlE bs m)∧w=w':=by
 have H:=hJ h;clear h;have hin:=qgq bs m;obtain⟨⟨size,n,er⟩,hd⟩:∃r,qdE bs m=r:=⟨_,rfl⟩;have HD:=hJ hd;rw[hd] at hin;clear hd;have hz:er=0→size≤m∧n≤bs.length:=fun _=>hin;by_cases he:er=0
 ·subst he;simp only at hin;obtain⟨h1,h2⟩:=hin;by_cases hs:bs.length - n<size
  ·have HF:Hid (qlE bs m=([],0,2)):=hJ (by unfold qlE;rw[HD.out];simp only[ne_eq,not_true_eq_false,if_false];rw[if_pos hs]);have hd:decide ((bs.length:Int) - (n:Int)<(size:Int))=true:=by simp;omega
   go_enter Tryz.func184,Tryz.ntmps184;go_wp2_with fail;refine(qdb A c bs m w H.out hl hm).mono ?_;rintro e w' ⟨rfl,rfl⟩;rw[HD.out];unfold qjM;go_wp2;go_ret3
   refine⟨?_,rfl⟩;rw[HF.out];rfl
  ·have HF:Hid (qlE bs m=((bs.drop n).take size,n+size,0)):=hJ (by unfold qlE;rw[HD.out];simp only[ne_eq,not_true_eq_false,if_false];rw[if_neg hs]);have hd:decide ((bs.length:Int) - (n:Int)<(size:Int))=false:=by simp;omega
   have hsl:∀W,(Instr.slice 29 (.slice A bs.length c) (some (Jq (n:Int))) (some (Jq ((n:Int)+(size:Int)))) none).run Tryz.prog W=.ok (.slice (qdk A n c 1) size (c - n)) W:=fun W=>by
    have:=qo7.slice_lh A bs.length c n (n+size) (n:Int) ((n:Int)+(size:Int)) rfl (by omega) (by omega) (by omega) W;rw[show n+size - n=size by omega] at this;exact this
   have hcv:(convert 29 9 (.slice (qdk A n c 1) size (c - n))).run Tryz.prog w=.ok (.string (qaF ((bs.drop n).take size))) w:=
    qek _ _ (qde (by have:=Elem.row_sub (qd9 H.out) hc n (n+size);rw[List.drop_take,show n+size - n=size by omega] at this;exact this)) (by rw[zT,zD];omega)
   go_enter Tryz.func184,Tryz.ntmps184;go_wp2_with fail;refine(qdb A c bs m w H.out hl hm).mono ?_;rintro e w' ⟨rfl,rfl⟩;rw[HD.out];unfold qjM;go_wp2;go_ret3
   refine⟨?_,rfl⟩;rw[HF.out];rfl
 ·have HF:Hid (qlE bs m=([],0,er)):=hJ (by unfold qlE;rw[HD.out];simp only[ne_eq];rw[if_pos he]);have hb:(er != 0)=true:=by simpa using he
  go_enter Tryz.func184,Tryz.ntmps184;go_wp2_with fail;refine(qdb A c bs m w H.out hl hm).mono ?_;rintro e w' ⟨rfl,rfl⟩;rw[HD.out];unfold qjM;go_wp2;go_ret3
  refine⟨?_,rfl⟩;rw[HF.out];rfl
-- OPEN
def qvh(w:World)(r:Int×List UInt8×Nat×Int)(en:Ending)(w':World):Prop:=
 ∃A c,en=.returned (.tuple #[Jq r.1,.slice A r.2.1.length c,Jq (r.2.2.1:Int),Jq r.2.2.2])∧r.2.1.length≤c∧c≤maxLen∧Own w' w.heap.size 5 (.slice A r.2.1.length c) (qac r.2.1)∧Ext w w'
theorem qmB{w w':World}{r:Int×List UInt8×Nat×Int}(er:Int)(h:r=(0,[],0,er))(hx:Ext w w'):qvh w r (.returned (.tuple #[Jq 0,Zq,Jq 0,Jq er])) w':=by
 subst h;exact⟨none,0,rfl,zR _,zO _,Own.nil _ _ _,hx⟩
theorem zW{w:World}:Ext w w.drew:=(Ext.refl w).drew
theorem qe4{fn:Func}{t u v x:Tmp}(h:fn.results=#[.tmp t,.tmp u,.tmp v,.tmp x])(tmps:Array Value)(P:Program)(w:World) :
  (results fn tmps).run P w=.ok (.tuple #[tmps.getD t undef,tmps.getD u undef,tmps.getD v undef,tmps.getD x undef]) w:=by
 simp[results,h]
theorem qgu(A:Option Addr)(c k:Nat)(bs:List UInt8)(m:Nat)(w:World)(h:Row w A (qac bs))(hl:bs.length≤1000000000)(hm:m≤1000000000)(hk:k=bs.length) :
  Calls Tryz.prog 181 #[.slice A k c,Jq (m:Int)] w fun e w'=>e=qjM (((qdE bs m).1:Int),(qdE bs m).2.1,(qdE bs m).2.2)∧w=w':=by subst hk;exact qdb A c bs m w h hl hm
theorem qkf(A:Option Addr)(c k:Nat)(bs:List UInt8)(w:World)(h:Row w A (qac bs))(hl:bs.length≤1000000000)(hk:k=bs.length) :
  Calls Tryz.prog 175 #[.slice A k c] w fun e w'=>e=.returned (.int .u32 (qgM bs:Int))∧w=w':=by subst hk;exact qg1 A c bs w h hl
theorem qnh(A:Option Addr)(c k:Nat)(bs:List UInt8)(n:Nat)(w:World)(h:Row w A (qac bs))(hl:bs.length≤1000000000)(hn:n≤1000000000)(hk:k=bs.length) :
  Calls Tryz.prog 122 #[.slice A k c,Jq (n:Int)] w (GivesB w bs):=by subst hk;exact qdg A c bs n w h hl hn
theorem qk7{x:UInt8}{n:Nat}(h:x≠UInt8.ofNat n):((x.toNat:Int) != (n:Int))=true:=by
 simp only[bne_iff_ne,ne_eq];intro e;apply h;have:x.toNat=n:=by omega
 rw[←this];simp
theorem qdA(A:Option Addr)(c:Nat)(bs:List UInt8)(w:World)(h:Row w A (qac bs))(hc:bs.length≤c)(hl:bs.length≤1000000) :
  Calls Tryz.prog 137 #[.slice A bs.length c] w (qvh w (qeN bs)):=by
 have H:=hJ h;clear h;by_cases h3:bs.length<3
 ·have HF:Hid (qeN bs=(0,[],0,2)):=hJ (by unfold qeN;rw[if_pos h3]);go_enter Tryz.func137,Tryz.ntmps137;exact qgn
 ·obtain⟨b,off,x0,rfl,k0,HX0⟩:=H.out.byte (k:=0) (by omega);obtain⟨b',off',x1,hA1,k1,HX1⟩:=H.out.byte (k:=1) (by omega);obtain⟨b2,off2,x2,hA2,k2,HX2⟩:=H.out.byte (k:=2) (by omega);cases hA1;cases hA2;rw[Nat.add_zero] at k0;by_cases g:x0≠65∨x1≠71∨x2=0
  ·have HF:Hid (qeN bs=(0,[],0,3)):=hJ (by
    unfold qeN;rw[if_neg h3,if_pos];rw[HX0.out,HX1.out,HX2.out];simpa using g)
   by_cases g0:x0=65
   ·subst g0;have k0':w.cell? (Pq b off)=some (.int .u8 65):=k0;by_cases g1:x1=71
    ·subst g1;have k1':w.cell? (Pq b (off+1))=some (.int .u8 71):=k1;have g2:x2=0:=by simpa using g
     subst g2;have k2':w.cell? (Pq b (off+2))=some (.int .u8 0):=k2;clear k0 k1 k2 g;go_enter Tryz.func137,Tryz.ntmps137;exact qgn
    ·have hb:((x1.toNat:Int) != 71)=true:=qk7 (n:=71) g1;clear k0 k2 g;go_enter Tryz.func137,Tryz.ntmps137;exact qgn
   ·have hb:((x0.toNat:Int) != 65)=true:=qk7 (n:=65) g0;clear k1 k2 g;go_enter Tryz.func137,Tryz.ntmps137;exact qgn
  ·simp only[ne_eq,not_or,Classical.not_not] at g;obtain⟨g0,g1,g2⟩:=g;subst g0 g1;have k0':w.cell? (Pq b off)=some (.int .u8 65):=k0;have k1':w.cell? (Pq b (off+1))=some (.int .u8 71):=k1;have hb2:((x2.toNat:Int) == 0)=false:=by
    have:=qk7 (n:=0) g2;simpa using this
   clear k0 k1;have hsl3:∀W,(Instr.slice 29 (.slice (some (Pq b off)) bs.length c) (some (Jq 3)) none none).run Tryz.prog W=.ok (.slice (qdk (some (Pq b off)) 3 c 1) (bs.length - 3) (c - 3)) W:=fun W=>qo7.slice_l (some (Pq b off)) bs.length c 3 3 rfl (by omega) W;have HR3:Hid (Row w (qdk (some (Pq b off)) 3 c 1) (qac (bs.drop 3))):=hJ (qde (Elem.row_from (qd9 H.out) hc 3));have hlen3:(bs.drop 3).length=bs.length - 3:=zD;have hin:=qgq (bs.drop 3) 16777216;have HOP:Hid (∀d,qdE (bs.drop 3) 16777216=d→qeN bs=if d.2.2≠0 then (0,[],0,d.2.2) else if bs.length - (3+d.2.1)<d.1+4 then (0,[],0,2) else if le4 (qgM (bs.take (3+d.2.1+d.1)))≠(bs.drop (3+d.2.1+d.1)).take 4 then (0,[],0,4) else ((x2.toNat:Int),(bs.take (3+d.2.1+d.1)).drop (3+d.2.1),3+d.2.1+d.1+4,0)):=hJ (by
    intro d hd;subst hd;unfold qeN;rw[if_neg h3,if_neg (by rw[HX0.out,HX1.out,HX2.out];simpa using g2),HX2.out];rfl)
   obtain⟨⟨size,n,er⟩,hd⟩:∃r,qdE (bs.drop 3) 16777216=r:=⟨_,rfl⟩;have HD:=hJ hd;have HO2:=hJ (HOP.out _ hd);rw[hd,hlen3] at hin;clear hd HOP g2 HX0 HX1;simp only at hin;obtain⟨hi1,hi2⟩:=hin;by_cases he:er=0
   ·subst he;have HO3:Hid (qeN bs=if bs.length - (3+n)<size+4 then (0,[],0,2) else if le4 (qgM (bs.take (3+n+size)))≠(bs.drop (3+n+size)).take 4 then (0,[],0,4) else ((x2.toNat:Int),(bs.take (3+n+size)).drop (3+n),3+n+size+4,0)):=hJ (by rw[HO2.out];simp only[ne_eq,not_true_eq_false,if_false]);clear HO2;by_cases hs:bs.length - (3+n)<size+4
    ·have HF:Hid (qeN bs=(0,[],0,2)):=hJ (by rw[HO3.out,if_pos hs]);have hdd:decide ((bs.length:Int) - (3+(n:Int))<(size:Int)+4)=true:=by simp;omega
     clear HO3;go_enter Tryz.func137,Tryz.ntmps137;go_wp2_with fail;refine(qgu _ _ _ (bs.drop 3) 16777216 w HR3.out (by omega) (by omega) hlen3.symm).mono ?_;rintro e w' ⟨rfl,rfl⟩;rw[HD.out];unfold qjM;exact qgn
    ·have hdd:decide ((bs.length:Int) - (3+(n:Int))<(size:Int)+4)=false:=by simp;omega
     have hsl1:∀W,(Instr.slice 29 (.slice (some (Pq b off)) bs.length c) none (some (Jq (3+(n:Int)+(size:Int)))) none).run Tryz.prog W=.ok (.slice (some (Pq b off)) (3+n+size) c) W:=fun W=>qo7.slice_h (some (Pq b off)) bs.length c (3+n+size) _ (by omega) (by omega) W;have hsl2:∀W,(Instr.slice 29 (.slice (some (Pq b off)) bs.length c) (some (Jq (3+(n:Int)+(size:Int)))) (some (Jq (3+(n:Int)+(size:Int)+4))) none).run Tryz.prog W=.ok (.slice (qdk (some (Pq b off)) (3+n+size) c 1) 4 (c - (3+n+size))) W:=fun W=>by
      have:=qo7.slice_lh (some (Pq b off)) bs.length c (3+n+size) (3+n+size+4) (3+(n:Int)+(size:Int)) (3+(n:Int)+(size:Int)+4) (by omega) (by omega) (by omega) (by omega) W;rw[show 3+n+size+4 - (3+n+size)=4 by omega] at this;exact this
     have hcv1:∀W,Row W (some (Pq b off)) (qac bs)→(convert 29 9 (.slice (qdk (some (Pq b off)) (3+n+size) c 1) 4 (c - (3+n+size)))).run Tryz.prog W=.ok (.string (qaF ((bs.drop (3+n+size)).take 4))) W:=fun W hW=>
      qek _ _ (qde (by have:=Elem.row_sub (qd9 hW) hc (3+n+size) (3+n+size+4);rw[List.drop_take,show 3+n+size+4 - (3+n+size)=4 by omega] at this;exact this)) (by rw[zT,zD];omega)
     have hw4:IntKind.i64.wrap (3+(n:Int)+(size:Int)+4)=3+(n:Int)+(size:Int)+4:=IntWalk.i64_in _ (by omega);have hk2:∀W,Row W (some (Pq b off)) (qac bs)→W.cell? (Pq b (off+2))=some (.int .u8 (x2.toNat:Int)):=fun W hW=>by
      obtain⟨b3,off3,x3,hA3,k3,HX3⟩:=hW.byte (k:=2) (by omega);cases hA3;have:=HX3.out.symm.trans HX2.out;cases this;exact k3
     have hR2:Hid (Row w (qdk (some (Pq b off)) (3+n) c 1) (qac ((bs.take (3+n+size)).drop (3+n)))):=hJ (qde (Elem.row_sub (qd9 H.out) hc (3+n) (3+n+size)));have hsl5:∀W,(Instr.slice 29 (.slice (some (Pq b off)) bs.length c) (some (Jq (3+(n:Int)))) (some (Jq (3+(n:Int)+(size:Int)))) none).run Tryz.prog W=.ok (.slice (qdk (some (Pq b off)) (3+n) c 1) size (c - (3+n))) W:=fun W=>by
      have:=qo7.slice_lh (some (Pq b off)) bs.length c (3+n) (3+n+size) (3+(n:Int)) (3+(n:Int)+(size:Int)) (by omega) (by omega) (by omega) (by omega) W;rw[show 3+n+size - (3+n)=size by omega] at this;exact this
     have hR1:Hid (Row w.drew (some (Pq b off)) (qac (bs.take (3+n+size)))):=hJ ((qde (Elem.row_upto (qd9 H.out) _)).ext zW);go_enter Tryz.func137,Tryz.ntmps137;go_wp2_with fail;refine(qgu _ _ _ (bs.drop 3) 16777216 w HR3.out (by omega) (by omega) hlen3.symm).mono ?_;rintro e w' ⟨rfl,rfl⟩;rw[HD.out];unfold qjM;go_wp2;refine E_g 13 (fun w'=>Row w' (some (Pq b off)) (qac bs)) (H.out.ext zW) (fun yH=>?_);refine E_t2 0 53 ?_;refine E_t 2 55 ?_;refine E_t4 6 59 ?_;refine E_t 10 63 ?_;refine qhA 11 (oi:=⟨some 64,_,_,_,_,_⟩) (v:=?_) rfl (by kernel_rfl) (fun _ _ _ h=>h) (Or.inl ⟨by rfl,?_⟩) (by assumption) ?_;rotate_left
     ·(intro w9 hSw;(try dsimp only at hSw);have hq:=hcv1 w9 hSw;go_simp<;>with_reducible rfl)
     try simp only[Act.put,aP1,aP2,aP3]
     refine E_r 3 (some 56) fun K hK=>?_;go_simp;go_at_call 175;refine(qkf (some (Pq b off)) c (3+n+size) (bs.take (3+n+size)) _ hR1.out (by rw[zT];omega) (by rw[zT];omega)).mono ?_;rintro e1 w1 ⟨rfl,rfl⟩;clear yH;refine hK.out _ _ (H.out.ext zW) (fun yH=>?_);clear hK K;try simp only[Act.put,aP1,aP2,aP3]
     refine E_r 4 (some 57) fun K hK=>?_;go_simp;go_at_call 174;refine(qlX w.heap.size _ [] (qgM (bs.take (3+n+size))) _ (Own.nil _ _ _) (by simp) (by simp)).mono ?_;rintro e2 w2 ⟨v2,rfl,ho2,hg2⟩;have X2:Hid (Ext w w2):=hJ (hg2.below zW (zR _) (fun k hk=>by simp[Value.ownBlock] at hk));obtain⟨A2,c2,rfl,h21,h22,HR2⟩:∃A c',v2=.slice A 4 c'∧4≤c'∧c'≤maxLen∧Hid (Row w2 A (qac (le4 (qgM (bs.take (3+n+size)))))):=(by obtain⟨A,c',h1,h2,h3,h4⟩:=ho2.slice;exact⟨A,c',h1,h2,h3,hJ h4⟩);have hcv2:=qek c2 4 HR2.out rfl;clear ho2 hg2;clear yH;refine hK.out _ _ (H.out.ext X2.out) (fun yH=>?_);clear hK K;try simp only[Act.put,aP1,aP2,aP3]
     refine E_r 5 (some 58) fun K hK=>?_;go_simp;clear yH;refine hK.out _ _ (H.out.ext X2.out) (fun yH=>?_);clear hK K;try simp only[Act.put,aP1,aP2,aP3]
     refine E_r 12 (some 65) fun K hK=>?_;go_simp;clear yH;refine hK.out _ _ (H.out.ext X2.out) (fun yH=>?_);clear hK K;try simp only[Act.put,aP1,aP2,aP3]
     refine E_e ?_;simp only[Exit.then]
     go_at_K
     by_cases hck:le4 (qgM (bs.take (3+n+size)))=(bs.drop (3+n+size)).take 4
     ·have hq:qaF (le4 (qgM (bs.take (3+n+size))))=qaF ((bs.drop (3+n+size)).take 4):=by rw[hck]
      have hq1:(!((qaF (le4 (qgM (bs.take (3+n+size))))).toList == (qaF ((bs.drop (3+n+size)).take 4)).toList))=false:=by rw[qdZ,qdZ];rw[qla] at hq;simpa using hq
      clear hq;rw[hq1];clear hq1;have HF:Hid (qeN bs=((x2.toNat:Int),(bs.take (3+n+size)).drop (3+n),3+n+size+4,0)):=hJ (by rw[HO3.out,if_neg hs,if_neg (by simpa using hck)]);clear HO3 hck;have h2l:(2:Int)<(bs.length:Int):=by omega
      have hwx:IntKind.i64.wrap (x2.toNat:Int)=(x2.toNat:Int):=IntWalk.i64_in _ (by have:=x2.toNat_lt;omega);go_wp2;refine E_g 15 (fun w'=>Row w' (some (Pq b off)) (qac bs)) (H.out.ext (X2.out.trans zW)) (fun yH=>?_);refine E_t2 0 66 ?_;refine qhA 2 (oi:=⟨some 68,_,_,_,_,_⟩) (v:=?_) rfl (by kernel_rfl) (fun _ _ _ h=>h) (Or.inl ⟨by rfl,?_⟩) (by assumption) ?_;rotate_left
      ·(intro w9 hSw;(try dsimp only at hSw);have hq:=hk2 w9 hSw;go_simp<;>with_reducible rfl)
      try simp only[Act.put,aP1,aP2,aP3]
      refine E_t4 3 69 ?_;refine E_t 7 73 ?_;refine E_t2 9 75 ?_;refine E_r 8 (some 74) fun K hK=>?_;go_simp;go_at_call 122;refine(qnh _ _ _ ((bs.take (3+n+size)).drop (3+n)) 0 _ (hR2.out.ext (X2.out.trans zW)) (by rw[zD,zT];omega) (by omega) (by rw[zD,zT];omega)).mono ?_;rintro e4 w4 ⟨A4,c4,rfl,h41,h42,ho4,hx4⟩;have X4:Hid (Ext w w4):=hJ ((X2.out.trans zW).trans hx4);have HO4:=hJ (ho4.base (B':=w.heap.size) X2.out.size);clear ho4 hx4;clear yH;refine hK.out _ _ (H.out.ext X4.out) (fun yH=>?_);clear hK K;try simp only[Act.put,aP1,aP2,aP3]
      refine E_t4 11 2 ?_;refine E_e ?_;simp only[Exit.then]
      go_at_K
      go_wp2;(try simp only[Exit.inBlock,Exit.then]);refine bodyPost_ret (qe4 rfl _ _ _) rfl ?_
      rw[HF.out];exact⟨A4,c4,by simp,h41,h42,HO4.out,X4.out⟩
     ·have hq:¬qaF (le4 (qgM (bs.take (3+n+size))))=qaF ((bs.drop (3+n+size)).take 4):=by rw[qla];exact hck
      have hq1:(!((qaF (le4 (qgM (bs.take (3+n+size))))).toList == (qaF ((bs.drop (3+n+size)).take 4)).toList))=true:=by rw[qdZ,qdZ];rw[qla] at hq;simpa using hq
      clear hq;rw[hq1];clear hq1;have HF:Hid (qeN bs=(0,[],0,4)):=hJ (by rw[HO3.out,if_neg hs,if_pos hck]);clear HO3 hck;go_wp2;(try simp only[Exit.inBlock,Exit.then]);refine bodyPost_ret (qe4 rfl _ _ _) rfl ?_
      exact qmB _ HF.out X2.out
   ·have HF:Hid (qeN bs=(0,[],0,er)):=hJ (by rw[HO2.out,if_pos he]);have hb:(er != 0)=true:=by simpa using he
    clear HO2;go_enter Tryz.func137,Tryz.ntmps137;go_wp2_with fail;refine(qgu _ _ _ (bs.drop 3) 16777216 w HR3.out (by omega) (by omega) hlen3.symm).mono ?_;rintro e w' ⟨rfl,rfl⟩;rw[HD.out];unfold qjM;exact qgn
theorem qjj{P:Program}{ops:Array Oper}{rest:List Oper}{o:Oper}{a:Act}{Q:Exit→Act→World→Prop}(w:World)(hgd:o.guard=none)(s x:Operand)(t u:TypeId)
  (ho:o.op=.call {callee:=.builtin .append,args:=#[s,x],argTypes:=#[t,u]}) (va vx v:Value) (w':World) (hs:a.eval s=va) (hx:a.eval x=vx) (hrun:(Builtin.append_ #[t,u] o.type #[va,vx]).run P w=.ok v w')
  (h:wpList P ops Q rest (a.put o.dst v) w'):wpList P ops Q (o::rest) a w:=by
 refine wpList_plain hgd fun K hK=>?_;unfold Oper.wp execOp;simp only[ho,resolve,invoke,builtin,Sem.run_bind,Sem.run_pure,Result.andThen_ok,List.map_toArray,List.map_cons,List.map_nil,hs,hx,hrun];exact hK _ _ h
theorem qgT(n:Int):((uN n:Nat):Int)=IntKind.u64.wrap n:=by rw[IntKind.wrap_u64];unfold uN;omega
theorem qjE(n:Int):uN n<U64:=by unfold uN U64;omega
theorem qmP{xs:List Int}{k:Nat}{x:Int}(h:xs[k]?=some x):qav (xs.take (k+1))=qav (xs.take k)++qa4 (uN x):=by
 unfold qav;rw[List.take_add_one,h];simp
theorem qaL(xs:List Int):(qav xs).length≤11*xs.length:=by
 induction xs with
 | nil=>simp[qav]
 | cons x l ih=>
  have:=qaz (qjE x);unfold qav at *;simp only[List.flatMap_cons,zA,zK];omega
theorem qcc(A:Option Addr)(c:Nat)(xs:List Int)(w:World)(h:Row w A (qaq xs))(hn:xs.length≤1000) :
  Calls Tryz.prog 48 #[.slice A xs.length c] w (GivesB w (qav xs)):=by
 have H:=hJ h;clear h;go_enter Tryz.func48,Tryz.ntmps48;go_wp2;go_loopw [3,8] (fun v i wr=>∃(k:Nat) (A':Option Addr) (c':Nat),k≤xs.length∧i=Jq k∧v=.slice A' (qav (xs.take k)).length c'∧(qav (xs.take k)).length≤c'∧c'≤maxLen∧Hid (Own wr w.heap.size 5 (.slice A' (qav (xs.take k)).length c') (qac (qav (xs.take k))))∧Hid (Ext w wr)) (fun _ i _=>xs.length - (intOf i).toNat)
 case atStart=>exact⟨0,none,0,zO _,rfl,rfl,zR _,zO _,hJ (Own.nil _ _ _),hJ (Ext.refl _)⟩
 case round=>
  obtain⟨k,A',c',hk,rfl,rfl,h1,h2,HO,HX⟩:=hrel;by_cases hlt:k<xs.length
  ·obtain⟨b,off,x,hA,hc,HE⟩:=(H.out.ext HX.out).at_ hlt;subst hA;have hui:=qgT x;have hl:(qav (xs.take k)).length≤1000000:=by have:=qaL (xs.take k);rw[zT] at this;omega
   go_wp2_with fail;rw[←hui];refine(qfn A' c' (qav (xs.take k)) (uN x) wr HO.out.row hl (qjE x)).mono ?_;rintro e w1 ⟨A1,c1,rfl,hc1,hm1,ho1,hx1⟩;have HO1:=hJ (ho1.base (B':=w.heap.size) HX.out.size);have X1:=hJ (HX.out.trans hx1);have hsn:=qmP HE.out;rw[←hsn] at HO1 hc1⊢;clear ho1 hx1 hsn hui;go_wp2;go_roundw
   case rel=>exact⟨k+1,A1,c1,by omega,by go_num,rfl,hc1,hm1,HO1,X1⟩
   case measure=>simp[intOf];omega
  ·have hkl:xs.take k=xs:=List.take_of_length_le (by omega);rw[hkl] at HO h1;go_wp2;go_ret;exact⟨A',c',by rw[hkl];rfl,h1,h2,HO.out,HX.out⟩
theorem qi4(A:Option Addr)(c:Nat)(bs:List UInt8)(n:Int)(w:World)(h:Row w A (qac bs))(hl:bs.length≤1000000)(hn:Hid (I64 n)) :
  Calls Tryz.prog 47 #[.slice A bs.length c,Jq n] w (GivesB w (bs++qa4 (zig n))):=by
 have H:=hJ h;clear h;go_enter Tryz.func47,Tryz.ntmps47;go_wp2_with fail;refine(qdg A c bs 10 w H.out (by omega) (by omega)).mono ?_;rintro e w1 ⟨A1,c1,rfl,hc1,hm1,ho1,hx1⟩;go_wp2_with fail;refine(qiS w.heap.size _ bs n w1 ho1 hx1.size (by omega) hn).mono ?_;rintro e w2 ⟨v2,rfl,ho2,hg2,hs2⟩;go_wp2;go_ret;exact qdz ho2 (hg2.below hx1 hx1.size (fun k hk=>(ho1.lt k hk).1))
theorem qq1(n:Nat)(w:World)(hn:n≤1000000000) :
  Calls Tryz.prog 176 #[Zq,Jq (n:Int)] w fun e w'=>∃v,e=.returned v∧Own w' w.heap.size 5 v []∧Ext w w':=by
 by_cases h0:n=0
 ·subst h0;go_enter Tryz.func176,Tryz.ntmps176;go_wp2;go_ret;exact⟨_,rfl,Own.nil _ _ _,Ext.refl _⟩
 ·obtain⟨i0,hi,hz0,hz1,hz2⟩:=info_parts qcY;have hap:=Go.Lib.run_append_grow_zeros (P:=Tryz.prog) w 29 3 29 5 i0 (.int .u8 0) .i64 .i64 Tryz.underlying29 Tryz.underlying3 hi hz0 none 0 0 [] (by simp[Builtin.firstCells]) n (by omega) (by rw[hz1];decide) (by omega) (by omega) (by rw[hz2];omega) (by rw[hz2];have:=nextslicecap_le (need:=0+n) (old:=0) (by omega);omega);have hge:=grownCap_ge w n 0 5;have hlm:=grownCap_le_maxLen w n 0 5 (by unfold maxLen;omega);simp only[Nat.zero_add] at hap;have E1:Ext w (w.drew.alloc (.cells (([]:List Value).toArray++Builtin.zeroCells (Value.int .u8 0).cells n++Builtin.zeroCells (Value.int .u8 0).cells (grownCap w n 0 5 - n)) 5)):=zW.trans (Ext.new _ _);have hsl:∀W,(Instr.slice 29 (.slice (some (Pw w 0)) n (grownCap w n 0 5)) none (some (Jq 0)) none).run Tryz.prog W=.ok (.slice (some (Pw w 0)) 0 (grownCap w n 0 5)) W:=fun W=>qo7.slice_h _ _ _ 0 0 rfl (by omega) W;have HO:Own (w.drew.alloc (.cells (([]:List Value).toArray++Builtin.zeroCells (Value.int .u8 0).cells n++Builtin.zeroCells (Value.int .u8 0).cells (grownCap w n 0 5 - n)) 5)) w.heap.size 5 (.slice (some (Pw w 0)) 0 (grownCap w n 0 5)) []:=by
   refine⟨rfl,.inr ⟨w.heap.size,_,_,rfl,zR _,(by show (w.heap.push _)[w.heap.size]?=_;simp;rfl),zO _,hlm,?_,by simp⟩⟩;simp only[Array.size_append,size_zeroCells];have:(Value.int IntKind.u8 0).cells.size=1:=rfl;rw[this];simp;omega
  have HO':=hJ HO;have E1':=hJ E1;have HAP:=hJ hap;clear HO E1 hap;generalize (w.drew.alloc (.cells (([]:List Value).toArray++Builtin.zeroCells (Value.int .u8 0).cells n++Builtin.zeroCells (Value.int .u8 0).cells (grownCap w n 0 5 - n)) 5))=w1 at *;generalize grownCap w n 0 5=cap at *;go_enter Tryz.func176,Tryz.ntmps176;go_wp2_with (first
   | (at_builtin;refine qjj w rfl (.tmp 20) (.tmp 21) 29 3 rfl _ _ _ _ (by rfl) (by rfl) HAP.out ?_))
  go_ret;exact⟨_,rfl,HO'.out,E1'.out⟩
structure BrM where
 A:Option Addr
 c:Nat
 bs:List UInt8
def brE:Elem BrM where
 f v:=[.slice v.A v.bs.length v.c]
 k:=1
 ty:=29
 st:=162
 z:=.slice none 0 0
 bytes:=24
 inn v:=[(v.A,qac v.bs)]
 ok v:=v.bs.length≤v.c∧v.c≤maxLen
 len _:=rfl
 one a:=by intro u hu;simp only[zC,zN,or_false] at hu;rcases hu with rfl;rfl
 pos:=by decide
 und:=Tryz.underlying162
 info:=by kernel_rfl
 zk:=rfl
 small:=by decide
def flat(l:List BrM):List UInt8:=l.flatMap fun b=>b.bs
theorem qj0{l:List BrM}{k:Nat}{x:BrM}(h:l[k]?=some x):flat (l.take (k+1))=flat (l.take k)++x.bs:=by
 unfold flat;rw[List.take_add_one,h];simp
theorem qoh(l:List BrM)(k:Nat):(flat (l.take k)).length≤(flat l).length:=by
 have:flat l=flat (l.take k)++flat (l.drop k):=by unfold flat;rw[←List.flatMap_append,List.take_append_drop]
 rw[this,zA];omega
theorem qt8{w:World}{A:Option Addr}{l:List BrM}{k:Nat}(h:brE.Box w A l)(hk:k<l.length) :
  ∃b off X cx bs,A=some (Pq b off)∧b<w.heap.size∧w.cell? (Pq b (off+k))=some (.slice X bs.length cx)∧Hid (Row w X (qac bs))∧bs.length≤cx∧cx≤maxLen∧Hid (l[k]?=some ⟨X,cx,bs⟩):=by
 obtain⟨b,off,⟨X,cx,bs⟩,h1,h2,H3,H4,H5⟩:=h.at_ hk;refine⟨b,off,X,cx,bs,h1,h2,?_,hJ (H4.out.2 (X,qac bs) (by simp[brE])),H4.out.1.1,H4.out.1.2,H5⟩;have:=H3.out 0 (.slice X bs.length cx) rfl;simpa[brE] using this
theorem qmX(A:Option Addr)(c:Nat)(l:List BrM)(w:World)(h:brE.Box w A l)(hn:l.length≤1000000)(hs:(flat l).length≤100000000) :
  Calls Tryz.prog 125 #[.slice A l.length c] w (GivesB w (flat l)):=by
 have H:=hJ h;clear h;go_enter Tryz.func125,Tryz.ntmps125;go_wp2;go_loopw [3,11] (fun v i wr=>∃(k:Nat),k≤l.length∧i=Jq k∧v=Jq ((flat (l.take k)).length:Int)∧w=wr) (fun _ i _=>l.length - (intOf i).toNat)
 case atStart=>exact⟨0,zO _,rfl,by first|rfl|trivial,by first|rfl|trivial⟩
 case round=>
  obtain⟨k,hk,rfl,rfl,rfl⟩:=hrel;by_cases hlt:k<l.length
  ·obtain⟨b,off,X,cx,bs,rfl,hb,c0,HR,hc1,hc2,HE⟩:=qt8 H.out hlt;have hsn:flat (l.take (k+1))=flat (l.take k)++bs:=qj0 HE.out;have hfl:=qoh l (k+1);rw[hsn,zA] at hfl;have hw1:IntKind.i64.wrap (((flat (l.take k)).length:Int)+(bs.length:Int))=((flat (l.take k)).length:Int)+(bs.length:Int):=IntWalk.i64_in _ (by omega);have hd:decide (((flat (l.take k)).length:Int)+(bs.length:Int)<0)=false:=by simp;omega
   go_wp2;go_roundw
   case rel=>exact⟨k+1,by omega,by go_num,by rw[hsn,zA];simp,by first|rfl|trivial⟩
   case measure=>simp[intOf];omega
  ·have hkl:l.take k=l:=List.take_of_length_le (by omega);rw[hkl];go_wp2_with fail;refine(qq1 (flat l).length w (by omega)).mono ?_;rintro e w1 ⟨v1,rfl,ho1,hx1⟩;go_wp2;obtain⟨wo,hwo⟩:∃x,x=w1:=⟨w1,rfl⟩;go_loopw [6,27] (fun v i wr=>∃(k:Nat),k≤l.length∧i=Jq k∧Hid (Own wr w.heap.size 5 v (qac (flat (l.take k))))∧Hid (Ext w wr)) (fun _ i _=>l.length - (intOf i).toNat)
   case atStart=>exact⟨0,zO _,rfl,hJ ho1,hJ hx1⟩
   case round=>
    obtain⟨k2,hk2,rfl,HO,HX⟩:=hrel;by_cases hlt2:k2<l.length
    ·obtain⟨b,off,X,cx,bs,rfl,hb,c0,HR,hc1,hc2,HE⟩:=qt8 (H.out.ext HX.out) hlt2;have hsn:flat (l.take (k2+1))=flat (l.take k2)++bs:=qj0 HE.out;have hfl:=qoh l (k2+1);rw[hsn,zA] at hfl;have HSN:=hJ hsn;clear hsn;go_wp2_with (first
      | (at_builtin;refine qdP rfl (.tmp 31) (.tmp 32) _ 5 _ 1 rfl Tryz.underlying29 qcY rfl (by decide) wr w.heap.size _ _ (by rfl) X bs.length cx (qac bs) (by rfl) (by rw[qay]) HR.out (qec _) HO.out (by rw[qay];omega) HX.out.size ?_;intro v3 w3 ho3 hg3 hs3))
     go_roundw
     case rel=>exact⟨k2+1,by omega,by go_num,hJ (by rw[HSN.out,qbW];exact ho3),hJ (hg3.below HX.out HX.out.size (fun k hk=>(HO.out.lt k hk).1))⟩
     case measure=>simp[intOf];omega
    ·have hkl2:l.take k2=l:=List.take_of_length_le (by omega);rw[hkl2] at HO;go_wp2;go_ret;exact qdz HO.out HX.out
theorem qbT{α:Type}{ops:Array Oper}{o:Oper}{a:Act}{K:Act→World→Prop}{Q:Exit→Act→World→Prop}{X:Prop}(E:Elem α)(hgd:o.guard=none)(s x:Operand)
  (ho:o.op=.call {callee:=.builtin .append,args:=#[s,x],argTypes:=#[E.st,E.st]})
  (W:World) (B:Nat) (v:Value) (l:List α) (hs:a.eval s=v) (ad:Addr) (m c:Nat) (news:List α) (hx:a.eval x=.slice (some ad) m c) (hm:m=news.length) (hr:Row W (some ad) (E.cells news)) (hp:0<m)
  (hob:E.OB W B v l) (hgood:∀q∈news,E.ok q∧∀r∈E.inn q,Row W r.1 r.2∧Apt v r) (hl:l.length+m≤20000000) (hB:B≤W.heap.size)
  (h:∀v' w',E.OB w' B v' (l++news)→Grew W w' v→Stems W v v'→K (a.put o.dst v') w'):if Region.wanted o (yielded ops a.tmps)=true then Oper.wp Tryz.prog o a W K Q else X:=by
 have hw:Region.wanted o (yielded ops a.tmps)=true:=by simp[Region.wanted,hgd]
 rw[if_pos hw];exact qh5 E s x ho W B v l hs ad m c news hx hm hr hp hob hgood hl hB h
theorem qjT{a b:World}{v:Value}(g:Grew a b v){p i:Nat}(hp:p<a.heap.size)(hv:∀k,v.ownBlock=some k→k≠p):b.cell? (Pq p i)=a.cell? (Pq p i):=
 World.cell?_of_block (a:=⟨p,i,none⟩) (g.block p hp (fun e=>hv p e.symm rfl))
theorem qhZ(x y z:Int)(w:World):Row (w.alloc (.cells #[Jq x,Jq y,Jq z] 3)) (some (Pq w.heap.size 0)) (qaq [x,y,z]):=by
 intro _;refine⟨w.heap.size,0,rfl,by simp,fun j q hj=>?_⟩;simp only[qaq,List.map_cons,List.map_nil] at hj
 match j,hj with
 | 0,hj=>simpa using hj
 | 1,hj=>simpa using hj
 | 2,hj=>simpa using hj
theorem qfM(x:Int)(w:World):Row (w.alloc (.cells #[Jq x] 3)) (some (Pq w.heap.size 0)) (qaq [x]):=by
 intro _;refine⟨w.heap.size,0,rfl,by simp,fun j q hj=>?_⟩;simp only[qaq,List.map_cons,List.map_nil] at hj
 match j,hj with
 | 0,hj=>simpa using hj
theorem qkK(x y:Int)(w:World):Row (w.alloc (.cells #[Jq x,Jq y] 3)) (some (Pq w.heap.size 0)) (qaq [x,y]):=by
 intro _;refine⟨w.heap.size,0,rfl,by simp,fun j q hj=>?_⟩;simp only[qaq,List.map_cons,List.map_nil] at hj
 match j,hj with
 | 0,hj=>simpa using hj
 | 1,hj=>simpa using hj
theorem qtX{w:World}{n m off:Nat}{xs:List Value}(h:Row w (some (Pq m off)) xs)(hn:n=m):Row w.drew (some (Pq n off)) xs:=by subst hn;exact h.ext zW
theorem qsN(a b:BrM)(w:World):Row (w.alloc (.cells #[.slice a.A a.bs.length a.c,.slice b.A b.bs.length b.c] 29)) (some (Pq w.heap.size 0)) (brE.cells [a,b]):=by
 intro _;refine⟨w.heap.size,0,rfl,by simp,fun j q hj=>?_⟩;simp only[Elem.cells,brE,List.flatMap_cons,List.flatMap_nil,List.append_nil,List.cons_append,List.nil_append] at hj
 match j,hj with
 | 0,hj=>simpa using hj
 | 1,hj=>simpa using hj
theorem qlP{w:World}{v:Value}{A1 A2:Option Addr}{c1 c2:Nat}{b1 b2:List UInt8}(h1:Row w A1 (qac b1))(h2:Row w A2 (qac b2))(k1:b1.length≤c1)(k1':c1≤maxLen)(k2:b2.length≤c2)(k2':c2≤maxLen)(a1:Apt v (A1,qac b1))(a2:Apt v (A2,qac b2)) :
  ∀q∈[(⟨A1,c1,b1⟩:BrM),⟨A2,c2,b2⟩],brE.ok q∧∀r∈brE.inn q,Row w r.1 r.2∧Apt v r:=by
 intro q hq;simp only[zC,zN,or_false] at hq;rcases hq with rfl|rfl
 ·exact⟨⟨k1,k1'⟩,fun r hr=>by simp only[brE,zC,zN,or_false] at hr;subst hr;exact⟨h1,a1⟩⟩
 ·exact⟨⟨k2,k2'⟩,fun r hr=>by simp only[brE,zC,zN,or_false] at hr;subst hr;exact⟨h2,a2⟩⟩
theorem Elem.own_new{α:Type}(E:Elem α)(w:World)(l:List α):E.Own (w.alloc (.cells (E.cells l).toArray E.ty)) w.heap.size (.slice (some (Pq w.heap.size 0)) l.length l.length) l∨maxLen<l.length:=by
 rcases Nat.lt_or_ge maxLen l.length with h|h
 ·exact .inr h
 ·exact .inl ⟨by rw[E.cells_len],.inr ⟨w.heap.size,l.length,(E.cells l).toArray,rfl,zR _,(by show (w.heap.push _)[w.heap.size]?=_;simp),zR _,h,by simp[E.cells_len],by rw[List.take_of_length_le (by rw[E.cells_len];exact zR _)]⟩⟩
theorem qrp(a b:List BrM):flat (a++b)=flat a++flat b:=by simp[flat]
theorem qjX{l:List Ent}{k:Nat}{e:Ent}(h:l[k]?=some e):(l.take (k+1)).flatMap qhL=(l.take k).flatMap qhL++qhL e:=by rw[List.take_add_one,h];simp
theorem ql5{e:Ent}{m:Nat}(h:e.p.length≤m)(hm:m≤100000000):(qhL e).length≤m+44:=by
 have h1:=qaL [e.v,e.o,e.q];have h2:=qaz (v:=e.p.length) (by unfold U64;omega);unfold qhL qeH;simp only[zA,zK,List.length_nil] at *;omega
theorem qfN{l:List Ent}(h:∀e∈l,e.p.length≤6000):(l.flatMap qhL).length≤6044*l.length:=by
 induction l with
 | nil=>simp
 | cons e l ih=>
  have h1:=ql5 (h e (by simp)) (by omega);have h2:=ih (fun e he=>h e (by simp[he]));simp only[List.flatMap_cons,zA,zK];omega
theorem qcJ(A Al:Option Addr)(c cl:Nat)(body:List UInt8)(log:List Ent)(w:World)(hb:Row w A (qac body))(hbl:body.length≤1000)(hbc:body.length≤c∧c≤maxLen)(hr:Row w Al (qaH.cells log))(hn:log.length≤2000)(hp:∀e∈log,e.p.length≤6000) :
  Calls Tryz.prog 52 #[.slice A body.length c,.slice Al log.length cl] w (GivesB w (body++qbe log)):=by
 have H:=hJ hb;have HR:=hJ hr;have HP:=hJ hp;obtain⟨hbc1,hbc2⟩:=hbc;clear hb hr hp;have E0:Hid (Ext w (w.alloc (.cells #[Jq (log.length:Int)] 3))):=hJ (Ext.new _ _);go_enter Tryz.func52,Tryz.ntmps52;go_wp2_with fail;refine(qcc _ 1 [(log.length:Int)] _ (qfM _ _) (by simp)).mono ?_;rintro e w1 ⟨A1,c1,rfl,h11,h12,ho1,hx1⟩;have X1:=hJ (E0.out.trans hx1);have HR1:=hJ ho1.row;clear ho1 hx1;have HB2:Hid (brE.OB (w1.alloc (.cells #[.slice A body.length c,.slice A1 (qav [(log.length:Int)]).length c1] 29)) w.heap.size (.slice (some (Pw w1 0)) 2 2) [⟨A,c,body⟩,⟨A1,c1,qav [(log.length:Int)]⟩]):=hJ ⟨((brE.own_new w1 [⟨A,c,body⟩,⟨A1,c1,qav [(log.length:Int)]⟩]).resolve_right (by unfold maxLen;simp)).base X1.out.size,qlP (H.out.ext (X1.out.trans (Ext.new _ _))) (HR1.out.ext (Ext.new _ _)) hbc1 hbc2 h11 h12 (fun p q hne hp hq=>by cases hq;have:=qgV (H.out.ext X1.out) hne hp;simp at this⊢;omega) (fun p q hne hp hq=>by cases hq;have:=qgV HR1.out hne hp;simp at this⊢;omega)⟩;have X2:Hid (Ext w (w1.alloc (.cells #[.slice A body.length c,.slice A1 (qav [(log.length:Int)]).length c1] 29))):=hJ (X1.out.trans (Ext.new _ _));go_wp2;go_loopw [5,16] (fun v i wr=>∃(k:Nat) (l:List BrM) (v':Value),v'=v∧k≤log.length∧i=Jq k∧Hid (flat l=body++qav [(log.length:Int)]++(log.take k).flatMap qhL)∧Hid (l.length=2+2*k)∧Hid (brE.OB wr w.heap.size v l)∧Hid (Ext w wr)) (fun _ i _=>log.length - (intOf i).toNat)
 case atStart=>exact⟨0,_,_,rfl,zO _,rfl,hJ (by simp[flat]),hJ rfl,HB2,X2⟩
 case round=>
  obtain⟨k,l,v,rfl,hk,rfl,HF,HLL,HO,HX⟩:=hrel;by_cases hlt:k<log.length
  ·obtain⟨b,off,e,rfl,hb,c0,c1',c2',c3',HE⟩:=qbO (HR.out.ext HX.out) hlt;have hep:e.p.length≤100000000:=by have:=HP.out e (zX HE.out);omega
   go_wp2;refine E_g 15 (fun w'=>w'.cell? (Pw wr 0)=some (Jq e.v)∧w'.cell? (Pw wr 1)=some (Jq e.o)∧w'.cell? (Pw wr 2)=some (Jq e.q)∧w'.cell? (Pw wr 3)=some (.string (qaF e.p))) ⟨by simp,by simp,by simp,by simp⟩ (fun yH=>?_);refine E_t4 0 20 ?_;refine E_t2 4 24 ?_;refine E_t 6 26 ?_;refine E_t2 9 29 ?_;refine E_r 7 (some 27) fun K hK=>?_;go_simp;clear yH;refine hK.out _ _ ⟨by simp,by simp,by simp,by simp⟩ (fun yH=>?_);clear hK K;try simp only[Act.put,aP1,aP2,aP3]
   refine E_r 8 (some 28) fun K hK=>?_;go_simp;go_at_call 48;refine(qcc _ 3 [e.v,e.o,e.q] _ (by exact qtX (qhZ _ _ _ _) (by simp)) (by simp)).mono ?_;rintro e1 w1 ⟨A1,c1,rfl,h11,h12,ho1,hx1⟩;have X1:Hid (Ext (wr.alloc (.cells #[Jq e.v,Jq e.o,Jq e.q,.string (qaF e.p)] 66)) w1):=hJ (((Ext.new _ _).trans zW).trans hx1);have HR1:Hid (Row w1 A1 (qac (qav [e.v,e.o,e.q]))):=hJ ho1.row;have HN1:Hid (∀p,qac (qav [e.v,e.o,e.q])≠[]→A1=some p→wr.heap.size≤p.block):=hJ (fun p _ hp=>by subst hp;have:=(ho1.lt p.block rfl).1;simp at this;omega);clear ho1 hx1;have r0_w1:w1.cell? (Pw wr 0)=some (Jq e.v):=by rw[X1.out.cell_new];rfl
   have r1_w1:w1.cell? (Pw wr 1)=some (Jq e.o):=by rw[X1.out.cell_new];rfl
   have r2_w1:w1.cell? (Pw wr 2)=some (Jq e.q):=by rw[X1.out.cell_new];rfl
   have r3_w1:w1.cell? (Pw wr 3)=some (.string (qaF e.p)):=by rw[X1.out.cell_new];rfl
   clear yH;refine hK.out _ _ ⟨r0_w1,r1_w1,r2_w1,r3_w1⟩ (fun yH=>?_);clear hK K;try simp only[Act.put,aP1,aP2,aP3]
   refine E_r 11 (some 31) fun K hK=>?_;go_simp;go_at_call 120;refine(qeL none 0 [] e.p _ (Row.nil _ _) (by simp) hep).mono ?_;rintro e2 w2 ⟨A2,c2,rfl,h21,h22,ho2,hx2⟩;have X2:Hid (Ext (wr.alloc (.cells #[Jq e.v,Jq e.o,Jq e.q,.string (qaF e.p)] 66)) w2):=hJ (X1.out.trans hx2);have HR12:Hid (Row w2 A1 (qac (qav [e.v,e.o,e.q]))):=hJ (HR1.out.ext hx2);have HR2:Hid (Row w2 A2 (qac (qeH e.p))):=hJ ho2.row;have HN2:Hid (∀p,qac (qeH e.p)≠[]→A2=some p→wr.heap.size≤p.block):=hJ (fun p _ hp=>by subst hp;have:=(ho2.lt p.block rfl).1;have:=X1.out.size;simp at this;omega);clear ho2 hx2;have r0_w2:w2.cell? (Pw wr 0)=some (Jq e.v):=by rw[X2.out.cell_new];rfl
   have r1_w2:w2.cell? (Pw wr 1)=some (Jq e.o):=by rw[X2.out.cell_new];rfl
   have r2_w2:w2.cell? (Pw wr 2)=some (Jq e.q):=by rw[X2.out.cell_new];rfl
   have r3_w2:w2.cell? (Pw wr 3)=some (.string (qaF e.p)):=by rw[X2.out.cell_new];rfl
   clear yH;refine hK.out _ _ ⟨r0_w2,r1_w2,r2_w2,r3_w2⟩ (fun yH=>?_);clear hK K;try simp only[Act.put,aP1,aP2,aP3]
   refine E_r 12 (some 32) fun K hK=>?_;go_simp;generalize hQ:w2.alloc (.cells #[.slice A1 (qav [e.v,e.o,e.q]).length c1,.slice A2 (qeH e.p).length c2] 29)=w3 at *;have X3:Hid (Ext (wr.alloc (.cells #[Jq e.v,Jq e.o,Jq e.q,.string (qaF e.p)] 66)) w3):=(by subst hQ;exact hJ (X2.out.trans (Ext.new _ _)));have HRB:Hid (Row w3 (some (Pw w2 0)) (brE.cells [⟨A1,c1,qav [e.v,e.o,e.q]⟩,⟨A2,c2,qeH e.p⟩])):=(by subst hQ;exact hJ (qsN _ _ _));have HO3:=hJ (HO.out.ext ((Ext.new wr _).trans X3.out));have HG3:Hid (∀q∈[(⟨A1,c1,qav [e.v,e.o,e.q]⟩:BrM),⟨A2,c2,qeH e.p⟩],brE.ok q∧∀r∈brE.inn q,Row w3 r.1 r.2∧Apt v r):=(by subst hQ;exact hJ (qlP (HR12.out.ext (Ext.new _ _)) (HR2.out.ext (Ext.new _ _)) h11 h12 h21 h22 (qhj (E:=brE) (l:=l) HN1.out HO.out.1) (qhj (E:=brE) (l:=l) HN2.out HO.out.1)));clear hQ;have r0_w3:w3.cell? (Pw wr 0)=some (Jq e.v):=by rw[X3.out.cell_new];rfl
   have r1_w3:w3.cell? (Pw wr 1)=some (Jq e.o):=by rw[X3.out.cell_new];rfl
   have r2_w3:w3.cell? (Pw wr 2)=some (Jq e.q):=by rw[X3.out.cell_new];rfl
   have r3_w3:w3.cell? (Pw wr 3)=some (.string (qaF e.p)):=by rw[X3.out.cell_new];rfl
   clear yH;refine hK.out _ _ ⟨r0_w3,r1_w3,r2_w3,r3_w3⟩ (fun yH=>?_);clear hK K;try simp only[Act.put,aP1,aP2,aP3]
   refine E_r 13 (some 33) fun K hK=>?_;refine qbT brE rfl (.tmp 20) (.tmp 32) rfl w3 w.heap.size v l (by rfl) _ 2 2 [⟨A1,c1,qav [e.v,e.o,e.q]⟩,⟨A2,c2,qeH e.p⟩] (by rfl) rfl HRB.out (by decide) HO3.out HG3.out (by have:=HLL.out;omega) (by have:=X3.out.size;have:=HX.out.size;simp at *;omega) ?_;intro v4 w4 ho4 hg4 hs4;have HO4:=hJ ho4;have X4:Hid (Ext w w4):=hJ (hg4.below (HX.out.trans ((Ext.new wr _).trans X3.out)) (by have:=X3.out.size;have:=HX.out.size;simp at *;omega) (fun k hk=>(HO.out.1.lt k hk).1));have Y4:Hid (∀i,w4.cell? (Pw wr i)=w3.cell? (Pw wr i)):=hJ (fun i=>qjT hg4 (by have:=X3.out.size;simp at this;omega) (fun k hk=>by have:=(HO.out.1.lt k hk).2;omega));have r0_w4:w4.cell? (Pw wr 0)=some (Jq e.v):=(Y4.out 0).trans r0_w3;have r1_w4:w4.cell? (Pw wr 1)=some (Jq e.o):=(Y4.out 1).trans r1_w3;have r2_w4:w4.cell? (Pw wr 2)=some (Jq e.q):=(Y4.out 2).trans r2_w3;have r3_w4:w4.cell? (Pw wr 3)=some (.string (qaF e.p)):=(Y4.out 3).trans r3_w3;clear ho4 hg4 hs4;clear yH;refine hK.out _ _ ⟨r0_w4,r1_w4,r2_w4,r3_w4⟩ (fun yH=>?_);clear hK K;try simp only[Act.put,aP1,aP2,aP3]
   refine E_t 14 5 ?_;refine E_e ?_;go_wp2;go_roundw
   case rel=>exact⟨k+1,_,_,rfl,by omega,by go_num,hJ (by rw[qrp,HF.out,qjX HE.out];simp[flat,qhL]),hJ (by have:=HLL.out;simp;omega),HO4,X4⟩
   case measure=>simp[intOf];omega
  ·have hkl:log.take k=log:=List.take_of_length_le (by omega);rw[hkl] at HF;have hfl:Hid ((flat l).length≤100000000):=hJ (by
    rw[HF.out];have h1:=qaL [(log.length:Int)];have h2:=qfN HP.out;simp only[zA,zK,List.length_nil] at *;omega)
   obtain⟨A2,c2,rfl,h21,h22,HBX⟩:∃A c',v=.slice A l.length c'∧l.length≤c'∧c'≤maxLen∧Hid (brE.Box wr A l):=by
    obtain⟨A,c',h1,h2,h3,h4⟩:=HO.out.slice;exact⟨A,c',h1,h2,h3,hJ h4⟩
   go_wp2_with fail;refine(qmX A2 c2 l wr HBX.out (by have:=HLL.out;omega) hfl.out).mono ?_;rintro e w2 ⟨A3,c3,rfl,h31,h32,ho3,hx3⟩;go_wp2;go_ret;have hf:flat l=body++qbe log:=by rw[HF.out];unfold qbe;rw[List.append_assoc]
   rw[←hf];exact⟨A3,c3,rfl,h31,h32,ho3.base HX.out.size,HX.out.trans hx3⟩
end Go.Proofs.YtponbabbabnaeaaGreat
