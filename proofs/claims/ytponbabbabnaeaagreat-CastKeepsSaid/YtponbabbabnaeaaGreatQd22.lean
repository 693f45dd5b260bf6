/- Part 22 of the proof: contracts of functions that the statement reaches. Conditions: as each theorem says. -/
import Derived.Test.YtponbabbabnaeaaGreatQd01
import Derived.Test.YtponbabbabnaeaaGreatQd21
import Derived.Test.YtponbabbabnaeaaGreatQd19
import Derived.Test.YtponbabbabnaeaaGreatQd14
set_option maxRecDepth 100000
namespace Go.Proofs.YtponbabbabnaeaaGreat
open Go.RowKit
theorem qon {P : Prop} (h : P := by
 clear hc h1;go_wp2;go_roundw
 case rel=>exact⟨k+1,A,c,l,by omega,by go_num,rfl,HS',hl0,hl1,hl2,hJ (HRL.out.ext X1.out),hJ (HX.out.trans X1.out)⟩
 case measure=>simp[intOf];omega) : P := h
theorem qn2 {P : Prop} (h : P := by
 rw[hh] at HS
 go_wp2;go_roundw
 case rel=>exact⟨k+1,by omega,by go_num,by rw[HS.out];simp,X1⟩
 case measure=>simp[intOf];omega) : P := h
theorem qks{α:Type}{l:List α}{k:Nat}{x:α}(q:α→Bool)(h:l[k]?=some x):(l.take (k+1)).countP q=(l.take k).countP q+(if q x then 1 else 0):=by
 rw[List.take_add_one,h,List.countP_append]
 simp[List.countP_cons]
theorem qpi(fls:List FlM)(n:Int)(xs:List Int):qdi (fls.map FlM.v) (n,xs)=decide (qgI xs.length≤((fls.countP fun f=>qbr xs f.m:Nat):Int)):=by
 unfold qdi
 rw[List.countP_map]
 rfl
set_option maxHeartbeats 1000000 in
theorem qkm(m:CM)(B:Nat)(col:Nat→Nat)(p:Nat)(n:Int)(A:Option Addr)(c:Nat)(xs:List Int)(w:World)(h:CS w B col p m)(hr:Row w A (qam xs))(hx:xs.length≤1000000) :
  Calls Tryz.prog 128 #[.pointer (some (Pq p 0)),.agg #[Jq n,.slice A xs.length c]] w fun en w'=>en=.returned (.bool (qdi (m.b.fls.map FlM.v) (n,xs)))∧Ext w w':=by
 have HB:=hJ h.lies.reads.fls
 have q8:=h.cell 8
 have hln:=h.fits.fls
 have hpl:=h.lt
 have HR:=hJ hr
 obtain⟨⟨self,base,stable,sent,Av,cv,vs,Al,cl,log,Ap,cp,pend,Am,cm,marks,Af,cf,fls⟩,Ak,ck,pk,Ad,cd,dl⟩:=m
 simp only at hln HB⊢
 rw[qpi]
 replace q8:w.cell? (Pq p 8)=some (.slice Af fls.length cf):=q8
 clear h hr;have E0:Hid (Ext w (w.alloc (.cells #[Jq n,.slice A xs.length c] 46))):=hJ (Ext.new _ _)
 have V0:Hid (BIs (w.alloc (.cells #[Jq n,.slice A xs.length c] 46)) w.heap.size #[Jq n,.slice A xs.length c] 46):=hJ (BIs.new _ _ _)
 go_enter Tryz.func128,Tryz.ntmps128
 go_wp2;generalize w.alloc (.cells #[Jq n,.slice A xs.length c] 46)=u0 at *
 go_loopw [5,14] (fun s i wr=>∃(k:Nat),k≤fls.length∧i=Jq k∧s=Jq (((fls.take k).countP fun f=>qbr xs f.m:Nat):Int)∧Hid (Ext u0 wr)) (fun _ i _=>fls.length - (intOf i).toNat)
 case atStart=>exact⟨0,Nat.zero_le _,rfl,by simp,hJ (Ext.refl _)⟩
 case round=>
  obtain⟨k,hk,rfl,rfl,HX⟩:=hrel
  have hcl:(fls.take k).countP (fun f=>qbr xs f.m)≤k:=Nat.le_trans List.countP_le_length (by rw[List.length_take];omega)
  obtain⟨ct,hct⟩:∃x,x=(fls.take k).countP (fun f=>qbr xs f.m):=⟨_,rfl⟩
  rw[←hct] at hcl⊢
  have HCT:=hJ hct
  clear hct;by_cases hlt:k<fls.length
  ·obtain⟨bb,off,f,rfl,hb,c0,c1,c2,HFR,HF⟩:=qgC ((HB.out.ext E0.out).ext HX.out) hlt
   have v1:wr.cell? (Pw w 1)=some (.slice A xs.length c):=(V0.out.ext HX.out).cell 1
   have hvl:w.heap.size<wr.heap.size:=(V0.out.ext HX.out).lt
   have HS:=hJ (qks (fun f=>qbr xs f.m) HF.out)
   have X1:Hid (Ext u0 (wr.alloc (.cells #[Jq f.m,Jq f.b,.slice f.A f.log.length f.c] 80))):=hJ (HX.out.trans (Ext.new _ _))
   have hw1:IntKind.i64.wrap ((ct:Int)+1)=(ct:Int)+1:=IntWalk.i64_in _ (by omega)
   go_wp2_with fail
   refine(qbH A c xs f.m _ (((HR.out.ext E0.out).ext X1.out)) (by omega)).mono ?_
   rintro en w2 ⟨rfl,rfl⟩
   rw[←HCT.out] at HS
   cases hh:qbr xs f.m with
   | true=>
    exact qn2
   | false=>
    exact qn2
  ·have hkl:k=fls.length:=by omega
   subst hkl
   rw[List.take_length] at HCT
   have v1:wr.cell? (Pw w 1)=some (.slice A xs.length c):=(V0.out.ext HX.out).cell 1
   go_wp2_with fail
   refine(qf8 _ _).mono ?_
   rintro en w2 ⟨rfl,rfl⟩
   go_wp2;go_ret
   exact⟨qae (by rw[HCT.out]),E0.out.trans HX.out⟩
def chK(fls:List FlM)(base:Int)(k:Nat):List Ent:=(fls.take k).foldl (fun out f=>if f.b=base∧out.length<f.log.length then f.log else out) []
theorem qq6(fls:List FlM)(base:Int):qaW (fls.map FlM.v) base=chK fls base fls.length:=by
 unfold qaW chK
 rw[List.foldl_map,List.take_length]
 rfl
theorem qpm{fls:List FlM}{base:Int}{k:Nat}{f:FlM}(h:fls[k]?=some f):chK fls base (k+1)=if f.b=base∧(chK fls base k).length<f.log.length then f.log else chK fls base k:=by
 unfold chK
 rw[List.take_add_one,h,List.foldl_append]
 rfl
set_option maxHeartbeats 1000000 in
theorem qlY(m:CM)(B:Nat)(col:Nat→Nat)(p:Nat)(bs:Int)(w:World)(h:CS w B col p m) :
  Calls Tryz.prog 129 #[.pointer (some (Pq p 0)),Jq bs] w fun en w'=>∃A c,en=.returned (.slice A (qaW (m.b.fls.map FlM.v) bs).length c)∧(qaW (m.b.fls.map FlM.v) bs).length≤c∧c≤maxLen∧Row w' A (qaz.cells (qaW (m.b.fls.map FlM.v) bs))∧Ext w w':=by
 have HB:=hJ h.lies.reads.fls
 have q8:=h.cell 8
 have hln:=h.fits.fls
 have HFL:=hJ h.fits.fl
 obtain⟨⟨self,base,stable,sent,Av,cv,vs,Al,cl,log,Ap,cp,pend,Am,cm,marks,Af,cf,fls⟩,Ak,ck,pk,Ad,cd,dl⟩:=m
 simp only at hln HB HFL⊢
 rw[qq6]
 replace q8:w.cell? (Pq p 8)=some (.slice Af fls.length cf):=q8
 clear h;go_enter Tryz.func129,Tryz.ntmps129
 go_wp2;go_loopw [5,14] (fun s i wr=>∃(k:Nat) (A:Option Addr) (c:Nat) (l:List Ent),k≤fls.length∧i=Jq k∧s=.slice A l.length c∧Hid (l=chK fls bs k)∧l.length≤100000∧l.length≤c∧c≤maxLen∧Hid (Row wr A (qaz.cells l))∧Hid (Ext w wr)) (fun _ i _=>fls.length - (intOf i).toNat)
 case atStart=>exact⟨0,none,0,[],Nat.zero_le _,rfl,rfl,hJ rfl,Nat.zero_le _,Nat.le_refl _,Nat.zero_le _,hJ (Row.nil _ _),hJ (Ext.refl _)⟩
 case round=>
  obtain⟨k,A,c,l,hk,rfl,rfl,HL,hl0,hl1,hl2,HRL,HX⟩:=hrel
  by_cases hlt:k<fls.length
  ·obtain⟨bb,off,f,rfl,hb,c0,c1,c2,HFR,HF⟩:=qgC (HB.out.ext HX.out) hlt
   have HS:=hJ (qpm (base:=bs) HF.out)
   rw[←HL.out] at HS
   have hfl:=(HFL.out f (List.mem_of_getElem? HF.out)).1
   have hok:=(HB.out.2 f (List.mem_of_getElem? HF.out)).1
   have X1:Hid (Ext wr (wr.alloc (.cells #[Jq f.m,Jq f.b,.slice f.A f.log.length f.c] 80))):=hJ (Ext.new _ _)
   by_cases hc:f.b=bs∧l.length<f.log.length
   ·have d1:(f.b == bs)=true:=by simpa using hc.1
    have d2:decide ((l.length:Int)<(f.log.length:Int))=true:=by simp;omega
    rw[if_pos hc] at HS
    have d3:l.length<f.log.length:=hc.2
    clear hc;go_wp2;go_roundw
    case rel=>exact⟨k+1,f.A,f.c,f.log,by omega,by go_num,rfl,hJ HS.out.symm,hfl,hok.1,hok.2,hJ (HFR.out.ext X1.out),hJ (HX.out.trans X1.out)⟩
    case measure=>simp[intOf];omega
   ·rw[if_neg hc] at HS
    have HS':Hid (l=chK fls bs (k+1)):=hJ HS.out.symm
    by_cases h1:f.b=bs
    ·have d1:(f.b == bs)=true:=by simpa using h1
     have d2:decide ((l.length:Int)<(f.log.length:Int))=false:=by simp only[decide_eq_false_iff_not];intro e;exact hc ⟨h1,by omega⟩
     have d3:¬l.length<f.log.length:=fun e=>hc ⟨h1,e⟩
     exact qon
    ·have d1:(f.b == bs)=false:=by simpa using h1
     exact qon
  ·have hkl:k=fls.length:=by omega
   subst hkl
   go_wp2;go_ret
   rw[←HL.out]
   exact⟨A,c,rfl,hl1,hl2,HRL.out,HX.out⟩
theorem qie{α:Type}(q:α→Bool):∀(l:List α) (k:Nat),(∀i y,i<k→l[i]?=some y→q y=true)→k≤l.length→(∀y,l[k]?=some y→q y=false)→(l.takeWhile q).length=k
 | [],k,_,hk,_=>by simp at hk;simp[hk]
 | x::l,0,_,_,hn=>by
  have:=hn x rfl
  simp[this]
 | x::l,k+1,h,hk,hn=>by
  have h0:=h 0 x (by omega) rfl
  rw[List.takeWhile_cons,h0]
  simp only[if_true,List.length_cons,Nat.add_right_cancel_iff]
  exact qie q l k (fun i y hi hy=>h (i+1) y (by omega) (by simpa using hy)) (by simpa using hk) (fun y hy=>hn y (by simpa using hy))
theorem qlA{l:List FlM}{k:Nat}{mb:Int}(h:∀i y,i<k→l[i]?=some y→y.m<mb)(hk:k≤l.length)(hn:∀y,l[k]?=some y→¬y.m<mb):qgX (l.map FlM.v) mb=k:=by
 unfold qgX
 refine qie _ _ k (fun i y hi hy=>?_) (by simpa using hk) (fun y hy=>?_)
 ·rw[List.getElem?_map] at hy
  obtain⟨f,hf,rfl⟩:=Option.map_eq_some_iff.1 hy
  exact decide_eq_true (h i f hi hf)
 ·rw[List.getElem?_map] at hy
  obtain⟨f,hf,rfl⟩:=Option.map_eq_some_iff.1 hy
  exact decide_eq_false (hn f hf)
theorem qlw{l:List (Int×Int)}{k:Nat}{mb:Int}(h:∀i y,i<k→l[i]?=some y→y.1<mb)(hk:k≤l.length)(hn:∀y,l[k]?=some y→¬y.1<mb):qeG l mb=k:=by
 unfold qeG
 exact qie _ _ k (fun i y hi hy=>by simpa using h i y hi hy) hk (fun y hy=>by simpa using hn y hy)
theorem qpb{l:List FlM}{k:Nat}{f g:FlM}(hs:qgX (l.map FlM.v) f.m=k)(hg:l[k]?=some g)(he:g.m=f.m):putF (l.map FlM.v) f.v=(l.set k f).map FlM.v:=by
 unfold putF
 rw[show f.v.1=f.m from rfl,hs,List.getElem?_map,hg]
 simp only[Option.map_some,FlM.v,he,if_true]
 rw[List.map_set]
 rfl
theorem qlc{l:List FlM}{k:Nat}{f:FlM}(hs:qgX (l.map FlM.v) f.m=k)(hn:∀g,l[k]?=some g→g.m≠f.m):putF (l.map FlM.v) f.v=(l.take k++f::l.drop k).map FlM.v:=by
 unfold putF
 rw[show f.v.1=f.m from rfl,hs,List.getElem?_map]
 rw[if_neg]
 ·simp[List.map_append,List.map_take,List.map_drop]
 ·intro e
  cases hg:l[k]? with
  | none=>rw[hg] at e;cases e
  | some g=>rw[hg] at e;simp only[Option.map_some,Option.some.injEq] at e;exact hn g hg e
theorem qi6:∀(l:List FlM) (k:Nat) (x f:FlM),l[k]?=some x→flE.cells (l.set k f)=(((flE.cells l).set (k*3) (Jq f.m)).set (k*3+1) (Jq f.b)).set (k*3+2) (.slice f.A f.log.length f.c):=by
 intro l
 induction l with
 | nil=>intro k x f h;simp at h
 | cons y l ih=>
  intro k x f h
  match k,h with
  | 0,h=>rfl
  | k+1,h=>
   rw[List.set_cons_succ,flE.cells_cons,flE.cells_cons,ih k x f (by simpa using h)]
   have e1:(k+1)*3+2=k*3+2+1+1+1:=by omega
   have e2:(k+1)*3+1=k*3+1+1+1+1:=by omega
   have e3:(k+1)*3=k*3+1+1+1:=by omega
   rw[e1,e2,e3]
   rfl
theorem qsp{w:World}{B g cap:Nat}{l:List FlM}{k:Nat}{x:FlM}(f:FlM)(h:flE.Own w B (.slice (some (Pq g 0)) l.length cap) l)(hx:l[k]?=some x) :
  flE.Own (((w.setCell (Pq g (k*3)) (Jq f.m)).setCell (Pq g (k*3+1)) (Jq f.b)).setCell (Pq g (k*3+2)) (.slice f.A f.log.length f.c)) B (.slice (some (Pq g 0)) (l.set k f).length cap) (l.set k f):=by
 obtain⟨h1,h2⟩:=h
 refine⟨by rw[flE.cells_len],.inr ?_⟩
 rcases h2 with ⟨h2,_⟩|⟨g',cap',cur,hv,h3,hh,h4,h5,h6,h7⟩
 ·cases h2
 ·simp only[Value.slice.injEq,Option.some.injEq,Addr.mk.injEq,and_true,true_and] at hv
  obtain⟨rfl,rfl⟩:=hv
  refine⟨g,cap,((cur.setIfInBounds (k*3) (Jq f.m)).setIfInBounds (k*3+1) (Jq f.b)).setIfInBounds (k*3+2) (.slice f.A f.log.length f.c),by rw[List.length_set],h3,?_,by rw[List.length_set];exact h4,h5,by simpa using h6,?_⟩
  ·exact heap_setCell_same _ _ _ _ _ _ (heap_setCell_same _ _ _ _ _ _ (heap_setCell_same _ _ _ _ _ _ hh))
  ·rw[List.length_set,Array.toList_setIfInBounds,List.take_set,Array.toList_setIfInBounds,List.take_set,Array.toList_setIfInBounds,List.take_set,h7,qi6 l k x f hx]
theorem qgE{w:World}{B:Nat}{v:Value}{l:List FlM}(h:flE.Own w B v l)(hl:0<l.length):∃g c,v=.slice (some (Pq g 0)) l.length c∧l.length≤c∧c≤maxLen∧B≤g∧g<w.heap.size∧∀i,w.frozen? (Pq g i)=false:=by
 have h':=h
 obtain⟨_,h2⟩:=h
 rcases h2 with ⟨_,h3⟩|⟨g,cap,cur,hv,h3,hh,h4,h5,h6,h7⟩
 ·omega
 ·subst hv
  exact⟨g,cap,rfl,h4,h5,h3,(h'.lt g rfl).2,fun i=>(show BIs w g cur _ from hh).free i⟩
theorem CS.fl_ob{w:World}{B:Nat}{col:Nat→Nat}{p:Nat}{m:CM}(h:CS w B col p m):flE.OB w B (.slice m.b.Af m.b.fls.length m.b.cf) m.b.fls:=⟨h.lies.fls,fun f hf=>⟨(h.lies.fi f hf).1,fun r hr=>by
 simp only[flE,List.mem_cons,List.not_mem_nil,or_false] at hr
 subst hr
 exact⟨(h.lies.fi f hf).2.1,fun p' q hne hp hq e=>by have h1:=(h.lies.fi f hf).2.2 p' hne hp;have h2:=h.lies.fc q hq;rw[e,h1] at h2;cases h2⟩⟩⟩
theorem qnb(a b:Int)(A:Option Addr)(c:Nat)(l:List Ent)(w:World):BIs (w.alloc (.cells #[Jq a,Jq b,.slice A l.length c] 80)) w.heap.size (flE.f ⟨a,b,A,c,l⟩).toArray 80:=BIs.new _ _ _
theorem qsn{w:World}{g:Nat}{x:FlM}(h:BIs w g (flE.f x).toArray 80):Row w (some (Pq g 0)) (flE.cells [x]):=by
 intro _
 refine⟨g,0,rfl,h.lt,fun j q hj=>?_⟩
 rw[flE.cells_cons] at hj
 have hj':(flE.f x)[j]?=some q:=by simpa[Elem.cells] using hj
 rw[h.cell];simpa using hj'
set_option maxHeartbeats 1000000 in
theorem qqj(B:Nat)(A:Option Addr)(c:Nat)(l:List FlM)(x:FlM)(w:World)(ho:flE.OB w B (.slice A l.length c) l)(hB:B≤w.heap.size)(g c2:Nat)(hr:Row w (some (Pq g 0)) (flE.cells [x]))(hx:flE.ok x∧∀r∈flE.inn x,Row w r.1 r.2∧Apt (.slice A l.length c) r)(hn:l.length≤1000000)(hc:l.length≤c∧c≤maxLen) :
  Calls Tryz.prog 127 #[.slice A l.length c,Jq (l.length:Int),.slice (some (Pq g 0)) 1 c2] w fun e w'=>∃v',e=.returned v'∧flE.Own w' B v' (l++[x])∧Grew w w' (.slice A l.length c)∧Stems w (.slice A l.length c) v':=by
 have HO:=hJ ho;have HR:=hJ hr
 have HX:Hid (∀q∈[x],flE.ok q∧∀r∈flE.inn q,Row w r.1 r.2∧Apt (.slice A l.length c) r):=hJ (fun q hq=>by simp only[List.mem_cons,List.not_mem_nil,or_false] at hq;subst hq;exact hx)
 clear ho hr hx;obtain⟨hc1,hc2⟩:=hc
 rcases A with _|ad
 ·go_enter Tryz.func127,Tryz.ntmps127
  go_wp2_with (first
   | (at_builtin;refine qcd flE rfl (.tmp 23) (.tmp 24) rfl _ B _ l (by rfl) _ _ _ [x] (by rfl) rfl HR.out HO.out HX.out (by simp;omega) hB ?_;intro v1 w1 ho1 hg1 hs1))
  all_goals (go_ret;exact⟨v1,rfl,ho1.1,hg1,hs1⟩)
 ·go_enter Tryz.func127,Tryz.ntmps127
  go_wp2_with (first
   | (at_builtin;refine qcd flE rfl (.tmp 23) (.tmp 24) rfl _ B _ l (by rfl) _ _ _ [x] (by rfl) rfl HR.out HO.out HX.out (by simp;omega) hB ?_;intro v1 w1 ho1 hg1 hs1))
  all_goals (go_ret;exact⟨v1,rfl,ho1.1,hg1,hs1⟩)
theorem qii {P : Prop} (h : P := by
 refine(qmT H.out HM.out OK4.out HCV.out S3.out HO4.out BX4.out W34.out hBg hll.out hNl hpc.out HR.out hdl).mono ?_
 rintro en w9 ⟨m9,col9,rfl,hc9,hm9,hs9⟩
 go_wp2;go_end0;exact⟨m9,col9,rfl,hc9,hm9,hs9⟩) : P := h
theorem qpJ{l:List (Int×Int)}{fr n b:Int}{k:Nat}(hs:qeG l fr=k)(h:l[k]?=some (fr,b)):qhj l fr n=l.set k (fr,max b n):=by
 unfold qhj
 rw[hs,h];simp
theorem qoY{l:List (Int×Int)}{fr n:Int}{k:Nat}{x:Int×Int}(hs:qeG l fr=k)(h:l[k]?=some x)(hx:x.1≠fr):qhj l fr n=l.take k++(fr,max 0 n)::l.drop k:=by
 unfold qhj
 rw[hs,h]
 obtain⟨a,b⟩:=x
 simp only at hx⊢
 rw[if_neg hx]
theorem qri{l:List (Int×Int)}{fr n:Int}(hs:qeG l fr=l.length):qhj l fr n=l++[(fr,max 0 n)]:=by
 unfold qhj
 rw[hs,List.getElem?_eq_none (Nat.le_refl _)]
theorem qrC{l:List (Int×Int)}{fr n:Int}{y:Int×Int}(h:y∈qhj l fr n):y∈l∨∃b,(b=0∨∃a,(a,b)∈l)∧y=(fr,max b n):=by
 unfold qhj at h
 split at h
 ·next a b hx=>
  by_cases he:a=fr
  ·rw[if_pos he] at h
   rcases List.mem_or_eq_of_mem_set h with h|h
   ·exact .inl h
   ·exact .inr ⟨b,.inr ⟨a,List.mem_of_getElem? hx⟩,by rw[h,he]⟩
  ·rw[if_neg he] at h
   rcases qfT h with h|h
   ·exact .inr ⟨0,.inl rfl,h⟩
   ·exact .inl h
 ·rcases List.mem_append.1 h with h|h
  ·exact .inl h
  ·exact .inr ⟨0,.inl rfl,by simpa using h⟩
theorem qq2{s:St}(h:OkS s){fr n:Int}(hn:¬(s.log.length:Int)<n):OkS {s with marks:=qhj s.marks fr n}:=by
 refine⟨h.vs,h.st0,h.st1,h.own,h.sent,h.pend,h.pn,h.log,h.lp,h.pp,fun y hy=>?_,h.mem⟩
 rcases qrC hy with hy|⟨b,hb,rfl⟩
 ·exact h.mks y hy
 ·simp only
  rcases hb with rfl|⟨a,hb⟩
  ·omega
  ·have:=h.mks _ hb
   simp only at this
   omega
theorem qr1{α:Type}{l:List α}{k:Nat}{x:α}{r:List α}(h:k≤l.length):(l.take k++x::r)[k]?=some x:=by
 rw[List.getElem?_append_right (by rw[List.length_take];omega),List.length_take,Nat.min_eq_left h];simp
theorem qrs{α:Type}{l:List α}{k:Nat}{x y:α}{r:List α}(h:k≤l.length):(l.take k++x::r).set k y=l.take k++y::r:=by
 rw[List.set_append_right _ _ (by rw[List.length_take];omega),List.length_take,Nat.min_eq_left h];simp
theorem qgS{w:World}{B g c k:Nat}{l:List (Int×Int)}{x:Int×Int}(h:qao.Own w B (.slice (some (Pq g 0)) l.length c) l)(hx:l[k]?=some x):w.cell? (Pq g (k*2+1))=some (Jq x.2):=by
 obtain⟨b,off,y,hA,hb,c0,c1,HX⟩:=qfh h.row (List.getElem?_eq_some_iff.1 hx).1
 cases hA
 rw[hx] at HX
 have:=HX.out;cases this
 simpa using c1
theorem qgG{w:World}{B g c k:Nat}{l:List (Int×Int)}(h:qao.Own w B (.slice (some (Pq g 0)) l.length c) l)(hk:k<l.length)(i:Nat):w.frozen? (Pq g i)=false:=by
 obtain⟨g',c',hg',_,_,_,_,hfz⟩:=qcH h (by omega)
 cases hg'
 exact hfz i
theorem qmT{B p g c2:Nat}{col col':Nat→Nat}{w w3 w4:World}{m M:CM}{fr n:Int}{MK NM:List (Int×Int)}(h:CS w B col p M)(hm:M=m)(ok:OkS ({m.b with Am:=some (Pq g 0),cm:=c2,marks:=NM}:BM).st)
  (hcv:ColV col' 3 (.slice (some (Pq g 0)) MK.length c2)) (s3:Stp B [1,3] col w col' w3) (ho:qao.Own w4 B (.slice (some (Pq g 0)) NM.length c2) NM) (bx:BIs w4 p ({m with b:={m.b with Am:=some (Pq g 0),cm:=c2,marks:=NM}}:CM).cells 86)
  (w34:Wrote g w3 w4) (hBg:B≤g) (hll:MK.length=NM.length) (hNl:NM.length≤50001) (hpc:col' p=1) (hr:qcC M.cs fr n=qap {m.cs with s:={m.cs.s with marks:=NM}}) (hdl:m.dl.length≤100000) :
  Calls Tryz.prog 118 #[.pointer (some (Pq p 0))] w4.drew (qhw B col p w (qcC M.cs fr n)):=by
 subst hm
 have s4:Stp B [1,3] col w col' w4:=s3.trans (Stp.wrote w34 hBg (Nat.le_trans h.Bsz s3.size) (by rw[hcv g rfl];simp))
 have hf:=h.fits
 have c4:CS w4 B col' p {M with b:={M.b with Am:=some (Pq g 0),cm:=c2,marks:=NM}}:=by
  refine⟨bx,hpc,h.bp,h.lies.remarks s4 (by simp) (by simp) (by simp) (by simp) ho (by rw[←hll];exact hcv),s4.own h.pk h.kc (by simp),s4.colV h.pk h.kc,h.kiK s4 (by simp),s4.own h.dl h.dc (by simp),s4.colV h.dl h.dc,?_,h.cp⟩
  exact⟨hf.vs,hf.vx,hf.log,hf.lp,hf.pend,hf.pp,by simp only;omega,hf.fls,hf.fl,hf.cl⟩
 refine(qfY _ B _ p _ (c4.ext Ext.drew1) (by have:=ok.vs;simpa[BM.st,qaI] using this) ok.st0 (fun x hx=>(ok.mks x hx).2) hdl (qep ok).1 (fun n _=>qn8 ok n)).mono ?_
 rintro en w9 ⟨m9,col9,rfl,hc9,hm9,hs9⟩
 rw[hr]
 exact⟨m9,col9,rfl,hc9,hm9,(s4.mono (cs':=[1,2,3,4,5,7]) (by simp)).trans ((Stp.ext' c4.Bsz Ext.drew1).trans hs9)⟩
set_option maxHeartbeats 1000000 in
theorem qnj(m:CM)(B:Nat)(col:Nat→Nat)(p:Nat)(fr n:Int)(w:World)(h:CS w B col p m)(ok:OkS m.b.st)(hdl:m.dl.length≤100000)(hmn:m.b.marks.length≤50000) :
  Calls Tryz.prog 144 #[.pointer (some (Pq p 0)),Jq fr,Jq n] w (qhw B col p w (qcC m.cs fr n)):=by
 have H:=hJ h;have OK:=hJ ok
 have hpl:=h.lt
 have q3:=h.cell 3;have q7:=h.cell 7;have fz7:=h.free 7
 have hfl:=h.fits.log
 obtain⟨Am',cm',hv,hk1,hk2,_⟩:=qhv h.lies.marks
 simp only[Value.slice.injEq,true_and] at hv
 obtain⟨hAm,hcm⟩:=hv
 rw[←hcm] at hk1 hk2
 clear h ok hcm hAm;obtain⟨M,hM⟩:∃x,x=m:=⟨_,rfl⟩
 have HM:=hJ hM
 rw[←hM] at H OK⊢
 clear hM;obtain⟨⟨self,base,stable,sent,Av,cv,vs,Al,cl,log,Ap,cp,pend,Am,cm,marks,Af,cf,fls⟩,Ak,ck,pk,Ad,cd,dl⟩:=m
 simp only at hk1 hk2 hfl hdl hmn
 replace q3:w.cell? (Pq p 3)=some (.slice Al log.length cl):=q3
 replace q7:w.cell? (Pq p 7)=some (.slice Am marks.length cm):=q7
 by_cases hn:(log.length:Int)<n
 ·have HR:Hid (qcC M.cs fr n=M.cs):=hJ (by unfold qcC;rw[HM.out];exact if_pos hn)
  have hd:decide ((log.length:Int)<n)=true:=by simpa using hn
  clear hn;go_enter Tryz.func144,Tryz.ntmps144
  go_wp2;(try simp only[Exit.inBlock,Exit.then]);refine bodyPost_ret (results_none rfl _ _ _) rfl ?_
  rw[HR.out]
  exact⟨M,col,rfl,H.out,rfl,Stp.refl _ _ _ _⟩
 ·have hd:decide ((log.length:Int)<n)=false:=by simpa using hn
  obtain⟨NM,hNM⟩:∃l,l=qhj marks fr n:=⟨_,rfl⟩
  have HNM:=hJ hNM
  have HR:Hid (qcC M.cs fr n=qap {(⟨⟨self,base,stable,sent,Av,cv,vs,Al,cl,log,Ap,cp,pend,Am,cm,marks,Af,cf,fls⟩,Ak,ck,pk,Ad,cd,dl⟩:CM).cs with s:={(⟨⟨self,base,stable,sent,Av,cv,vs,Al,cl,log,Ap,cp,pend,Am,cm,marks,Af,cf,fls⟩,Ak,ck,pk,Ad,cd,dl⟩:CM).cs.s with marks:=NM}}):=hJ (by
   unfold qcC;rw[HM.out,hNM];exact if_neg hn)
  clear hNM;have OK4:∀(g c2:Nat),Hid (OkS (⟨self,base,stable,sent,Av,cv,vs,Al,cl,log,Ap,cp,pend,(some (Pq g 0)),c2,NM,Af,cf,fls⟩:BM).st):=fun g c2=>hJ (by
   have ok:=OK.out
   rw[HM.out] at ok
   rw[HNM.out]
   exact qq2 ok (by simpa[BM.st] using hn))
  have HN:=hJ hn
  clear hn;have HMR:Hid (Row w Am (qao.cells marks)):=hJ (by have:=H.out.lies.marks.row;rw[HM.out] at this;exact this)
  have HMO:Hid (qao.Own w B (.slice Am marks.length cm) marks):=hJ (by have:=H.out.lies.marks;rw[HM.out] at this;exact this)
  have HMC:Hid (ColV col 3 (.slice Am marks.length cm)):=hJ (by have:=H.out.lies.mc;rw[HM.out] at this;exact this)
  have HBX:Hid (BIs w p (⟨⟨self,base,stable,sent,Av,cv,vs,Al,cl,log,Ap,cp,pend,Am,cm,marks,Af,cf,fls⟩,Ak,ck,pk,Ad,cd,dl⟩:CM).cells 86):=hJ (by have:=H.out.box;rw[HM.out] at this;exact this)
  have HPC:Hid (col p=1):=hJ H.out.pc
  have E0:Hid (Ext w (w.alloc (.cells #[Jq fr,Jq 0] 123))):=hJ (Ext.new _ _)
  have G0:Hid (BIs (w.alloc (.cells #[Jq fr,Jq 0] 123)) w.heap.size (qao.f (fr,0)).toArray 123):=hJ (BIs.new _ _ _)
  have HGN:Hid (∀k,(Value.slice Am marks.length cm).ownBlock=some k→k≠w.heap.size):=hJ (fun k hk=>by have:=(HMO.out.lt k hk).2;omega)
  go_enter Tryz.func144,Tryz.ntmps144
  go_wp2;go_loopw [6] (fun i wr=>∃k:Nat,k≤marks.length∧i=Jq (k:Int)∧Hid (∀i y,i<k→marks[i]?=some y→y.1<fr)∧w=wr) (fun i _=>marks.length - (intOf i).toNat)
  case atStart=>exact⟨0,Nat.zero_le _,rfl,hJ (fun i y hi=>absurd hi (Nat.not_lt_zero _)),rfl⟩
  case round=>
   obtain⟨k,hk,rfl,HK,rfl⟩:=hrel
   by_cases hlt:k<marks.length
   ·obtain⟨b,off,x,hA,hb,c0,c1,HX⟩:=qfh HMR.out hlt
    obtain⟨g0,cg,hgv,_,_,hBg,hgs,hfz⟩:=qcH HMO.out (by omega)
    simp only[Value.slice.injEq,true_and] at hgv
    obtain⟨hAg,rfl⟩:=hgv
    rw[hAg] at hA
    simp only[Option.some.injEq,Addr.mk.injEq,and_true] at hA
    obtain⟨rfl,rfl⟩:=hA
    simp only[Nat.zero_add] at c0 c1
    subst hAg
    by_cases hx:x.1<fr
    ·have hx1:decide (x.1<fr)=true:=by simpa using hx
     have HK':Hid (∀i y,i<k+1→marks[i]?=some y→y.1<fr):=hJ (fun i y hi hy=>by
      rcases Nat.lt_or_ge i k with h1|h1
      ·exact HK.out i y h1 hy
      ·have:i=k:=by omega
       subst this
       rw[HX.out] at hy;cases hy;exact hx)
     clear hx;go_wp2;go_roundw
     case rel=>exact⟨k+1,by omega,by go_num,HK',by first|trivial|rfl⟩
     case measure=>simp[intOf];omega
    ·have hx1:decide (x.1<fr)=false:=by simpa using hx
     have HS:Hid (qeG marks fr=k):=hJ (qlw HK.out hk (fun y hy=>by rw[HX.out] at hy;cases hy;exact hx))
     by_cases he:x.1=fr
     ·have hx2:(x.1 == fr)=true:=by simpa using he
      have hx3:(x.1 != fr)=false:=by simpa using he
      obtain⟨x0,n0⟩:=x
      simp only at he
      subst he
      have HSET:Hid (marks.set k (x0,max n0 n)=NM):=hJ (by rw[HNM.out,qpJ HS.out HX.out])
      have hmx:=HX
      have hml2:marks.length≤50001:=by omega
      have hkm:k<marks.length:=hlt
      have HCV:=HMC;have HO3:=HMO;have BX3:=HBX;have hpc:=HPC
      have S3:Hid (Stp B [1,3] col w col w):=hJ (Stp.refl _ _ _ _)
      obtain⟨g,rfl⟩:∃x,x=g0:=⟨_,rfl⟩
      have hgp:g≠p:=fun e=>by have:=HCV.out g rfl;rw[e,hpc.out] at this;cases this
      have OK4:=OK4 g cm
      clear hx hfz;go_upto_region 6 with fail
      clear q3 q7 fz7 hd;have r7:w.cell? (Pq p 7)=some (.slice (some (Pq g 0)) marks.length cm):=BX3.out.cell 7
      have rg:w.cell? (Pq g (k*2+1))=some (Jq n0):=qgS HO3.out hmx.out
      have fzg:=qgG HO3.out hkm (k*2+1)
      have hpl3:p<w.heap.size:=BX3.out.lt
      have hgl3:g<w.heap.size:=(HO3.out.lt g rfl).2
      go_wp2;refine qac 17 (fun w'=>Cq w' p 7 (.slice (some (Pq g 0)) marks.length cm)∧Cq w' g (k*2+1) (Jq n0)) (by kernel_rfl) ⟨r7,rg⟩ (fun hHeld=>?_)
      refine E_t 0 73 ?_;refine E_t 1 74 ?_;refine E_t 2 75 ?_;refine E_t 3 76 ?_;refine E_t 4 77 ?_;refine E_t 5 78 ?_;refine E_t 6 79 ?_;refine E_t 7 80 ?_;refine E_t 8 81 ?_;refine E_t 9 82 ?_;refine E_t 10 83 ?_;refine E_t 11 84 ?_;refine E_t 12 85 ?_;refine E_t 13 86 ?_;refine E_t 14 87 ?_;refine E_t 15 88 ?_;refine E_t 16 89 ?_;refine qbc (by rfl) (by kernel_rfl) ?_
      go_wp2_with fail
      have W34:Hid (Wrote g w (w.setCell (Pq g (k*2+1)) (Jq (max n0 n)))):=hJ (Wrote.set _ _ _ _)
      have hll:Hid (marks.length=NM.length):=hJ (by rw[←HSET.out,List.length_set])
      have hNl:NM.length≤50001:=by rw[←hll.out];exact hml2
      have HO4:Hid (qao.Own (w.setCell (Pq g (k*2+1)) (Jq (max n0 n))) B (.slice (some (Pq g 0)) NM.length cm) NM):=hJ (by
       have:=qhf (max n0 n) HO3.out hmx.out
       simp only at this
       rw[HSET.out,hll.out] at this
       exact this)
      have BX4:Hid (BIs (w.setCell (Pq g (k*2+1)) (Jq (max n0 n))) p (⟨⟨self,base,stable,sent,Av,cv,vs,Al,cl,log,Ap,cp,pend,(some (Pq g 0)),cm,NM,Af,cf,fls⟩,Ak,ck,pk,Ad,cd,dl⟩:CM).cells 86):=hJ (by
       have:=W34.out.bis BX3.out (Ne.symm hgp)
       simp only[CM.cells,hll.out] at this
       exact this)
      clear r7 rg fzg hHeld;generalize w.setCell (Pq g (k*2+1)) (Jq (max n0 n))=w4 at *
      exact qii
     ·have hx2:(x.1 == fr)=false:=by simpa using he
      have hx3:(x.1 != fr)=true:=by simpa using he
      have HA:Hid (qhj marks fr n=marks.take k++(fr,max 0 n)::marks.drop k):=hJ (qoY HS.out HX.out he)
      clear hx he hfz;go_wp2_with fail
      refine(qpn B (some (Pq g0 0)) cm marks (fr,0) k _ (HMO.out.ext E0.out) (Nat.le_trans H.out.Bsz E0.out.size) w.heap.size 1 G0.out HGN.out hlt (by omega)).mono ?_
      rintro en w2 ⟨v2,rfl,ho2,hg2,hs2⟩
      obtain⟨MK,hMK⟩:∃l,l=marks.take k++(fr,(0:Int))::marks.drop k:=⟨_,rfl⟩
      rw[←hMK] at ho2
      have hml:MK.length=marks.length+1:=by rw[hMK];simp;omega
      have hml2:MK.length≤50001:=by omega
      have hkm:k<MK.length:=by omega
      have hmx:Hid (MK[k]?=some (fr,0)):=hJ (by rw[hMK];exact qr1 hk)
      have HSET:Hid (MK.set k (fr,max 0 n)=NM):=hJ (by rw[HNM.out,HA.out,hMK];exact qrs hk)
      have HML:=hJ hml
      clear hMK hml;obtain⟨g,c2,rfl,h21,h22,hBg,hgs,hfz⟩:=qcH ho2 (by omega)
      clear hfz;have HO2:=hJ ho2
      have HCV:Hid (ColV (qai col w.heap.size 3) 3 (.slice (some (Pq g 0)) MK.length c2)):=hJ (qcj hs2 HMC.out E0.out.size (fun q hq=>(HMO.out.lt q hq).2))
      have S2:Hid (Stp B [3] col w (qai col w.heap.size 3) w2):=hJ ((Stp.ext (cs:=[3]) H.out.Bsz E0.out (fun k hk=>qah hk)).trans (Stp.grew hg2 (Nat.le_trans H.out.Bsz E0.out.size) (fun k hk=>(HMO.out.lt k hk).1) (c:=3) (HMC.out.old HMO.out (fun k hk=>qah hk)) (by simp)))
      have hpc:Hid ((qai col w.heap.size 3) p=1):=hJ (by rw[qah H.out.lt];exact H.out.pc)
      have hgp:g≠p:=fun e=>by have:=HCV.out g rfl;rw[e,hpc.out] at this;cases this
      have BX2:Hid (BIs w2 p (⟨⟨self,base,stable,sent,Av,cv,vs,Al,cl,log,Ap,cp,pend,(some (Pq g0 0)),cm,marks,Af,cf,fls⟩,Ak,ck,pk,Ad,cd,dl⟩:CM).cells 86):=hJ (S2.out.bis HBX.out (by rw[HPC.out];simp))
      have k7:w2.cell? (Pq p 7)=some (.slice (some (Pq g0 0)) marks.length cm):=BX2.out.cell 7
      have fz2:=BX2.out.free 7
      have hpl2:p<w2.heap.size:=BX2.out.lt
      clear ho2 hg2 hs2 q3 q7 fz7 hd;go_upto_region 6 with fail
      have W23:Hid (Wrote p w2 (w2.setCell (Pq p 7) (.slice (some (Pq g 0)) MK.length c2))):=hJ (Wrote.set _ _ _ _)
      have BX3:Hid (BIs (w2.setCell (Pq p 7) (.slice (some (Pq g 0)) MK.length c2)) p (⟨⟨self,base,stable,sent,Av,cv,vs,Al,cl,log,Ap,cp,pend,(some (Pq g 0)),c2,MK,Af,cf,fls⟩,Ak,ck,pk,Ad,cd,dl⟩:CM).cells 86):=hJ (BX2.out.set 7 _)
      have HO3:Hid (qao.Own (w2.setCell (Pq p 7) (.slice (some (Pq g 0)) MK.length c2)) B (.slice (some (Pq g 0)) MK.length c2) MK):=hJ (HO2.out.set_other (fun k hk=>by cases hk;exact hgp) _)
      clear k7 fz2;generalize w2.setCell (Pq p 7) (.slice (some (Pq g 0)) MK.length c2)=w3 at *
      have S3:Hid (Stp B [1,3] col w (qai col w.heap.size 3) w3):=hJ ((S2.out.mono (by simp)).trans (Stp.wrote W23.out H.out.bp (Nat.le_trans H.out.Bsz S2.out.size) (by rw[hpc.out];simp)))
      have OK4:=OK4 g c2
      have r7:w3.cell? (Pq p 7)=some (.slice (some (Pq g 0)) MK.length c2):=BX3.out.cell 7
      have rg:w3.cell? (Pq g (k*2+1))=some (Jq 0):=qgS HO3.out hmx.out
      have fzg:=qgG HO3.out hkm (k*2+1)
      have hpl3:p<w3.heap.size:=BX3.out.lt
      have hgl3:g<w3.heap.size:=(HO3.out.lt g rfl).2
      go_wp2;refine qac 17 (fun w'=>Cq w' p 7 (.slice (some (Pq g 0)) MK.length c2)∧Cq w' g (k*2+1) (Jq 0)) (by kernel_rfl) ⟨r7,rg⟩ (fun hHeld=>?_)
      refine E_t 0 73 ?_;refine E_t 1 74 ?_;refine E_t 2 75 ?_;refine E_t 3 76 ?_;refine E_t 4 77 ?_;refine E_t 5 78 ?_;refine E_t 6 79 ?_;refine E_t 7 80 ?_;refine E_t 8 81 ?_;refine E_t 9 82 ?_;refine E_t 10 83 ?_;refine E_t 11 84 ?_;refine E_t 12 85 ?_;refine E_t 13 86 ?_;refine E_t 14 87 ?_;refine E_t 15 88 ?_;refine E_t 16 89 ?_;refine qbc (by rfl) (by kernel_rfl) ?_
      go_wp2_with fail
      have W34:Hid (Wrote g w3 (w3.setCell (Pq g (k*2+1)) (Jq (max 0 n)))):=hJ (Wrote.set _ _ _ _)
      have hll:Hid (MK.length=NM.length):=hJ (by rw[←HSET.out,List.length_set])
      have hNl:NM.length≤50001:=by rw[←hll.out];exact hml2
      have HO4:Hid (qao.Own (w3.setCell (Pq g (k*2+1)) (Jq (max 0 n))) B (.slice (some (Pq g 0)) NM.length c2) NM):=hJ (by
       have:=qhf (max 0 n) HO3.out hmx.out
       simp only at this
       rw[HSET.out,hll.out] at this
       exact this)
      have BX4:Hid (BIs (w3.setCell (Pq g (k*2+1)) (Jq (max 0 n))) p (⟨⟨self,base,stable,sent,Av,cv,vs,Al,cl,log,Ap,cp,pend,(some (Pq g 0)),c2,NM,Af,cf,fls⟩,Ak,ck,pk,Ad,cd,dl⟩:CM).cells 86):=hJ (by
       have:=W34.out.bis BX3.out (Ne.symm hgp)
       simp only[CM.cells,hll.out] at this
       exact this)
      clear r7 rg fzg hHeld;generalize w3.setCell (Pq g (k*2+1)) (Jq (max 0 n))=w4 at *
      exact qii
   ·have hkl:k=marks.length:=by omega
    have HS:Hid (qeG marks fr=marks.length):=hJ (hkl▸qlw HK.out hk (fun y hy=>by rw[List.getElem?_eq_none (by omega)] at hy;cases hy))
    have HA:Hid (qhj marks fr n=marks++[(fr,max 0 n)]):=hJ (qri HS.out)
    subst hkl
    go_wp2_with fail
    refine(qlC B Am cm marks (fr,0) _ (HMO.out.ext E0.out) (Nat.le_trans H.out.Bsz E0.out.size) w.heap.size 1 (qnC fr 0 w) (by omega) ⟨hk1,hk2⟩).mono ?_
    rintro en w2 ⟨v2,rfl,ho2,hg2,hs2⟩
    obtain⟨MK,hMK⟩:∃l,l=marks++[(fr,(0:Int))]:=⟨_,rfl⟩
    rw[←hMK] at ho2
    have hml:MK.length=marks.length+1:=by rw[hMK];simp
    have hml2:MK.length≤50001:=by omega
    have hkm:marks.length<MK.length:=by omega
    have hmx:Hid (MK[marks.length]?=some (fr,0)):=hJ (by rw[hMK];simp)
    have HSET:Hid (MK.set marks.length (fr,max 0 n)=NM):=hJ (by rw[HNM.out,HA.out,hMK];simp)
    have HML:=hJ hml
    clear hMK hml;obtain⟨g,c2,rfl,h21,h22,hBg,hgs,hfz⟩:=qcH ho2 (by omega)
    clear hfz;have HO2:=hJ ho2
    have HCV:Hid (ColV (qai col w.heap.size 3) 3 (.slice (some (Pq g 0)) MK.length c2)):=hJ (qcj hs2 HMC.out E0.out.size (fun q hq=>(HMO.out.lt q hq).2))
    have S2:Hid (Stp B [3] col w (qai col w.heap.size 3) w2):=hJ ((Stp.ext (cs:=[3]) H.out.Bsz E0.out (fun k hk=>qah hk)).trans (Stp.grew hg2 (Nat.le_trans H.out.Bsz E0.out.size) (fun k hk=>(HMO.out.lt k hk).1) (c:=3) (HMC.out.old HMO.out (fun k hk=>qah hk)) (by simp)))
    have hpc:Hid ((qai col w.heap.size 3) p=1):=hJ (by rw[qah H.out.lt];exact H.out.pc)
    have hgp:g≠p:=fun e=>by have:=HCV.out g rfl;rw[e,hpc.out] at this;cases this
    have BX2:Hid (BIs w2 p (⟨⟨self,base,stable,sent,Av,cv,vs,Al,cl,log,Ap,cp,pend,Am,cm,marks,Af,cf,fls⟩,Ak,ck,pk,Ad,cd,dl⟩:CM).cells 86):=hJ (S2.out.bis HBX.out (by rw[HPC.out];simp))
    have k7:w2.cell? (Pq p 7)=some (.slice Am marks.length cm):=BX2.out.cell 7
    have fz2:=BX2.out.free 7
    have hpl2:p<w2.heap.size:=BX2.out.lt
    clear ho2 hg2 hs2 q3 q7 fz7 hd;go_upto_region 6 with fail
    have W23:Hid (Wrote p w2 (w2.setCell (Pq p 7) (.slice (some (Pq g 0)) MK.length c2))):=hJ (Wrote.set _ _ _ _)
    have BX3:Hid (BIs (w2.setCell (Pq p 7) (.slice (some (Pq g 0)) MK.length c2)) p (⟨⟨self,base,stable,sent,Av,cv,vs,Al,cl,log,Ap,cp,pend,(some (Pq g 0)),c2,MK,Af,cf,fls⟩,Ak,ck,pk,Ad,cd,dl⟩:CM).cells 86):=hJ (BX2.out.set 7 _)
    have HO3:Hid (qao.Own (w2.setCell (Pq p 7) (.slice (some (Pq g 0)) MK.length c2)) B (.slice (some (Pq g 0)) MK.length c2) MK):=hJ (HO2.out.set_other (fun k hk=>by cases hk;exact hgp) _)
    clear k7 fz2;generalize w2.setCell (Pq p 7) (.slice (some (Pq g 0)) MK.length c2)=w3 at *
    have S3:Hid (Stp B [1,3] col w (qai col w.heap.size 3) w3):=hJ ((S2.out.mono (by simp)).trans (Stp.wrote W23.out H.out.bp (Nat.le_trans H.out.Bsz S2.out.size) (by rw[hpc.out];simp)))
    have OK4:=OK4 g c2
    have r7:w3.cell? (Pq p 7)=some (.slice (some (Pq g 0)) MK.length c2):=BX3.out.cell 7
    have rg:w3.cell? (Pq g (marks.length*2+1))=some (Jq 0):=qgS HO3.out hmx.out
    have fzg:=qgG HO3.out hkm (marks.length*2+1)
    have hpl3:p<w3.heap.size:=BX3.out.lt
    have hgl3:g<w3.heap.size:=(HO3.out.lt g rfl).2
    go_wp2;refine qac 17 (fun w'=>Cq w' p 7 (.slice (some (Pq g 0)) MK.length c2)∧Cq w' g (marks.length*2+1) (Jq 0)) (by kernel_rfl) ⟨r7,rg⟩ (fun hHeld=>?_)
    refine E_t 0 73 ?_;refine E_t 1 74 ?_;refine E_t 2 75 ?_;refine E_t 3 76 ?_;refine E_t 4 77 ?_;refine E_t 5 78 ?_;refine E_t 6 79 ?_;refine E_t 7 80 ?_;refine E_t 8 81 ?_;refine E_t 9 82 ?_;refine E_t 10 83 ?_;refine E_t 11 84 ?_;refine E_t 12 85 ?_;refine E_t 13 86 ?_;refine E_t 14 87 ?_;refine E_t 15 88 ?_;refine E_t 16 89 ?_;refine qbc (by rfl) (by kernel_rfl) ?_
    go_wp2_with fail
    have W34:Hid (Wrote g w3 (w3.setCell (Pq g (marks.length*2+1)) (Jq (max 0 n)))):=hJ (Wrote.set _ _ _ _)
    have hll:Hid (MK.length=NM.length):=hJ (by rw[←HSET.out,List.length_set])
    have hNl:NM.length≤50001:=by rw[←hll.out];exact hml2
    have HO4:Hid (qao.Own (w3.setCell (Pq g (marks.length*2+1)) (Jq (max 0 n))) B (.slice (some (Pq g 0)) NM.length c2) NM):=hJ (by
     have:=qhf (max 0 n) HO3.out hmx.out
     simp only at this
     rw[HSET.out,hll.out] at this
     exact this)
    have BX4:Hid (BIs (w3.setCell (Pq g (marks.length*2+1)) (Jq (max 0 n))) p (⟨⟨self,base,stable,sent,Av,cv,vs,Al,cl,log,Ap,cp,pend,(some (Pq g 0)),c2,NM,Af,cf,fls⟩,Ak,ck,pk,Ad,cd,dl⟩:CM).cells 86):=hJ (by
     have:=W34.out.bis BX3.out (Ne.symm hgp)
     simp only[CM.cells,hll.out] at this
     exact this)
    clear r7 rg fzg hHeld;generalize w3.setCell (Pq g (marks.length*2+1)) (Jq (max 0 n))=w4 at *
    exact qii
end Go.Proofs.YtponbabbabnaeaaGreat
