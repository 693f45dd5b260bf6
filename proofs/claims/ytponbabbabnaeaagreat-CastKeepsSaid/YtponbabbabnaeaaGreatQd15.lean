/- Part 15 of the proof: contracts of functions that the statement reaches. Conditions: as each theorem says. -/
import Derived.Test.YtponbabbabnaeaaGreatQd01
import Derived.Test.YtponbabbabnaeaaGreatQd14
import Derived.Test.YtponbabbabnaeaaGreatQd13
import Derived.Test.YtponbabbabnaeaaGreatQd10
set_option maxRecDepth 100000
namespace Go.Proofs.YtponbabbabnaeaaGreat
def MajP(x:Vw)(q:Int→Prop):Prop:=∃l:List Int,l.Nodup∧(∀a∈l,a∈x.2∧q a)∧qgI x.2.length≤(l.length:Int)
theorem MajP.mono{x:Vw}{q q':Int→Prop}(h:MajP x q)(hq:∀a,q a→q' a):MajP x q':=by
 obtain⟨l,h1,h2,h3⟩:=h
 exact⟨l,h1,fun a ha=>⟨(h2 a ha).1,hq a (h2 a ha).2⟩,h3⟩
theorem MajP.meet{x:Vw}{p q:Int→Prop}(hx:qan x.1 x.2=true)(h:MajP x p)(h':MajP x q):∃a,p a∧q a:=by
 obtain⟨l,h1,h2,h3⟩:=h
 obtain⟨m,g1,g2,g3⟩:=h'
 apply Classical.byContradiction
 intro hn
 have hd:(l++m).Nodup:=List.nodup_append.2 ⟨h1,g1,fun a ha b hb e=>hn ⟨a,(h2 a ha).2,by rw[e];exact(g2 b hb).2⟩⟩
 have hs:=hd.length_le_of_subset (l₂:=x.2) (fun a ha=>by
  rcases List.mem_append.1 ha with ha|ha
  ·exact(h2 a ha).1
  ·exact(g2 a ha).1)
 rw[List.length_append] at hs
 have hl:=qaH hx
 unfold qgI at h3 g3
 rw[if_pos (by omega)] at h3 g3
 omega
theorem qjp{l:List Int}(h:l.Nodup){i j:Nat}(hi:i<l.length)(hj:j<l.length)(he:l[i]=l[j]):i=j:=by
 rcases Nat.lt_trichotomy i j with hij|hij|hij
 ·exact absurd he (List.pairwise_iff_getElem.1 h i j hi hj hij)
 ·exact hij
 ·exact absurd he.symm (List.pairwise_iff_getElem.1 h j i hj hi hij)
abbrev qeP:=Int→Int→List Ent
abbrev qf6:=Int→List (List UInt8)
def tgt(s:St):Int:=(qaf s.views).1
def qjE(mem:List St)(f T:Int):Prop:=∃s∈mem,s.self=f∧T≤tgt s
def qqT(mem:List St)(H:qeP)(T:Int)(f:Fls):Prop:=qjE mem f.1 T∧f.2.1<T∧H f.1 f.2.1=f.2.2∧∀b,f.2.1<b→b<T→H f.1 b=[]
def Com(vs:List Vw)(H:qeP)(b:Int)(n:Nat):Prop:=∃x,qaA vs b=some x∧MajP x (fun q=>n≤(H q b).length)
def qiA(vs:List Vw)(b:Int):Int:=match qaA vs b with|some x=>qbl x|none=>0
theorem qeZ{vs:List Vw}{b:Int}{x:Vw}(h:qaA vs b=some x):qiA vs b=qbl x:=by unfold qiA;rw[h]
def Stab(vs:List Vw)(H:qeP)(B:Int)(l:List Ent):Prop:=l=[]∨∃b,b≤B∧Com vs H b l.length∧l<+:H (qiA vs b) b
def qoE(vs:List Vw)(mem:List St)(H:qeP)(b:Int)(ch:List Ent):Prop:=
 (b=(qbB vs 0).1∧ch=[])∨∃(t:Int) (F:List Int),(qbB vs 0).1≤t∧t<b∧ch≠[]∧(∀y∈vs,t≤y.1→y.1<b→MajP y (·∈F))∧
  (∀f∈F,qjE mem f b∧(∀b',t<b'→b'<b→H f b'=[])∧(H f t).length≤ch.length)∧∃f∈F,H f t=ch
def qtT(vs:List Vw)(mem:List St)(H:qeP)(b:Int):Prop:=∃x ch,qaA vs b=some x∧qoE vs mem H b ch∧∀p,H p b≠[]→ch++[qab x.1 x.2]<+:H p b
def SentOk(S:qf6)(o q:Int)(p:List UInt8):Prop:=1≤q∧(S o)[(q - 1).toNat]?=some p
def GoodE(vs:List Vw)(S:qf6)(e:Ent):Prop:=(e.o=0∧∃x∈vs,e=qab x.1 x.2)∨(e.o≠0∧SentOk S e.o e.q e.p∧∃x∈vs,e.v=x.1)
structure Core(vs:List Vw)(mem:List St)(H:qeP)(S:qf6):Prop where
 vld:qaq vs=true
 ok:∀s∈mem,VS s∧s.views<+:vs
 ids:(mem.map St.self).Nodup
 cur:∀s∈mem,H s.self s.base=s.log∧∀b,s.base<b→H s.self b=[]
 out:∀p,(∀s∈mem,s.self≠p)→(∀b,H p b=[])∧S p=[]
 log:∀p b,H p b≠[]→qaX (H p b) b=true∧b≠-1∧∃x,qaA vs b=some x∧qbr x.2 p=true
 led:∀p b,H p b<+:H (qiA vs b) b
 born:∀p b,H p b≠[]→qtT vs mem H b
 stab:∀s∈mem,Stab vs H s.base (s.log.take s.stable.toNat)
 marks:∀s∈mem,∀m∈s.marks,m.2≤((H m.1 s.base).length:Int)
 fls:∀s∈mem,∀f∈s.fls,qqT mem H (tgt s) f
 pend:∀s∈mem,s.sent=((S s.self).length:Int)∧s.pend=(S s.self).drop (qay (s.log.take s.stable.toNat) s.self)
 good:∀p b,∀e∈H p b,GoodE vs S e
def qci(vs:List Vw)(mem:List St)(H:qeP)(S:qf6)(a:Int)(m:Msg):Prop:=
 (m.kind=11→SentOk S a m.first m.pay)∧
 (m.kind=12→0≤m.first∧m.ents<+:(H a m.num).drop m.first.toNat∧m.stable≤((H a m.num).length:Int)∧Stab vs H m.num ((H a m.num).take m.stable.toNat))∧
 (m.kind=13→m.first≤((H a m.num).length:Int))∧
 (m.kind=14→qqT mem H m.num (a,m.first,m.ents))∧
 (m.kind=15→m.ents<+:H a m.num)
structure Grow(vs:List Vw)(mem:List St)(H:qeP)(S:qf6)(vs':List Vw)(mem':List St)(H':qeP)(S':qf6):Prop where
 pre:vs<+:vs'
 ok:qaq vs=true∧qaq vs'=true
 tg:∀s∈mem,∃s'∈mem',s'.self=s.self∧tgt s≤tgt s'
 up:∀p b,H p b<+:H' p b
 at_:∀p b,H' p b≠H p b→∀s'∈mem',s'.self=p→tgt s'≤b
 su:∀p,S p<+:S' p
theorem qcW{l l':List Vw}{b:Int}{x:Vw}(h:l<+:l')(hk:qaA l b=some x):qaA l' b=some x:=by
 obtain⟨r,rfl⟩:=h
 unfold qaA at *
 rw[List.find?_append,hk];rfl
theorem qa8{l:List Vw}{b:Int}{x:Vw}(h:qaA l b=some x):x∈l∧x.1=b:=by
 unfold qaA at h
 exact⟨List.mem_of_find?_eq_some h,by simpa using List.find?_some h⟩
theorem qb7{l:List Vw}(hv:qaq l=true){x:Vw}(h:x∈l):(qbB l 0).1≤x.1∧x.1≤(qaf l).1∧qan x.1 x.2=true∧0≤x.1∧∃i,i<l.length∧x=qbB l i∧x.1=(qbB l 0).1+i:=by
 obtain⟨i,hi,rfl⟩:=List.mem_iff_getElem.1 h
 have h1:=qsx hv i hi
 have h0:=(qa7 hv).1
 have h2:=qsx hv (l.length - 1) (by omega)
 have h3:=qfv hv i hi
 rw[qdW hi] at h1 h3
 have h4:=qa5 h3
 unfold qaf
 exact⟨by omega,by omega,h3,h4.1,i,hi,(qdW hi).symm,h1⟩
theorem qd9{l l':List Vw}(h:l<+:l')(hl:1≤l.length):qbB l' 0=qbB l 0:=by
 obtain⟨r,rfl⟩:=h
 unfold qbB
 rw[List.getElem?_append_left (by omega)]
theorem qnH{l l':List Vw}(h:l<+:l')(hv:qaq l=true)(hv':qaq l'=true){y:Vw}(hy:y∈l'){x:Vw}(hx:x∈l)(hle:y.1≤x.1):y∈l:=by
 obtain⟨_,_,_,_,i,hi,e1,e2⟩:=qb7 hv' hy
 obtain⟨_,_,_,_,j,hj,f1,f2⟩:=qb7 hv hx
 rw[qd9 h (by omega)] at e2
 have hij:i<l.length:=by omega
 obtain⟨r,rfl⟩:=h
 have:qbB (l++r) i=qbB l i:=by unfold qbB;rw[List.getElem?_append_left hij]
 rw[e1,this,qdW hij]
 exact List.getElem_mem _
theorem qle{l l':List Vw}{b:Int}{x:Vw}(h:l<+:l')(hk:qaA l b=some x):qiA l' b=qiA l b:=by
 rw[qeZ hk,qeZ (qcW h hk)]
theorem qbz{vs:List Vw}{s:St}(h:VS s)(hp:s.views<+:vs):qaA vs (tgt s)=some (qaf s.views):=qcW hp (qeA h.vs)
section
variable {vs vs':List Vw} {mem mem':List St} {H H':qeP} {S S':qf6}
theorem Grow.sealed(g:Grow vs mem H S vs' mem' H' S'){f T:Int}(h:qjE mem f T):qjE mem' f T:=by
 obtain⟨s,h1,h2,h3⟩:=h
 obtain⟨s',k1,k2,k3⟩:=g.tg s h1
 exact⟨s',k1,k2.trans h2,by omega⟩
theorem Grow.froz(g:Grow vs mem H S vs' mem' H' S'){f T b:Int}(h:qjE mem' f T)(hb:b<T):H' f b=H f b:=by
 apply Classical.byContradiction
 intro hn
 obtain⟨s',k1,k2,k3⟩:=h
 have:=g.at_ f b hn s' k1 k2
 omega
theorem Grow.flok(g:Grow vs mem H S vs' mem' H' S'){T:Int}{f:Fls}(h:qqT mem H T f):qqT mem' H' T f:=by
 obtain⟨h1,h2,h3,h4⟩:=h
 have h1':=g.sealed h1
 refine⟨h1',h2,?_,fun b hb hT=>?_⟩
 ·rw[g.froz h1' h2];exact h3
 ·rw[g.froz h1' hT];exact h4 b hb hT
theorem Grow.com(g:Grow vs mem H S vs' mem' H' S'){b:Int}{n:Nat}(h:Com vs H b n):Com vs' H' b n:=by
 obtain⟨x,h1,h2⟩:=h
 exact⟨x,qcW g.pre h1,h2.mono (fun a ha=>Nat.le_trans ha (g.up a b).length_le)⟩
theorem Grow.stab(g:Grow vs mem H S vs' mem' H' S'){B:Int}{l:List Ent}(h:Stab vs H B l):Stab vs' H' B l:=by
 rcases h with h|⟨b,h1,h2,h3⟩
 ·exact .inl h
 ·refine .inr ⟨b,h1,g.com h2,?_⟩
  obtain⟨x,hk,_⟩:=h2
  rw[qle g.pre hk]
  exact h3.trans (g.up _ _)
theorem Grow.birth(g:Grow vs mem H S vs' mem' H' S'){b:Int}{ch:List Ent}{x:Vw}(hk:qaA vs b=some x)(h:qoE vs mem H b ch):qoE vs' mem' H' b ch:=by
 have hf:=qd9 g.pre (qa7 g.ok.1).1
 rcases h with ⟨h1,h2⟩|⟨t,F,h1,h2,h3,h4,h5,f,h6,h7⟩
 ·exact .inl ⟨by rw[hf];exact h1,h2⟩
 ·obtain⟨hx,hxb⟩:=qa8 hk
  have hz:∀f∈F,H' f t=H f t:=fun f hf=>g.froz (g.sealed (h5 f hf).1) h2
  refine .inr ⟨t,F,by rw[hf];exact h1,h2,h3,fun y hy hy1 hy2=>h4 y (qnH g.pre g.ok.1 g.ok.2 hy hx (by omega)) hy1 hy2,fun f hf=>⟨g.sealed (h5 f hf).1,fun b' hb hb'=>?_,?_⟩,f,h6,?_⟩
  ·rw[g.froz (g.sealed (h5 f hf).1) hb'];exact(h5 f hf).2.1 b' hb hb'
  ·rw[hz f hf];exact(h5 f hf).2.2
  ·rw[hz f h6];exact h7
theorem SentOk.mono{o q:Int}{p:List UInt8}(h:SentOk S o q p)(hs:∀p,S p<+:S' p):SentOk S' o q p:=by
 obtain⟨h1,h2⟩:=h
 obtain⟨r,hr⟩:=hs o
 refine⟨h1,?_⟩
 rw[←hr,List.getElem?_append_left (List.getElem?_eq_some_iff.1 h2).1]
 exact h2
theorem GoodE.mono{e:Ent}(h:GoodE vs S e)(hv:vs<+:vs')(hs:∀p,S p<+:S' p):GoodE vs' S' e:=by
 rcases h with ⟨h1,x,h2,h3⟩|⟨h1,h2,x,h3,h4⟩
 ·exact .inl ⟨h1,x,hv.subset h2,h3⟩
 ·exact .inr ⟨h1,h2.mono hs,x,hv.subset h3,h4⟩
theorem Grow.msg(g:Grow vs mem H S vs' mem' H' S'){a:Int}{m:Msg}(h:qci vs mem H S a m):qci vs' mem' H' S' a m:=by
 obtain⟨h1,h2,h3,h4,h5⟩:=h
 refine⟨fun hk=>(h1 hk).mono g.su,fun hk=>?_,fun hk=>?_,fun hk=>g.flok (h4 hk),fun hk=>(h5 hk).trans (g.up _ _)⟩
 ·obtain⟨k1,k2,k3,k4⟩:=h2 hk
  have hu:=g.up a m.num
  have hle:=hu.length_le
  refine⟨k1,k2.trans ?_,by omega,?_⟩
  ·obtain⟨r,hr⟩:=hu
   rw[←hr]
   by_cases hd:m.first.toNat≤(H a m.num).length
   ·rw[List.drop_append_of_le_length hd];exact List.prefix_append _ _
   ·rw[List.drop_eq_nil_of_le (by omega)];exact List.nil_prefix
  ·have e:(H' a m.num).take m.stable.toNat=(H a m.num).take m.stable.toNat:=by
    obtain⟨r,hr⟩:=hu
    rw[←hr,List.take_append_of_le_length (by omega)]
   rw[e];exact g.stab k4
 ·have:=(g.up a m.num).length_le
  have:=h3 hk
  omega
theorem Core.ne_first(c:Core vs mem H S){b:Int}{x:Vw}(h:qaA vs b=some x):(qbB vs 0).1≤b∧qan x.1 x.2=true∧x∈vs∧x.1=b:=by
 obtain⟨h1,h2⟩:=qa8 h
 obtain⟨k1,_,k2,_⟩:=qb7 c.vld h1
 exact⟨by omega,k2,h1,h2⟩
theorem Core.agree(c:Core vs mem H S){b:Int}{n:Nat}(hc:Com vs H b n):∀(d:Nat) (T p:Int),T - b=d→b<T→H p T≠[]→(H (qiA vs b) b).take n<+:H p T:=by
 intro d
 induction d using Nat.strongRecOn with
 | _ d ih=>
  intro T p hd hlt hne
  obtain⟨xb,hkb,hmaj⟩:=hc
  obtain⟨b1,b2,b3,b4⟩:=c.ne_first hkb
  obtain⟨x,ch,hk,hbirth,hpre⟩:=c.born p T hne
  refine List.IsPrefix.trans ?_ (hpre p hne)
  refine List.IsPrefix.trans ?_ (List.prefix_append ch _)
  rcases hbirth with ⟨h1,_⟩|⟨t,F,h1,h2,h3,h4,h5,f,h6,h7⟩
  ·omega
  rcases Int.lt_trichotomy t b with ht|ht|ht
  ·obtain⟨a,ha1,ha2⟩:=MajP.meet b2 hmaj (h4 xb b3 (by omega) (by omega))
   have:=(h5 a ha2).2.1 b ht hlt
   rw[this] at ha1
   have:n=0:=by simpa using ha1
   subst this
   rw[List.take_zero];exact List.nil_prefix
  ·subst ht
   obtain⟨a,ha1,ha2⟩:=MajP.meet b2 hmaj (h4 xb b3 (by omega) (by omega))
   have hle:=(h5 a ha2).2.2
   have hp:=c.led f t
   rw[h7] at hp
   exact List.prefix_of_prefix_length_le (List.take_prefix _ _) hp (by rw[List.length_take];omega)
  ·have:=ih (t - b).toNat (by omega) t f (by omega) ht (by rw[h7];exact h3)
   rwa [h7] at this
theorem Com.le{b:Int}{n k:Nat}(h:Com vs H b n)(hk:k≤n):Com vs H b k:=by
 obtain⟨x,h1,h2⟩:=h
 exact⟨x,h1,h2.mono (fun a ha=>Nat.le_trans hk ha)⟩
theorem Stab.pre{B:Int}{l l':List Ent}(h:Stab vs H B l)(hp:l'<+:l):Stab vs H B l':=by
 rcases h with h|⟨b,h1,h2,h3⟩
 ·left;rw[h] at hp;exact List.prefix_nil.1 hp
 ·exact .inr ⟨b,h1,h2.le hp.length_le,hp.trans h3⟩
theorem Stab.base{B B':Int}{l:List Ent}(h:Stab vs H B l)(hB:B≤B'):Stab vs H B' l:=by
 rcases h with h|⟨b,h1,h2,h3⟩
 ·exact .inl h
 ·exact .inr ⟨b,by omega,h2,h3⟩
end
theorem qjm{l:List Ent}(h:qaw l=true):∀(j i:Nat) (hj:j<l.length) (hi:i≤j),(l[i]'(by omega)).v≤(l[j]).v:=by
 intro j
 induction j with
 | zero=>
  intro i hj hi
  have:i=0:=by omega
  subst this
  exact Int.le_refl _
 | succ j ih=>
  intro i hj hi
  by_cases he:i=j+1
  ·subst he;exact Int.le_refl _
  have h1:=ih i (by omega) (by omega)
  have h2:=(qe3 h).2 (j+1) hj
  rw[qdS (List.getElem?_eq_getElem hj)] at h2
  have hp:qgi l (j+1)=(l[j]).v:=by unfold qgi;rw[Nat.add_sub_cancel,List.getElem?_eq_getElem (by omega)]
  unfold qdN at h2
  rw[hp] at h2
  split at h2
  ·simp only[Bool.and_eq_true,Bool.or_eq_true,decide_eq_true_eq] at h2
   have:=h2.1
   omega
  ·next hn=>omega
theorem qrk{l:List Ent}(h:qaw l=true){e:Ent}(he:e∈l):e.v≤qb9 l:=by
 obtain⟨i,hi,rfl⟩:=List.mem_iff_getElem.1 he
 have:=qjm h (l.length - 1) i (by omega) (by omega)
 unfold qb9
 rw[List.getElem?_eq_getElem (by omega)]
 exact this
theorem qp3{l:List Ent}{b:Int}(h:qaX l b=true){e:Ent}(he:e∈l):e.v≤b:=by
 unfold qaX at h
 split at h
 ·simp only[decide_eq_true_eq] at h
  rw[List.eq_nil_of_length_eq_zero h] at he;cases he
 ·simp only[Bool.and_eq_true,decide_eq_true_eq] at h
  have:=qrk h.2.1 he
  omega
theorem qn5{l:List Ent}(h:l≠[]):∃e∈l,e.v=qb9 l:=by
 have hp:0<l.length:=List.length_pos_iff.2 h
 refine⟨l[l.length - 1],List.getElem_mem _,?_⟩
 unfold qb9
 rw[List.getElem?_eq_getElem (by omega)]
def upd(H:qeP)(p b:Int)(l:List Ent):qeP:=fun q c=>if q=p∧c=b then l else H q c
theorem qfc(H:qeP)(p b:Int)(l:List Ent):upd H p b l p b=l:=by unfold upd;rw[if_pos ⟨rfl,rfl⟩]
theorem qdh{H:qeP}{p b:Int}{l:List Ent}{q c:Int}(h:q≠p∨c≠b):upd H p b l q c=H q c:=by
 unfold upd;rw[if_neg (by rintro⟨h1,h2⟩;rcases h with h|h;exact h h1;exact h h2)]
theorem qa1{mem:List St}(hn:(mem.map St.self).Nodup){i:Nat}{s s':St}(hi:mem[i]?=some s){t:St}(ht:t∈mem.set i s'):t=s'∨(t∈mem∧t.self≠s.self):=by
 obtain⟨hl,hs⟩:=List.getElem?_eq_some_iff.1 hi
 obtain⟨j,hj,rfl⟩:=List.mem_iff_getElem.1 ht
 rw[List.length_set] at hj
 rw[List.getElem_set]
 split
 ·exact .inl rfl
 ·next hne=>
  refine .inr ⟨List.getElem_mem _,fun he=>hne ?_⟩
  exact qjp hn (by simpa using hl) (by simpa using hj) (by simp only[List.getElem_map];rw[he,←hs])
theorem qc8{mem:List St}{i:Nat}{s s':St}(hi:mem[i]?=some s){t:St}(ht:t∈mem):t=s∨t∈mem.set i s':=by
 obtain⟨hl,hs⟩:=List.getElem?_eq_some_iff.1 hi
 obtain⟨j,hj,rfl⟩:=List.mem_iff_getElem.1 ht
 by_cases he:i=j
 ·subst he;exact .inl hs
 ·refine .inr (List.mem_iff_getElem.2 ⟨j,by rw[List.length_set];exact hj,?_⟩)
  rw[List.getElem_set_ne he]
theorem qkH{mem:List St}{i:Nat}{s s':St}(hi:mem[i]?=some s)(h:s'.self=s.self):(mem.set i s').map St.self=mem.map St.self:=by
 obtain⟨hl,hs⟩:=List.getElem?_eq_some_iff.1 hi
 rw[List.map_set,h,←hs]
 apply List.ext_getElem
 ·simp
 ·intro j h1 h2
  rw[List.getElem_set]
  split
  ·next he=>subst he;simp
  ·rfl
def qtN(vs:List Vw)(mem:List St)(H:qeP)(s s':St):Prop:=
 (s'.base=s.base∧s.log<+:s'.log∧(s'.log=s.log∨s.base=tgt s))∨
 (s.base<tgt s∧s'.base=tgt s∧∃ch,qoE vs mem H (tgt s) ch∧ch++[qab (qaf s.views).1 (qaf s.views).2]<+:s'.log∧∀p,H p (tgt s)≠[]→ch++[qab (qaf s.views).1 (qaf s.views).2]<+:H p (tgt s))
section
variable {vs:List Vw} {mem:List St} {H:qeP} {S S':qf6} {i:Nat} {s s':St}
theorem Core.grow(c:Core vs mem H S)(hi:mem[i]?=some s)(hself:s'.self=s.self)(hvws:s'.views=s.views)(hS:∀p,S p<+:S' p)(hb:qtN vs mem H s s') :
  Grow vs mem H S vs (mem.set i s') (upd H s.self s'.base s'.log) S':=by
 have hsm:s∈mem:=List.mem_of_getElem? hi
 have hl:=(List.getElem?_eq_some_iff.1 hi).1
 have ht:tgt s'=tgt s:=by unfold tgt;rw[hvws]
 obtain⟨c1,c2⟩:=c.cur s hsm
 refine⟨List.prefix_rfl,⟨c.vld,c.vld⟩,fun t htm=>?_,fun p b=>?_,fun p b hne t htm he=>?_,hS⟩
 ·rcases qc8 (s':=s') hi htm with rfl|h
  ·exact⟨s',List.mem_set hl _,hself,by omega⟩
  ·exact⟨t,h,rfl,Int.le_refl _⟩
 ·by_cases hpb:p=s.self∧b=s'.base
  ·obtain⟨rfl,rfl⟩:=hpb
   rw[qfc]
   rcases hb with ⟨h1,h2,_⟩|⟨h1,h2,_⟩
   ·rw[h1,c1];exact h2
   ·rw[h2,c2 _ h1];exact List.nil_prefix
  ·rw[qdh (by rcases Classical.em (p=s.self) with h|h;exact .inr (fun e=>hpb ⟨h,e⟩);exact .inl h)]
   exact List.prefix_rfl
 ·have hpb:p=s.self∧b=s'.base:=by
   apply Classical.byContradiction
   intro hpb
   exact hne (qdh (by rcases Classical.em (p=s.self) with h|h;exact .inr (fun e=>hpb ⟨h,e⟩);exact .inl h))
  obtain⟨rfl,rfl⟩:=hpb
  rcases qa1 c.ids hi htm with rfl|⟨_,h⟩
  ·rw[ht]
   rcases hb with ⟨h1,_,h3⟩|⟨_,h2,_⟩
   ·rcases h3 with h3|h3
    ·exact absurd (by rw[qfc,h1,c1];exact h3) hne
    ·omega
   ·omega
  ·exact absurd he h
theorem Core.step(c:Core vs mem H S)(hi:mem[i]?=some s)(hv:VS s')(hself:s'.self=s.self)(hvws:s'.views=s.views)(hS:∀p,p≠s.self→S' p=S p)(hSu:S s.self<+:S' s.self)
  (hb:qtN vs mem H s s') (hled:s.self=qiA vs s'.base∨s'.log<+:H (qiA vs s'.base) s'.base) (hstab:Stab vs H s'.base (s'.log.take s'.stable.toNat))
  (hm:∀m∈s'.marks,m.2≤((H m.1 s'.base).length:Int)) (hf:∀f∈s'.fls,qqT mem H (tgt s) f)
  (hp:s'.sent=((S' s.self).length:Int)∧s'.pend=(S' s.self).drop (qay (s'.log.take s'.stable.toNat) s.self)) (hg:∀e∈s'.log,GoodE vs S' e) :
  Core vs (mem.set i s') (upd H s.self s'.base s'.log) S'∧∀a m,qci vs mem H S a m→qci vs (mem.set i s') (upd H s.self s'.base s'.log) S' a m:=by
 have hSall:∀p,S p<+:S' p:=fun p=>by
  by_cases h:p=s.self
  ·subst h;exact hSu
  ·rw[hS p h];exact List.prefix_rfl
 have g:=c.grow hi hself hvws hSall hb
 refine⟨?_,fun a m h=>g.msg h⟩
 have hsm:s∈mem:=List.mem_of_getElem? hi
 have ht:tgt s'=tgt s:=by unfold tgt;rw[hvws]
 obtain⟨c1,c2⟩:=c.cur s hsm
 have hle:s.base≤s'.base:=by rcases hb with ⟨h1,_⟩|⟨h1,h2,_⟩<;>omega
 have split:∀p b,(p=s.self∧b=s'.base)∨(p≠s.self∨b≠s'.base):=fun p b=>by
  rcases Classical.em (p=s.self) with h|h
  ·rcases Classical.em (b=s'.base) with h'|h'
   ·exact .inl ⟨h,h'⟩
   ·exact .inr (.inr h')
  ·exact .inr (.inl h)
 refine⟨c.vld,fun t htm=>?_,by rw[qkH hi hself];exact c.ids,fun t htm=>?_,fun p hp=>?_,fun p b hne=>?_,fun p b=>?_,fun p b hne=>?_,fun t htm=>?_,fun t htm m hmm=>?_,fun t htm f hff=>?_,fun t htm=>?_,fun p b e he=>?_⟩
 ·rcases qa1 c.ids hi htm with rfl|⟨h,_⟩
  ·exact⟨hv,by rw[hvws];exact(c.ok s hsm).2⟩
  ·exact c.ok t h
 ·rcases qa1 c.ids hi htm with rfl|⟨h,h'⟩
  ·rw[hself]
   refine⟨qfc _ _ _ _,fun b hb'=>?_⟩
   rw[qdh (.inr (by omega))]
   exact c2 b (by omega)
  ·obtain⟨k1,k2⟩:=c.cur t h
   exact⟨by rw[qdh (.inl h')];exact k1,fun b hb'=>by rw[qdh (.inl h')];exact k2 b hb'⟩
 ·have hps:p≠s.self:=fun e=>hp s' (List.mem_set (List.getElem?_eq_some_iff.1 hi).1 _) (by rw[hself];exact e.symm)
  obtain⟨k1,k2⟩:=c.out p (fun t htm he=>by
   rcases qc8 (s':=s') hi htm with rfl|h
   ·exact hps he.symm
   ·exact hp t h he)
  exact⟨fun b=>by rw[qdh (.inl hps)];exact k1 b,by rw[hS p hps];exact k2⟩
 ·rcases split p b with ⟨rfl,rfl⟩|h
  ·rw[qfc] at hne⊢
   have hbd:=hv.based
   have hn1:s'.base≠-1:=fun e=>by
    unfold qaX at hbd
    rw[if_pos e] at hbd
    simp only[decide_eq_true_eq] at hbd
    exact hne (List.eq_nil_of_length_eq_zero hbd)
   refine⟨hbd,hn1,?_⟩
   rcases hv.known with hk|⟨x,hk,hx⟩
   ·exact absurd hk hn1
   ·rw[hvws] at hk;rw[hself] at hx
    exact⟨x,qcW (c.ok s hsm).2 hk,hx⟩
  ·rw[qdh h] at hne⊢
   exact c.log p b hne
 ·rcases split p b with ⟨rfl,rfl⟩|h
  ·rw[qfc]
   by_cases hq:qiA vs s'.base=s.self
   ·rw[hq,qfc];exact List.prefix_rfl
   ·rw[qdh (.inl hq)]
    rcases hled with h|h
    ·exact absurd h.symm hq
    ·exact h
  ·rw[qdh h]
   exact(c.led p b).trans (g.up _ _)
 ·have old:∀q,H q b≠[]→(b≠s'.base∨s'.base=s.base)→qtT vs (mem.set i s') (upd H s.self s'.base s'.log) b:=fun q hq hor=>by
   obtain⟨x,ch,k1,k2,k3⟩:=c.born q b hq
   refine⟨x,ch,k1,g.birth k1 k2,fun r hr=>?_⟩
   rcases split r b with ⟨rfl,rfl⟩|h
   ·have hb0:s'.base=s.base:=by rcases hor with h|h;exact absurd rfl h;exact h
    have hbk:s.base≠-1:=by rw[←hb0];exact(c.log q _ hq).2.1
    have hsl:H s.self s'.base≠[]:=by rw[hb0,c1];exact List.ne_nil_of_length_pos ((c.ok s hsm).1.log hbk).1
    exact(k3 _ hsl).trans (g.up _ _)
   ·rw[qdh h] at hr⊢
    exact k3 r hr
  by_cases hbb:b=s'.base
  ·subst hbb
   rcases hb with ⟨h1,h2,h3⟩|⟨h1,h2,ch,h3,h4,h5⟩
   ·have hbk:s.base≠-1:=by
     rcases split p s'.base with ⟨rfl,_⟩|h
     ·rw[qfc] at hne
      intro e
      have hbd:=hv.based
      unfold qaX at hbd
      rw[if_pos (by omega)] at hbd
      simp only[decide_eq_true_eq] at hbd
      exact hne (List.eq_nil_of_length_eq_zero hbd)
     ·rw[qdh h] at hne
      rw[←h1];exact(c.log p _ hne).2.1
    exact old s.self (by rw[h1,c1];exact List.ne_nil_of_length_pos ((c.ok s hsm).1.log hbk).1) (.inr h1)
   ·rw[h2]
    have hk:=qbz (c.ok s hsm).1 (c.ok s hsm).2
    refine⟨_,ch,hk,by rw[←h2];exact g.birth (by rw[h2];exact hk) (by rw[h2];exact h3),fun r hr=>?_⟩
    rcases split r (tgt s) with ⟨rfl,_⟩|h
    ·have e:upd H s.self (tgt s) s'.log s.self (tgt s)=s'.log:=qfc _ _ _ _
     rw[e];exact h4
    ·rw[h2] at h
     rw[qdh h] at hr⊢
     exact h5 r hr
  ·rw[qdh (.inr hbb)] at hne
   exact old p hne (.inl hbb)
 ·rcases qa1 c.ids hi htm with rfl|⟨h,_⟩
  ·exact g.stab hstab
  ·exact g.stab (c.stab t h)
 ·rcases qa1 c.ids hi htm with rfl|⟨h,_⟩
  ·have:=hm m hmm;have:=(g.up m.1 t.base).length_le;omega
  ·have:=c.marks t h m hmm;have:=(g.up m.1 t.base).length_le;omega
 ·rcases qa1 c.ids hi htm with rfl|⟨h,_⟩
  ·rw[ht];exact g.flok (hf f hff)
  ·exact g.flok (c.fls t h f hff)
 ·rcases qa1 c.ids hi htm with rfl|⟨h,h'⟩
  ·rw[hself];exact hp
  ·rw[hS _ h'];exact c.pend t h
 ·rcases split p b with ⟨rfl,rfl⟩|h
  ·rw[qfc] at he;exact hg e he
  ·rw[qdh h] at he;exact(c.good p b e he).mono List.prefix_rfl hSall
end
def Step1(vs:List Vw)(mem:List St)(H:qeP)(S:qf6)(i:Nat)(s':St)(S':qf6):Prop:=
 ∃H',Core vs (mem.set i s') H' S'∧∀a m,qci vs mem H S a m→qci vs (mem.set i s') H' S' a m
theorem Step1.next{vs:List Vw}{mem:List St}{H:qeP}{S S' S'':qf6}{i:Nat}{s' s'':St}(h:Step1 vs mem H S i s' S')(hi:i<mem.length)
  (k:∀mem' H',Core vs mem' H' S'→mem'[i]?=some s'→(∀a m,qci vs mem H S a m→qci vs mem' H' S' a m)→Step1 vs mem' H' S' i s'' S''):Step1 vs mem H S i s'' S'':=by
 obtain⟨H1,c1,a1⟩:=h
 obtain⟨H2,c2,a2⟩:=k _ H1 c1 (by rw[List.getElem?_set_self hi]) a1
 rw[List.set_set] at c2 a2
 exact⟨H2,c2,fun a m hm=>a2 a m (a1 a m hm)⟩
theorem VS.base_le{s:St}(h:VS s):s.base≤tgt s:=by
 have h1:=qa5 h.last
 unfold tgt
 rcases h.known with hk|⟨v,hk,_⟩
 ·omega
 ·obtain⟨k1,k2⟩:=qa8 hk
  have:=(qb7 h.vs k1).2.1
  omega
theorem qdf{s:St}(ho:qaL s=true):s.base=tgt s:=by unfold qaL at ho;simpa[tgt] using ho
theorem qeD{s:St}(h:VS s)(ho:qaL s=false):s.base<tgt s:=by
 have h1:=h.base_le
 have h2:s.base≠tgt s:=by unfold qaL at ho;simpa[tgt] using ho
 omega
section
variable {vs:List Vw} {mem:List St} {H:qeP} {S S':qf6} {i:Nat} {s s':St}
theorem Core.here(c:Core vs mem H S)(hi:mem[i]?=some s):s∈mem∧VS s∧s.views<+:vs∧i<mem.length:=
 have hm:=List.mem_of_getElem? hi
 ⟨hm,(c.ok s hm).1,(c.ok s hm).2,(List.getElem?_eq_some_iff.1 hi).1⟩
theorem Core.refl(c:Core vs mem H S)(hi:mem[i]?=some s):Step1 vs mem H S i s S:=by
 have e:mem.set i s=mem:=by
  obtain⟨hl,hs⟩:=List.getElem?_eq_some_iff.1 hi
  rw[←hs];exact List.set_getElem_self _
 refine⟨H,?_,fun a m h=>?_⟩
 ·rw[e];exact c
 ·rw[e];exact h
theorem Core.tweak(c:Core vs mem H S)(hi:mem[i]?=some s)(hv:VS s')(hself:s'.self=s.self)(hvws:s'.views=s.views)(hbase:s'.base=s.base)(hlog:s'.log=s.log)
  (hstab:Stab vs H s.base (s.log.take s'.stable.toNat)) (hm:∀m∈s'.marks,m.2≤((H m.1 s.base).length:Int)) (hf:∀f∈s'.fls,qqT mem H (tgt s) f)
  (hp:s'.sent=((S s.self).length:Int)∧s'.pend=(S s.self).drop (qay (s.log.take s'.stable.toNat) s.self)):Step1 vs mem H S i s' S:=by
 obtain⟨hsm,hvs,hpre,hl⟩:=c.here hi
 have c1:=(c.cur s hsm).1
 obtain⟨k1,k2⟩:=c.step hi hv hself hvws (fun _ _=>rfl) List.prefix_rfl (.inl ⟨hbase,by rw[hlog];exact List.prefix_rfl,.inl hlog⟩) (.inr (by rw[hbase,hlog,←c1];exact c.led _ _))
  (by rw[hbase,hlog];exact hstab) (by rw[hbase];exact hm) hf (by rw[hlog];exact hp) (fun e he=>c.good s.self s.base e (by rw[c1,←hlog];exact he))
 exact⟨_,k1,k2⟩
theorem Core.extend(c:Core vs mem H S)(hi:mem[i]?=some s)(ho:qaL s=true){ex:List Ent}(hv:VS {s with log:=s.log++ex})(hled:qaN s=true∨s.log++ex<+:H (qiA vs s.base) s.base)
  (hg:∀e∈ex,GoodE vs S e):Step1 vs mem H S i {s with log:=s.log++ex} S:=by
 obtain⟨hsm,hvs,hpre,hl⟩:=c.here hi
 have c1:=(c.cur s hsm).1
 have hst:=hvs.st;have hst0:=hvs.st0
 have e1:(s.log++ex).take s.stable.toNat=s.log.take s.stable.toNat:=List.take_append_of_le_length (by omega)
 obtain⟨k1,k2⟩:=c.step hi hv rfl rfl (fun _ _=>rfl) List.prefix_rfl (.inl ⟨rfl,List.prefix_append _ _,.inr (qdf ho)⟩) (by
   rcases hled with h|h
   ·left
    rw[qeZ (by show qaA vs s.base=_;rw[qdf ho];exact qbz hvs hpre)]
    unfold qaN at h;simp only[decide_eq_true_eq] at h;exact h.symm
   ·exact .inr h)
  (by show Stab vs H s.base ((s.log++ex).take _);rw[e1];exact c.stab s hsm) (c.marks s hsm) (c.fls s hsm) (by show _∧s.pend=(S s.self).drop (qay ((s.log++ex).take _) _);rw[e1];exact c.pend s hsm)
  (fun e he=>by
   rcases List.mem_append.1 he with he|he
   ·exact c.good s.self s.base e (by rw[c1];exact he)
   ·exact hg e he)
 exact⟨_,k1,k2⟩
theorem qi9{L:List (List UInt8)}{s:St}{k:Nat}{q:Int}(h1:s.sent=(L.length:Int))(h2:s.pend=L.drop k)(h3:(k:Int)<q)(h4:q≤s.sent):1≤q∧L[(q - 1).toNat]?=some (qcc s q):=by
 refine⟨by omega,?_⟩
 unfold qcc
 have hk:k+((s.pend.length:Int) - 1 - (s.sent - q)).toNat=(q - 1).toNat:=by rw[h2,List.length_drop];omega
 have:s.pend[((s.pend.length:Int) - 1 - (s.sent - q)).toNat]?=L[(q - 1).toNat]?:=by
  rw[h2,List.getElem?_drop,←h2,hk]
 rw[this,List.getElem?_eq_getElem (by omega)]
 rfl
theorem own_ne{o:Int}(h:qb2 o=true):o≠0:=by unfold qb2 at h;simp at h;omega
theorem Core.base_mem(c:Core vs mem H S)(hi:mem[i]?=some s)(ho:qaL s=true):∃x∈vs,s.base=x.1:=by
 obtain⟨hsm,hvs,hpre,hl⟩:=c.here hi
 obtain⟨k1,k2⟩:=qa8 (qbz hvs hpre)
 exact⟨_,k1,by rw[qdf ho];exact k2.symm⟩
theorem Core.take(c:Core vs mem H S)(hi:mem[i]?=some s)(ho:qaL s=true)(hl:qaN s=true):Step1 vs mem H S i (qbY s) S:=by
 obtain⟨hsm,hvs,hpre,hlen⟩:=c.here hi
 obtain⟨p1,p2⟩:=c.pend s hsm
 have hw:=qco s.log s.stable.toNat s.self
 refine c.extend hi ho (ex:=(List.range (qbQ s)).map fun i:Nat=>⟨s.base,s.self,qay s.log s.self+1+i,qcc s (qay s.log s.self+1+i)⟩) ((Good.begin hvs []).take ho).vs (.inl hl) (fun e he=>?_)
 obtain⟨j,hj,rfl⟩:=List.mem_map.1 he
 have hj':=List.mem_range.1 hj
 unfold qbQ at hj'
 refine .inr ⟨own_ne hvs.self,qi9 (q:=(qay s.log s.self:Int)+1+j) p1 p2 (by omega) (by omega),c.base_mem hi ho⟩
theorem Core.raise(c:Core vs mem H S)(hi:mem[i]?=some s){n:Int}(hn:s.stable<n)(hl:n≤s.log.length)(hst:Stab vs H s.base (s.log.take n.toNat)) :
  Step1 vs mem H S i {s with pend:=s.pend.drop (qay (qdC s.log s.stable n) s.self),stable:=n} S:=by
 obtain⟨hsm,hvs,hpre,hlen⟩:=c.here hi
 have h0:=hvs.st0
 obtain⟨p1,p2⟩:=c.pend s hsm
 refine c.tweak hi (hvs.raise hn hl) rfl rfl rfl rfl hst (c.marks s hsm) (c.fls s hsm) ⟨p1,?_⟩
 show s.pend.drop _=_
 have e1:s.log.take n.toNat=s.log.take s.stable.toNat++qdC s.log s.stable n:=by
  unfold qdC
  rw[show s.log.take s.stable.toNat=(s.log.take n.toNat).take s.stable.toNat by rw[List.take_take,Nat.min_eq_left (by omega)],List.take_append_drop]
 show s.pend.drop (qay (qdC s.log s.stable n) s.self)=(S s.self).drop (qay (s.log.take n.toNat) s.self)
 rw[e1,qeu,p2,List.drop_drop]
theorem Core.raiseF(c:Core vs mem H S)(hi:mem[i]?=some s){n:Int}(hl:n≤s.log.length)(hst:s.stable<n→Stab vs H s.base (s.log.take n.toNat))(pk:List (Int×List UInt8))(dl:List Ent) :
  Step1 vs mem H S i (raiseF ⟨s,pk,dl⟩ n).s S:=by
 unfold Proofs.YtponbabbabnaeaaGreat.raiseF
 split
 ·exact c.refl hi
 ·next h=>exact c.raise hi (by simp only at h;omega) hl (hst (by simp only at h;omega))
theorem qp0{l:List Int}{k:Nat}{y:Int}(hk:k≤l.length)(hy:(qel l)[l.length - k]?=some y):k≤l.countP (fun x=>decide (y≤x)):=by
 rw[(qcR l).symm.countP_eq]
 have h1:((qel l).drop (l.length - k)).countP (fun x=>decide (y≤x))=k:=by
  rw[List.countP_eq_length.2,List.length_drop,qfp]
  ·omega
  ·intro x hx
   obtain⟨j,hj,rfl⟩:=List.mem_iff_getElem.1 hx
   rw[List.getElem_drop]
   obtain⟨hy1,rfl⟩:=List.getElem?_eq_some_iff.1 hy
   rw[List.length_drop] at hj
   simp only[decide_eq_true_eq]
   rcases Nat.eq_zero_or_pos j with h0|h0
   ·subst h0;exact Int.le_refl _
   ·exact List.pairwise_iff_getElem.1 (qf0 l) _ _ hy1 (by omega) (by omega)
 have h2:=List.Sublist.countP_le (p:=fun x=>decide (y≤x)) (List.drop_sublist (l.length - k) (qel l))
 omega
theorem Core.announce(c:Core vs mem H S)(hi:mem[i]?=some s)(ho:qaL s=true)(hl:qaN s=true)(pk:List (Int×List UInt8))(dl:List Ent):Step1 vs mem H S i (qap ⟨s,pk,dl⟩).s S:=by
 obtain⟨hsm,hvs,hpre,hlen⟩:=c.here hi
 have c1:=(c.cur s hsm).1
 unfold qap
 simp only
 split
 ·exact c.refl hi
 ·next hneed=>
  obtain⟨m1,m2,m3⟩:=qep (qgs (qb1.2 hvs))
  obtain⟨k,hk⟩:∃k:Nat,qgI (qaf s.views).2.length=k:=⟨(qgI (qaf s.views).2.length).toNat,by omega⟩
  rw[hk] at hneed⊢
  have hkl:k≤(qcV s).length:=by omega
  rw[show (((qcV s).length:Int) - k).toNat=(qcV s).length - k by omega]
  cases hx:(qel (qcV s))[(qcV s).length - k]? with
  | none=>exact c.raiseF hi (by simp) (fun h=>by have:=hvs.st0;simp only[Option.getD_none] at h;omega) pk dl
  | some y=>
   have hy1:y∈qcV s:=(qcR _).mem_iff.1 (List.mem_of_getElem? hx)
   have hyl:y≤s.log.length:=by
    unfold qcV at hy1
    rcases List.mem_cons.1 hy1 with rfl|hy1
    ·exact Int.le_refl _
    ·obtain⟨m,hm,rfl⟩:=List.mem_map.1 hy1
     exact(hvs.mks m hm).2.2.2
   simp only[Option.getD_some]
   refine c.raiseF hi hyl (fun hlt=>?_) pk dl
   have h0:=hvs.st0
   have hcom:Com vs H s.base y.toNat:=by
    refine⟨qaf s.views,by rw[qdf ho];exact qbz hvs hpre,s.self::(s.marks.filter fun m=>decide (y≤m.2)).map Prod.fst,?_,?_,?_⟩
    ·refine List.nodup_cons.2 ⟨fun hm=>?_,?_⟩
     ·obtain⟨m,hm,he⟩:=List.mem_map.1 hm
      exact(hvs.mks m (List.mem_filter.1 hm).1).1 he
     ·have h1:((s.marks.filter fun m=>decide (y≤m.2)).map Prod.fst).Pairwise (·<·):=List.Pairwise.sublist ((List.filter_sublist).map _) hvs.mka.1
      exact List.Pairwise.imp (fun h=>by omega) h1
    ·intro a ha
     rcases List.mem_cons.1 ha with rfl|ha
     ·exact⟨qb4.1 (hvs.lead_has hl),by show y.toNat≤(H s.self s.base).length;rw[c1];omega⟩
     ·obtain⟨m,hm,rfl⟩:=List.mem_map.1 ha
      obtain⟨hm1,hm2⟩:=List.mem_filter.1 hm
      simp only[decide_eq_true_eq] at hm2
      refine⟨qb4.1 (hvs.mks m hm1).2.1,?_⟩
      have:=c.marks s hsm m hm1
      show y.toNat≤(H m.1 s.base).length
      omega
    ·rw[hk]
     have h1:=qp0 hkl hx
     unfold qcV at h1
     rw[List.countP_cons,List.countP_map,List.countP_eq_length_filter] at h1
     simp only[List.length_cons,List.length_map]
     have e1:((fun x=>decide (y≤x))∘fun m:Int×Int=>m.2)=fun m=>decide (y≤m.2):=rfl
     rw[e1] at h1
     split at h1<;>omega
   refine .inr ⟨s.base,Int.le_refl _,?_,?_⟩
   ·rw[List.length_take,Nat.min_eq_left (by omega)];exact hcom
   ·exact(List.take_prefix _ _).trans (by have:=c.led s.self s.base;rw[c1] at this;exact this)
theorem Core.enter(c:Core vs mem H S)(hi:mem[i]?=some s)(ho:qaL s=false){l:List Ent}(hv:VS {s with base:=tgt s,log:=l,fls:=[]})(hpre0:l.take s.stable.toNat=s.log.take s.stable.toNat)
  {ch:List Ent} (hb:qoE vs mem H (tgt s) ch) (h1:ch++[qab (qaf s.views).1 (qaf s.views).2]<+:l) (h2:∀p,H p (tgt s)≠[]→ch++[qab (qaf s.views).1 (qaf s.views).2]<+:H p (tgt s))
  (hled:s.self=qbl (qaf s.views)∨l<+:H (qbl (qaf s.views)) (tgt s)) (hg:∀e∈l,GoodE vs S e):Step1 vs mem H S i {s with base:=tgt s,log:=l,fls:=[]} S:=by
 obtain⟨hsm,hvs,hpre,hlen⟩:=c.here hi
 have hlt:=qeD hvs ho
 have hm:s.marks=[]:=by
  rcases hvs.mk0 with hm|⟨hm,_⟩
  ·exact hm
  ·rw[ho] at hm;cases hm
 obtain⟨k1,k2⟩:=c.step hi hv rfl rfl (fun _ _=>rfl) List.prefix_rfl (.inr ⟨hlt,rfl,ch,hb,h1,h2⟩) (by rw[show qiA vs ({s with base:=tgt s,log:=l,fls:=[]}:St).base=qbl (qaf s.views) from qeZ (qbz hvs hpre)];exact hled)
  (by show Stab vs H (tgt s) (l.take s.stable.toNat);rw[hpre0];exact(c.stab s hsm).base (by omega)) (fun m hm'=>by have:m∈s.marks:=hm';rw[hm] at this;cases this) (fun f hf=>by cases hf)
  (by show _∧s.pend=(S s.self).drop (qay (l.take s.stable.toNat) s.self);rw[hpre0];exact c.pend s hsm) hg
 exact⟨_,k1,k2⟩
end
theorem qm3 {P : Prop} (h : P := by
 exact⟨(qfi _).1,(qfi _).2,Nat.zero_le _,fun e=>by simp only at e;omega⟩) : P := h
theorem qrq(r:Rd):(qdr r).1≤1099511627776:=by
 unfold qdr
 split
 ·simp
 ·simp only;omega
theorem qhI:∀(n:Nat) (r:Rd) (out:List Ent),(∀e∈out,e.p.length≤6000)→(qb5 n r out).1.length≤out.length+n∧∀e∈(qb5 n r out).1,e.p.length≤6000
 | 0,_,out,h=>⟨Nat.le_refl _,h⟩
 | n+1,r,out,h=>by
  unfold qb5
  split
  ·exact⟨Nat.le_add_right _ _,h⟩
  ·have:=qhI n (qoI r).2 (out++[(qoI r).1]) (fun e he=>by
    rcases List.mem_append.1 he with he|he
    ·exact h e he
    ·simp only[List.mem_cons,List.not_mem_nil,or_false] at he
     subst he
     exact qir _)
   refine⟨Nat.le_trans this.1 (by simp;omega),this.2⟩
theorem qml:∀(n:Nat) (r:Rd) (out:List Ent),r.2=true→(qb5 n r out).1=out
 | 0,_,_,_=>rfl
 | n+1,r,out,h=>by unfold qb5;rw[if_pos h]
theorem qfi(r:Rd):(qcT r).1.length≤2000∧∀e∈(qcT r).1,e.p.length≤6000:=by
 unfold qcT
 by_cases h:2000<(qdr r).1
 ·rw[if_pos h,qml _ _ _ rfl]
  exact⟨Nat.zero_le _,fun e he=>by cases he⟩
 ·rw[if_neg h]
  have:=qhI (qdr r).1.toNat (qdr r).2 [] (fun e he=>by cases he)
  have h0:=qiz r
  exact⟨Nat.le_trans this.1 (by simp;omega),this.2⟩
theorem qqg{kind:Int}{r r':Rd}{m:Msg}(h:qec kind r=some (m,r')):m.ents.length≤2000∧(∀e∈m.ents,e.p.length≤6000)∧m.pay.length≤6000∧(m.kind=12→0≤m.first∧m.first≤1099511627776):=by
 unfold qec at h
 simp only at h
 repeat' split at h
 all_goals first|cases h|(simp only[Option.some.injEq,Prod.mk.injEq] at h;obtain⟨rfl,_⟩:=h)
 ·exact⟨Nat.zero_le _,(fun e he=>by cases he),qir _,fun e=>by simp only at e;omega⟩
 ·exact⟨(qfi _).1,(qfi _).2,Nat.zero_le _,fun _=>⟨qiz _,qrq _⟩⟩
 ·exact⟨Nat.zero_le _,(fun e he=>by cases he),Nat.zero_le _,fun e=>by simp only at e;omega⟩
 ·exact qm3
 ·exact qm3
theorem qpG{frame:List UInt8}{m:Msg}(h:qa3 frame=some m):m.ents.length≤2000∧(∀e∈m.ents,e.p.length≤6000)∧m.pay.length≤6000∧(m.kind=12→0≤m.first∧m.first≤1099511627776):=by
 unfold qa3 at h
 simp only at h
 split at h
 ·cases h
 ·split at h
  ·cases h
  ·next m' r hb=>
   split at h
   ·simp only[Option.some.injEq] at h
    subst h
    exact qqg hb
   ·cases h
theorem qnT {P : Prop} (h : P := by
 have h2:=qfg (l:=l) (fun e he=>(h e he).2.2.2)
 have h3:=qaD [(l.length:Int)]
 simp only[qbd,List.length_append,List.length_cons,List.length_nil] at *
 omega) : P := h
theorem qj3 {P : Prop} (h : P := by
 have:=qmR hl h []
 rw[List.append_nil] at this
 simp[this]) : P := h
def qiH(n:Int):Prop:=0≤n∧n≤1099511627776
theorem qsN{n:Int}(h:qiH n):(uN n:Int)=n∧uN n<2 ^ 63:=by
 obtain⟨h0,h1⟩:=h
 unfold uN
 have:n % 18446744073709551616=n:=Int.emod_eq_of_lt h0 (by omega)
 rw[this]
 omega
theorem qbK{n:Int}(h:qiH n)(r:List UInt8):qdr (qaS (uN n)++r,false)=(n,(r,false)):=by
 obtain⟨h1,h2⟩:=qsN h
 have h3:=h.2
 unfold qdr
 simp only[qeE h2 r]
 rw[if_neg (by omega),h1]
 unfold qd7
 simp
theorem qrU(n:Int):qav [n]=qaS (uN n):=by simp[qav]
theorem qgn:qav []=[]:=rfl
theorem qfe(n:Int)(l:List Int):qav (n::l)=qaS (uN n)++qav l:=rfl
theorem qkY{n m:Nat}(h:n≤m)(hm:m<2 ^ 63)(r:List UInt8):qc9 (qaS n++r) m=(n,(qaS n).length,0):=by
 unfold qc9
 rw[qeE (by omega) r]
 simp
 omega
theorem qkL{p:List UInt8}(h:p.length≤6000)(r:List UInt8):qmz (qd5 p++r,false)=(p,(r,false)):=by
 unfold qmz qkG qd5
 simp only[List.append_assoc]
 rw[qkY h (by omega)]
 simp only[ne_eq,not_true_eq_false,if_false]
 rw[if_neg (by simp only[List.length_append];omega)]
 have e:((qaS p.length++(p++r)).drop (qaS p.length).length)=p++r:=by rw[List.drop_left'];rfl
 rw[e]
 unfold qd7
 simp only[ne_eq,not_true_eq_false,if_false,Prod.mk.injEq,and_true]
 constructor
 ·rw[List.take_left'];rfl
 ·rw[←List.drop_drop,e,List.drop_left'];rfl
def qqQ(e:Ent):Prop:=qiH e.v∧qiH e.o∧qiH e.q∧e.p.length≤6000
theorem qpl{e:Ent}(h:qqQ e)(r:List UInt8):qoI (qgQ e++r,false)=(e,(r,false)):=by
 obtain⟨h1,h2,h3,h4⟩:=h
 unfold qoI qgQ
 simp only[qfe,qgn,List.append_assoc,List.nil_append]
 simp only[qbK h1,qbK h2,qbK h3,qkL h4]
theorem qhR:∀(l:List Ent) (r:List UInt8) (out:List Ent),(∀e∈l,qqQ e)→qb5 l.length (l.flatMap qgQ++r,false) out=(out++l,(r,false))
 | [],r,out,_=>by simp[qb5]
 | e::l,r,out,h=>by
  have h1:=qpl (h e (by simp)) (l.flatMap qgQ++r)
  have h2:=qhR l r (out++[e]) (fun x hx=>h x (by simp[hx]))
  simp only[List.length_cons,List.flatMap_cons,List.append_assoc]
  unfold qb5
  simp only[Bool.false_eq_true,if_false]
  rw[h1]
  simp only
  rw[h2];simp
theorem qmR{l:List Ent}(hl:l.length≤2000)(h:∀e∈l,qqQ e)(r:List UInt8):qcT (qbd l++r,false)=(l,(r,false)):=by
 unfold qcT qbd
 rw[qrU,List.append_assoc,qbK ⟨by omega,by omega⟩]
 rw[if_neg (by omega)]
 have:=qhR l r [] h
 simpa using this
theorem qny{n:Int}(h : -1≤n∧n≤1099511627776)(r:List UInt8):qhn (qaS (zig n)++r,false)=(n,(r,false)):=by
 have h2:qkl (zig n)=n∧zig n<2 ^ 63:=by
  unfold qkl zig
  constructor
  ·split<;>split<;>omega
  ·split<;>omega
 unfold qhn qd8
 simp only[qeE h2.2 r,h2.1]
 rw[if_neg (by omega)]
 unfold qd7
 simp
theorem ql5{k:Nat}{body:List UInt8}(hk:1≤k∧k≤255)(hb:body.length≤16777216):qd6 (qa2 k body)=((k:Int),body,(qa2 k body).length,0):=by
 obtain⟨C,hC⟩:∃C,C=le4 (qf5 (qd2 k body)):=⟨_,rfl⟩
 have hC4:C.length=4:=by rw[hC];rfl
 have hs:qa2 k body=qd2 k body++C:=by unfold qa2;rw[if_pos hb,hC]
 obtain⟨n,hn⟩:∃n,n=(qaS body.length).length:=⟨_,rfl⟩
 have hp:qd2 k body=[65,71,UInt8.ofNat k]++(qaS body.length++body):=by unfold qd2;simp
 have hpl:(qd2 k body).length=3+n+body.length:=by rw[hp];simp only[List.length_append,List.length_cons,List.length_nil];omega
 have hk8:(UInt8.ofNat k).toNat=k:=by rw[UInt8.toNat_ofNat'];omega
 rw[hs]
 have h0:(qd2 k body++C)[0]?=some 65:=by rw[hp];rfl
 have h1:(qd2 k body++C)[1]?=some 71:=by rw[hp];rfl
 have h2:(qd2 k body++C)[2]?=some (UInt8.ofNat k):=by rw[hp];rfl
 have hd:(qd2 k body++C).drop 3=qaS body.length++(body++C):=by rw[hp];simp
 have ht:(qd2 k body++C).take (3+n+body.length)=qd2 k body:=by rw[←hpl,List.take_left'];rfl
 have hd2:(qd2 k body++C).drop (3+n+body.length)=C:=by rw[←hpl,List.drop_left'];rfl
 have hbd:(qd2 k body).drop (3+n)=body:=by
  rw[hp,←List.append_assoc,List.drop_left']
  simp only[List.length_append,List.length_cons,List.length_nil];omega
 unfold qd6
 rw[if_neg (by simp only[List.length_append,hpl];omega),h0,h1,h2]
 rw[if_neg (by
  simp only[ne_eq,not_true_eq_false,false_or,Option.some.injEq]
  intro e
  have:=congrArg UInt8.toNat e
  rw[hk8] at this
  simp at this
  omega)]
 simp only[hd]
 rw[qkY hb (by decide),←hn]
 simp only[ne_eq,not_true_eq_false,if_false]
 rw[if_neg (by simp only[List.length_append,hpl,hC4];omega),ht,hd2,List.take_of_length_le (by omega),if_neg (by rw[hC];simp)]
 simp only[hbd,Option.getD_some,hk8,List.length_append,hpl,hC4]
theorem qeg{k:Nat}{body:List UInt8}{m:Msg}(hk:1≤k∧k≤255)(hb:body.length≤16777216)(hm:qec (k:Int) (body,false)=some (m,([],false))):qa3 (qa2 k body)=some m:=by
 unfold qa3
 rw[ql5 hk hb]
 simp only[ne_eq,not_true_eq_false,false_or,if_false]
 rw[hm]
 simp
theorem qki{b q:Int}{p:List UInt8}(hb:qiH b)(hq:qiH q)(hp:p.length≤6000):qa3 (qa2 11 (qav [b,q]++qd5 p))=some ⟨11,b,q,0,p,[]⟩:=by
 refine qeg (k:=11) (by omega) ?_ ?_
 ·have h1:=qaD [b,q]
  have h2:=qat (v:=p.length) (by unfold U64;omega)
  simp only[qd5,List.length_append,List.length_cons,List.length_nil] at *
  omega
 ·unfold qec
  simp only[qfe,qgn,List.append_assoc,List.nil_append,qbK hb,qbK hq]
  have:=qkL hp []
  rw[List.append_nil] at this
  simp[this]
theorem qkh{b st n:Int}{l:List Ent}(hb:qiH b)(hst:qiH st)(hn:qiH n)(hl:l.length≤2000)(h:∀e∈l,qqQ e):qa3 (qa2 12 (qav [b,st,n]++qbd l))=some ⟨12,b,st,n,[],l⟩:=by
 refine qeg (k:=12) (by omega) ?_ ?_
 ·have h1:=qaD [b,st,n]
  exact qnT
 ·unfold qec
  simp only[qfe,qgn,List.append_assoc,List.nil_append,qbK hb,qbK hst,qbK hn]
  exact qj3
theorem qoM{b n:Int}(hb:qiH b)(hn:qiH n):qa3 (qa2 13 (qav [b,n]))=some ⟨13,b,n,0,[],[]⟩:=by
 refine qeg (k:=13) (by omega) ?_ ?_
 ·have h1:=qaD [b,n]
  simp only[List.length_cons,List.length_nil] at *
  omega
 ·unfold qec
  have:=qbK hn []
  rw[List.append_nil] at this
  simp[qfe,qgn,qbK hb,this]
theorem qmc{t b:Int}{l:List Ent}(ht:qiH t)(hb : -1≤b∧b≤1099511627776)(hl:l.length≤2000)(h:∀e∈l,qqQ e):qa3 (qa2 14 (qav [t]++qaS (zig b)++qbd l))=some ⟨14,t,b,0,[],l⟩:=by
 refine qeg (k:=14) (by omega) ?_ ?_
 ·have h1:=qaD [t]
  have h2:=qfg (l:=l) (fun e he=>(h e he).2.2.2)
  have h3:=qaD [(l.length:Int)]
  have h4:=qat (v:=zig b) (by unfold U64 zig;split<;>omega)
  simp only[qbd,List.length_append,List.length_cons,List.length_nil] at *
  omega
 ·unfold qec
  simp only[qrU,List.append_assoc,qbK ht,qny hb]
  exact qj3
theorem qjD{b:Int}{l:List Ent}(hb:qiH b)(hl:l.length≤2000)(h:∀e∈l,qqQ e):qa3 (qa2 15 (qav [b]++qbd l))=some ⟨15,b,0,0,[],l⟩:=by
 refine qeg (k:=15) (by omega) ?_ ?_
 ·have h1:=qaD [b]
  exact qnT
 ·unfold qec
  simp only[qrU,qbK hb]
  exact qj3
end Go.Proofs.YtponbabbabnaeaaGreat
