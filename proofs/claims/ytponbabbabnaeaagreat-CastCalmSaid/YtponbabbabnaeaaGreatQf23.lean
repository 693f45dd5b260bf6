/- Part 23 of the proof: contracts of functions that the statement reaches. Conditions: as each theorem says. -/
import Derived.Test.YtponbabbabnaeaaGreatQf01
import Derived.Test.YtponbabbabnaeaaGreatQf22
set_option maxRecDepth 100000
set_option maxHeartbeats 40000000
namespace Go.Proofs.YtponbabbabnaeaaGreat
theorem qqs{s:St}(ho:qan s=true)(hl:qas s=true){fr:Int}{m:Msg}(hk:m.kind≠11):(qao ⟨s,[],[]⟩ fr m).s.log=s.log:=by
 unfold qao;simp only;rw[if_neg (fun h=>hk h.1),if_neg (fun h=>by rw[hl] at h;cases h.2.2.1)];split
 ·unfold qco;split
  ·rfl
  ·exact(qaK _).1
 ·rw[if_neg (fun h=>by rw[ho] at h;cases h.2.1),if_neg (fun h=>by rw[ho] at h;cases h.2.1)]
section
variable {v0:Int} {k:Nat} {w w':Wd} {H:qc8} {S:qdT} {T:Vw}
theorem qiz(f:Fly){i:Nat}{s:St}(hi:w.mem[i]?=some s)(hne:s.self≠f.2.1):(qbm w f).1.mem[i]?=some s:=by
 unfold qbm;simp only;split
 ·exact hi
 ·next hc=>
  rcases qey f.2.1 w.mem 0 with ⟨g1,_⟩|⟨j,r,g1,hj,hself⟩
  ·exact absurd (.inl (by unfold qfw;rw[g1];decide)) hc
  ·have hjt:(qfw w f.2.1).toNat=j:=by unfold qfw;rw[g1];omega
   rw[hjt];split
   ·exact hi
   ·show (w.mem.set j _)[i]?=_;have hij:j≠i:=fun e=>by
     subst e;rw[hj] at hi;cases hi;exact hne hself
    rw[List.getElem?_set_ne hij];exact hi
structure Rnd(v0:Int)(k:Nat)(T:Vw)(w:Wd):Prop where
 sys:∃H S,Sys v0 k w H S
 bnd:Bnd w
 lst:qad w.views=T
 opn:Opn w.views w
 cfg:Cfg T w
 flt:Flt T w
def Lead(T:Vw)(w:Wd)(i:Nat)(s:St):Prop:=w.mem[i]?=some s∧s.self=qa1 T∧qaB w i=false
def Fol(T:Vw)(w:Wd)(j:Nat)(t:St):Prop:=w.mem[j]?=some t∧t.self≠qa1 T∧qaB w j=false
def Cmp(T:Vw)(w:Wd):Prop:=∀i s j t,Lead T w i s→w.mem[j]?=some t→qaB w j=false→t.sent≤(qar s.log t.self:Int)
def quO(T:Vw)(w:Wd)(x:Int):Prop:=∀j t,Fol T w j t→x≤t.log.length
def qu4(T:Vw)(w:Wd)(x:Int):Prop:=∀i s,Lead T w i s→∀q∈T.2,q≠s.self→∃a,qb0 s.marks q=some a∧x≤a
theorem Bnd.psd(h:Sys v0 k w H S)(b:Bnd w)(p:Psd (List.range w.mem.length) w w'):Bnd w':=by
 refine⟨?_,by rw[p.views];exact b.vw,by rw[p.views];exact b.vl,by rw[p.len];exact b.ml⟩;rw[qoP p.len fun i s t hi ht=>?_]
 ·exact b.tot
 ·cases hd:qaB w i with
  | true=>rw[p.old i s (.inr hd) hi] at ht;cases ht;rfl
  | false=>
   rw[(p.new i s (List.mem_range.2 (zZ hi).1) hd hi).1] at ht;cases ht;rw[(qa2 (qdQ h hi).1).2.2];rcases qcn h hi with e|⟨_,e,_⟩<;>rw[e]
theorem Sys.nofly(h:Sys v0 k w H S):Sys v0 k (qaR w) H S:=⟨h.core,h.first,h.vk,h.ml,h.dl,h.tl,h.sl,h.told,h.sent,fun f hf=>(by cases hf),zO _,h.two⟩
structure Step(w w1 w':Wd):Prop where
 mem:∀(i:Nat) (s:St),w.mem[i]?=some s→qaB w i=false→∃s1,w1.mem[i]?=some s1∧Up s s1∧VS s1∧qan s1=true∧s1.views=w.views∧w'.mem[i]?=some (qaM s1).s
 back:∀(i:Nat) (t:St),w'.mem[i]?=some t→∃s,w.mem[i]?=some s
 down:∀i,qaB w' i=qaB w i
theorem Rnd.calm(r:Rnd v0 k T w):(qaG w).2=true∧Rnd v0 k T (qaG w).1∧Step w (qaf w.fly w).1 (qaG w).1:=by
 obtain⟨H,S,h⟩:=r.sys;obtain⟨h1,w1,H1,S1,h2,h3,rfl,h4,h5⟩:=h.calm r.bnd;have o1:Opn (qaf w.fly w).1.views (qaf w.fly w).1:=by rw[h3.views];exact r.opn.dlv h3 h3.len
 have o1':Opn (qaR (qaf w.fly w).1).views (qaR (qaf w.fly w).1):=o1;have hlen:w.mem.length=(qaR (qaf w.fly w).1).mem.length:=h3.len.symm;rw[hlen] at h4;obtain⟨o2,f2⟩:=o1'.pass h2.nofly rfl h4;have hv:(qaG w).1.views=w.views:=h4.views.trans h3.views;have c1:Cfg T (qaR (qaf w.fly w).1):=⟨(r.cfg.dlv h3).up,(r.cfg.dlv h3).all⟩;have b1:Bnd (qaR (qaf w.fly w).1):=⟨(r.bnd.dlv h3).tot,(r.bnd.dlv h3).vw,(r.bnd.dlv h3).vl,(r.bnd.dlv h3).ml⟩;refine⟨h1,⟨h5,b1.psd h2.nofly h4,by rw[hv];exact r.lst,o2,c1.psd h2.nofly h4,by rw[hv,r.lst] at f2;exact f2⟩,⟨fun i s hi hd=>?_,fun i t ht=>?_,fun i=>?_⟩⟩
 ·obtain⟨s1,g1,u,_⟩:=h3.up i s hi;have hd1:qaB (qaf w.fly w).1 i=false:=by rw[h3.dn];exact hd
  have hv1:s1.views=w.views:=(o1 i s1 g1 hd1).1.trans h3.views;obtain⟨q1,_⟩:=h4.new i s1 (List.mem_range.2 (zZ g1).1) hd1 g1;have hl:lrn (qaR (qaf w.fly w).1) s1=s1:=by
   rcases qcn h2.nofly g1 with e|⟨e,_⟩
   ·exact e
   ·rw[hv1,show (qaR (qaf w.fly w).1).views=w.views from h3.views] at e;omega
  rw[hl] at q1;exact⟨s1,g1,u,(h2.core.here g1).2.1,o1.op g1 hd1,hv1,q1⟩
 ·have hlt:=(zZ ht).1;rw[h4.len] at hlt;have:i<w.mem.length:=by rw[←h3.len];exact hlt
  exact⟨_,zY this⟩
 ·rw[h4.dn];exact h3.dn i
theorem qd5{s1:St}(hV:VS s1)(ho:qan s1=true)(hl:qas s1=true):(qaM s1).s.log=qbc s1 (qbV s1)∧(qaM s1).s.marks=s1.marks:=by
 rw[(qeF hV ho hl).1];obtain⟨a1,a2,_⟩:=qaK (⟨qbo s1,[],[]⟩:Cs);exact⟨a1,a2⟩
theorem Step.lead(r:Rnd v0 k T w)(p:Step w w' (qaG w).1){i:Nat}{s':St}(h:Lead T (qaG w).1 i s'):∃s s1,Lead T w i s∧w'.mem[i]?=some s1∧Up s s1∧VS s1∧qan s1=true∧qas s1=true∧s'=(qaM s1).s:=by
 obtain⟨h1,h2,h3⟩:=h;have hd:qaB w i=false:=by rw[←p.down];exact h3
 obtain⟨s,hs⟩:=p.back i s' h1;obtain⟨s1,g1,u,g2,g3,g4,g5⟩:=p.mem i s hs hd;rw[h1] at g5;cases g5;rw[(qa2 g2).1] at h2;exact⟨s,s1,⟨hs,by rw[←u.self];exact h2,hd⟩,g1,u,g2,g3,by unfold qas;rw[g4,r.lst,h2];simp,rfl⟩
theorem Step.fol(r:Rnd v0 k T w)(p:Step w w' (qaG w).1){j:Nat}{t':St}(h:Fol T (qaG w).1 j t'):∃t,Fol T w j t∧w'.mem[j]?=some t'∧Up t t'∧VS t'∧qan t'=true:=by
 obtain⟨h1,h2,h3⟩:=h;have hd:qaB w j=false:=by rw[←p.down];exact h3
 obtain⟨t,ht⟩:=p.back j t' h1;obtain⟨t1,g1,u,g2,g3,g4,g5⟩:=p.mem j t ht hd;rw[h1] at g5;cases g5;rw[(qa2 g2).1] at h2;have hl:qas t1=false:=by unfold qas;rw[g4,r.lst];simpa using fun e=>h2 e.symm
 have e:=(qea g2 g3 hl).1;rw[e] at h1⊢;exact⟨t,⟨ht,by rw[←u.self];exact h2,hd⟩,g1,u,g2,g3⟩
theorem Lead.inj(r:Rnd v0 k T w){i j:Nat}{s t:St}(h:Lead T w i s)(g:Lead T w j t):i=j∧s=t:=by
 obtain⟨H,S,hs⟩:=r.sys;obtain⟨h1,h2,_⟩:=h;obtain⟨g1,g2,_⟩:=g;have hl1:=zZ h1;have hl2:=zZ g1;have hij:i=j:=qei hs.core.ids (i:=i) (j:=j) (by simpa using hl1.1) (by simpa using hl2.1) (by simp only[List.getElem_map];rw[hl1.2,hl2.2,h2,g2]);subst hij;rw[h1] at g1;cases g1;exact⟨rfl,rfl⟩
theorem Rnd.valid(r:Rnd v0 k T w):qap T.1 T.2=true∧∃i s,Lead T w i s:=by
 obtain⟨H,S,hs⟩:=r.sys;have hv:=qeY hs.core.vld;rw[r.lst] at hv;obtain⟨i,s,h1,h2,h3⟩:=r.cfg.all _ (qmF hv);exact⟨hv,i,s,h1,h2,h3⟩
theorem Rnd.cmp(r:Rnd v0 k T w):Cmp T (qaG w).1:=by
 obtain⟨H,S,h⟩:=r.sys;obtain⟨_,r',p⟩:=r.calm;intro i s' j t' hl hj hdj;obtain⟨s,s1,l1,l2,l3,l4,l5,l6,rfl⟩:=p.lead r hl;obtain⟨e1,_⟩:=qd5 l4 l5 l6;by_cases hq:t'.self=qa1 T
 ·obtain⟨_,e⟩:=Lead.inj r' hl ⟨hj,hq,hdj⟩;subst e;obtain⟨a1,a2,a3⟩:=qa2 l4;rw[a1,a3,e1,qcL];obtain⟨_,⟨H1,S1,q2⟩,q3⟩:=Sys.hands w.fly h (fun _ h=>h);have:=q2.small_s (r.bnd.dlv q3) (zX l2);have hs20:=r.bnd.sent (zX l1.1);have:=l3.sent;unfold qbV;omega
 ·obtain⟨t,f1,f2,f3,_,_⟩:=p.fol r ⟨hj,hq,hdj⟩;have hc:=qst h r.bnd r.opn (by rw[r.lst];exact r.cfg) (by rw[r.lst];exact r.flt) l1.1 l1.2.2 f1.1 f1.2.2 (by rw[r.lst];exact l1.2.1) (by rw[r.lst];exact f1.2.1) l2;rw[e1,f3.sent,f3.self];unfold qbc;rw[qbI];omega
theorem Rnd.same(r:Rnd v0 k T w)(c:Cmp T w){i j:Nat}{s s':St}(hs:Lead T w i s)(hs':Lead T (qaG w).1 j s'):i=j∧s'.log=s.log:=by
 obtain⟨H,S,h⟩:=r.sys;obtain⟨_,r',p⟩:=r.calm;obtain⟨s0,s1,l1,l2,l3,l4,l5,l6,rfl⟩:=p.lead r hs';obtain⟨rfl,rfl⟩:=Lead.inj r hs l1;refine⟨rfl,?_⟩;have hlog:∀s2,(qaf w.fly w).1.mem[i]?=some s2→s2.log=s.log:=by
  refine Sys.hands_ind (P:=fun w1=>∀s2,w1.mem[i]?=some s2→s2.log=s.log) w.fly h (fun _ h=>h) (fun s2 h2=>by rw[hs.1] at h2;cases h2;rfl) ?_;intro wa Ha Sa f ha da hf hP s2 hs2;obtain⟨sa,g1,u,_⟩:=da.up i s hs.1;have hPa:=hP sa g1;have hda:qaB wa i=false:=by rw[da.dn];exact hs.2.2
  by_cases ht:sa.self=f.2.1
  ·obtain⟨_,_,_,q4⟩:=ha.hand1 hf;obtain⟨m,m1,m2,m3⟩:=q4 i sa g1 ht hda;rw[hs2] at m3;have e:=Option.some.inj m3;rw[e];split
   ·next hn=>
    obtain⟨u1,_⟩:=u.op (r.opn.op hs.1 hs.2.2);have hld:qas sa=true:=by unfold qas;rw[u.views,(r.opn i s hs.1 hs.2.2).1,r.lst,u.self,hs.2.1];simp
    by_cases hk:m.kind=11
    ·obtain⟨n1,n2⟩:=m2.1 hk;have n3:=(zZ n2).1;obtain⟨jj,rr,b1,b2,b3⟩:=r.flt.frm f (by rw[←da.fly];exact hf);obtain⟨rr2,b4,b5,_⟩:=da.up jj rr b1;have b6:=(ha.core.pend rr2 (zX b4)).1;rw[b5.sent,b5.self,b3] at b6;have b7:=c i s jj rr hs b1 b2;rw[b3] at b7;rw[qjN (by rw[hPa];omega) hk];exact hPa
    ·rw[qqs u1 hld hk];exact hPa
   ·exact hPa
  ·rw[qiz f g1 ht] at hs2;cases hs2;exact hPa
 rw[(qd5 l4 l5 l6).1];have e1:=hlog s1 l2;have h9:=c i s i s hs hs.1 hs.2.2;have:qbV s1=0:=by unfold qbV;rw[e1,l3.sent,l3.self];omega
 rw[this];unfold qbc;simp[e1]
theorem Rnd.mrk(r:Rnd v0 k T w){x:Int}(a:quO T w x):qu4 T (qaG w).1 x:=by
 obtain⟨H,S,h⟩:=r.sys;obtain⟨_,r',p⟩:=r.calm;intro i s' hl q hq hne;obtain⟨s,s1,l1,l2,l3,l4,l5,l6,rfl⟩:=p.lead r hl;rw[(qa2 l4).1,l3.self] at hne;rw[(qd5 l4 l5 l6).2];obtain⟨j,t,j1,j2,j3⟩:=r.cfg.all q hq;have hfl:Fol T w j t:=⟨j1,by rw[j2,←l1.2.1];exact hne,j3⟩;have hin:=r.flt.ack j t j1 j3 hfl.2.1;obtain⟨fa,fb,hsp⟩:=List.append_of_mem hin;obtain⟨wa,Ha,Sa,ha,da,db,hfa,_⟩:=h.event hsp (fun _ h=>h);obtain⟨sa,g1,u,_⟩:=da.up i s l1.1;obtain⟨u1,u2,u3,u4⟩:=u.op (r.opn.op l1.1 l1.2.2);obtain⟨_,_,_,q4⟩:=ha.hand1 hfa;obtain⟨m,m1,_,m3⟩:=q4 i sa g1 (by rw[u.self,l1.2.1]) (by rw[da.dn];exact l1.2.2);obtain⟨t1,t2,t3,t4,t5,t6,t7,t8⟩:=h.logb r.opn j1 j3;rw[r.lst] at t7;have hm:m=⟨13,T.1,t.log.length,0,[],[]⟩:=by
  have e:=qmG (b:=T.1) (n:=t.log.length) t7 ⟨by omega,by omega⟩;have m1':qa7 (qa3 13 (qav [T.1,t.log.length]))=some m:=m1;rw[e] at m1';exact(Option.some.inj m1').symm
 have hva:sa.views=w.views:=u.views.trans (r.opn i s l1.1 l1.2.2).1;rw[if_pos (by rw[hm,hva,r.lst])] at m3;have hpre:=(h.led r.opn l1.1 l1.2.2 j1 j3 (by rw[r.lst];exact l1.2.1)).trans u3;obtain⟨n,n1,n2⟩:=qty (m:=m) (fr:=t.self) (ha.core.here g1).2.1 u1 (by unfold qas;rw[hva,r.lst,u.self,l1.2.1];simp) (by rw[hva,r.lst,j2];exact hq) (by rw[hm]) (by rw[hm];show (t.log.length:Int)≤_;have:=hpre.length_le;omega);obtain⟨sb,b1,b2,_⟩:=db.up i _ m3;rw[l2] at b1;cases b1;have hob:qan (qao ⟨sa,[],[]⟩ t.self m).s=true:=((Up.handle (ha.core.here g1).2.1 t.self m (by rw[hm,hva,r.lst])).op u1).1;obtain⟨n',n3,n4⟩:=(b2.op hob).2.2.2 _ _ n1;rw[hm] at n2;have n2':(t.log.length:Int)≤n:=n2;have:=a j t hfl;exact⟨n',by rw[←j2];exact n3,by omega⟩
theorem qqn{l L:List Ent}{a b:Int}(h:l<+:L):qcQ l a b<+:L.drop a.toNat:=by
 unfold qcQ;rw[List.drop_take];refine(List.take_prefix _ _).trans ?_;obtain⟨r,rfl⟩:=h;by_cases hle:a.toNat≤l.length
 ·rw[List.drop_append_of_le_length hle];exact List.prefix_append _ _
 ·rw[List.drop_eq_nil_of_le (by omega)];exact List.nil_prefix
theorem Rnd.ack(r:Rnd v0 k T w){x y:Int}(a:qu4 T w x){i:Nat}{s:St}(hs:Lead T w i s)(hy:y≤s.stable):quO T (qaG w).1 (min (x+16) s.log.length)∧∀j t',Fol T (qaG w).1 j t'→min y (min (x+16) s.log.length)≤t'.stable:=by
 obtain⟨H,S,h⟩:=r.sys;obtain⟨_,r',p⟩:=r.calm;have hkey:∀j t',Fol T (qaG w).1 j t'→min (x+16) s.log.length≤t'.log.length∧min y (min (x+16) s.log.length)≤t'.stable:=by
  intro j t' hf;obtain⟨t,f1,f2,f3,f4,f5⟩:=p.fol r hf;have hq:=r.cfg.up j t f1.1 f1.2.2;obtain⟨n,n1,n2⟩:=a i s hs t.self hq (by rw[hs.2.1];exact f1.2.1);have hin:=r.flt.app i s hs.1 hs.2.2 hs.2.1 t.self hq (by rw[hs.2.1];exact f1.2.1);unfold qgO at hin;rw[n1] at hin;simp only at hin;obtain⟨fa,fb,hsp⟩:=List.append_of_mem hin;obtain⟨wa,Ha,Sa,ha,da,db,hfa,_⟩:=h.event hsp (fun _ h=>h);obtain⟨ta,g1,u,_⟩:=da.up j t f1.1;obtain⟨sa,g2,us,_⟩:=da.up i s hs.1;have hot:=r.opn.op f1.1 f1.2.2;obtain⟨u1,u2,u3,_⟩:=u.op hot;obtain⟨v1,v2,v3,_⟩:=us.op (r.opn.op hs.1 hs.2.2);obtain⟨_,_,_,q4⟩:=ha.hand1 hfa;obtain⟨m,m1,_,m3⟩:=q4 j ta g1 u.self (by rw[da.dn];exact f1.2.2);obtain⟨t1,t2,t3,t4,t5,t6,t7,t8⟩:=h.logb r.opn hs.1 hs.2.2;rw[r.lst] at t7;obtain⟨k1,k2⟩:=r.opn i s hs.1 hs.2.2;rw[r.lst] at k2;have hmk:=t1.mks _ (qhF n1);have hcm:=h.core.marks s (zX hs.1) _ (qhF n1);simp only at hcm;have hbt:t.base=s.base:=by rw[(r.opn j t f1.1 f1.2.2).2,(r.opn i s hs.1 hs.2.2).2]
  rw[←hbt,(h.core.cur t (zX f1.1)).1] at hcm;have hn0:0≤n:=hmk.2.2.1;have hnl:n≤s.log.length:=hmk.2.2.2;have hst0:=t1.st0;have hst1:=t1.st;have hcut:qcQ s.log n (min (n+16) s.log.length)<+:sa.log.drop n.toNat:=qqn v3;have hcl:((qcQ s.log n (min (n+16) s.log.length)).length:Int)=min (n+16) s.log.length - n:=by
   unfold qcQ;rw[zD,zT];omega
  have hm:m=⟨12,T.1,n,s.stable,[],qcQ s.log n (min (n+16) s.log.length)⟩:=by
   have e:=qh0 (b:=s.base) (st:=n) (n:=s.stable) (l:=qcQ s.log n (min (n+16) s.log.length)) (by rw[k2];exact t7) ⟨hn0,by omega⟩ ⟨hst0,by omega⟩ (by omega) (fun e he=>t8 e (by unfold qcQ at he;exact List.mem_of_mem_take (List.mem_of_mem_drop he)));have m1':qa7 (qa3 12 (qav [s.base,n,s.stable]++qbe (qcQ s.log n (min (n+16) s.log.length))))=some m:=m1;rw[e,k2] at m1';exact(Option.some.inj m1').symm
  have hva:ta.views=w.views:=u.views.trans (r.opn j t f1.1 f1.2.2).1;rw[if_pos (by rw[hm,hva,r.lst])] at m3;have oa:Opn w.views wa:=r.opn.dlv da da.len;have hda:qaB wa j=false:=by rw[da.dn];exact f1.2.2
  have hds:qaB wa i=false:=by rw[da.dn];exact hs.2.2
  have hpre:=ha.led oa g2 hds g1 hda (by rw[us.self,r.lst];exact hs.2.1);have hsb:=(oa i sa g2 hds).2;have htb:=(oa j ta g1 hda).2;have hba:qaY sa.log ta.base=true:=by rw[htb,←hsb];exact(ha.core.here g2).2.1.based
  have how:(qar sa.log ta.self:Int)≤ta.sent:=by
   have:=ha.core.own_sent (zX g1) sa.self sa.base;rw[(ha.core.cur sa (zX g2)).1] at this;exact this
  obtain⟨e1,e2⟩:=qmU (m:=m) (fr:=s.self) (L:=sa.log) (ha.core.here g1).2.1 u1 (by unfold qas;rw[hva,r.lst,u.self];simpa using fun e=>f1.2.1 e.symm) (by rw[hva,r.lst];exact hs.2.1) (by rw[hm]) hpre hba how
   (by rw[hm];show 0≤n∧n≤ta.log.length;have:=u3.length_le;omega) (by rw[hm];exact hcut)
  obtain⟨tb,b1,b2,_⟩:=db.up j _ m3;rw[f2] at b1;cases b1;replace b2:Up (qao ⟨ta,[],[]⟩ s.self m).s t':=b2;have hob:qan (qao ⟨ta,[],[]⟩ s.self m).s=true:=((Up.handle (ha.core.here g1).2.1 s.self m (by rw[hm,hva,r.lst])).op u1).1;have hlb:=(b2.op hob).2.2.1.length_le;have hsb2:=b2.st;have e1':n+((qcQ s.log n (min (n+16) s.log.length)).length:Int)≤(qao ⟨ta,[],[]⟩ s.self m).s.log.length:=by rw[hm] at e1⊢;exact e1
  have e2':min s.stable (qao ⟨ta,[],[]⟩ s.self m).s.log.length≤(qao ⟨ta,[],[]⟩ s.self m).s.stable:=by rw[hm] at e2⊢;exact e2
  rw[hcl] at e1';exact⟨by omega,by omega⟩
 exact⟨fun j t' hf=>(hkey j t' hf).1,fun j t' hf=>(hkey j t' hf).2⟩
end
def qb6:Nat→Wd→Wd×Bool
 | 0,w=>(w,true)
 | n+1,w=>if (qaG w).2 then qb6 n (qaG w).1 else ((qaG w).1,false)
theorem qbP{n:Nat}{w:Wd}(h:(qaG w).2=true):qb6 (n+1) w=qb6 n (qaG w).1:=by
 show (if (qaG w).2=true then _ else _)=_;rw[if_pos h]
theorem qhX:∀(n m:Nat) (w:Wd),(qb6 n w).2=true→qb6 (n+m) w=qb6 m (qb6 n w).1
 | 0,m,w,_=>by rw[Nat.zero_add];rfl
 | n+1,m,w,h=>by
  by_cases hc:(qaG w).2=true
  ·rw[qbP hc] at h⊢;rw[show n+1+m=(n+m)+1 by omega,qbP hc];exact qhX n m _ h
  ·exfalso;have:qb6 (n+1) w=((qaG w).1,false):=by
    show (if (qaG w).2=true then _ else _)=_;rw[if_neg hc]
   rw[this] at h;cases h
section
variable {v0:Int} {k:Nat} {w w':Wd} {H:qc8} {S:qdT} {T:Vw}
theorem Rnd.stb(r:Rnd v0 k T w){x:Int}(a:qu4 T (qaG w).1 x){i:Nat}{s':St}(hs:Lead T (qaG w).1 i s')(hx:x≤s'.log.length):x≤s'.stable:=by
 obtain⟨_,r',p⟩:=r.calm;have hmk:=a i s' hs;obtain⟨s,s1,l1,l2,l3,l4,l5,l6,rfl⟩:=p.lead r hs;obtain⟨e1,e2⟩:=qd5 l4 l5 l6;have hv:qad s1.views=T:=by rw[l3.views,(r.opn i s l1.1 l1.2.2).1,r.lst]
 have hse:=(qa2 l4).1;rw[(qeF l4 l5 l6).1];rw[e1] at hx;rw[e2,hse] at hmk;obtain⟨m1,m2,m3⟩:=qeK (qf0 (qb2.2 l4));refine qm7 (s:=qbo s1) (fun y hy=>?_) ?_ m1
 ·rcases zC.1 hy with rfl|hy
  ·exact hx
  ·obtain⟨⟨q,b⟩,hq,rfl⟩:=List.mem_map.1 hy;have hok:=l4.mks _ hq;obtain⟨c,c1,c2⟩:=hmk q (by rw[←hv];exact qbq.1 hok.2.1) hok.1;rw[qht l4.mka.1 hq] at c1;cases c1;exact c2
 ·have hsub:T.2⊆s1.self::s1.marks.map Prod.fst:=fun q hq=>by
   by_cases he:q=s1.self
   ·simp[he]
   ·obtain⟨c,c1,_⟩:=hmk q hq he;exact List.mem_cons_of_mem _ (List.mem_map.2 ⟨_,qhF c1,rfl⟩)
  have hl:=(qdy r.valid.1).length_le_of_subset hsub;have hlen:(qb8 (qbo s1)).length=1+s1.marks.length:=by show (_::s1.marks.map _).length=_;simp;omega
  simp only[zK,zP] at hl;rw[hlen];show qfB (qad s1.views).2.length≤_;rw[hv] at m2 m3⊢;unfold qfB;rw[if_pos (by omega)];omega
theorem Rnd.mono(r:Rnd v0 k T w){i j:Nat}{s s':St}(hs:Lead T w i s)(hs':Lead T (qaG w).1 j s'):s.stable≤s'.stable:=by
 obtain⟨_,r',p⟩:=r.calm;obtain⟨s0,s1,l1,l2,l3,l4,l5,l6,rfl⟩:=p.lead r hs';obtain⟨rfl,rfl⟩:=Lead.inj r hs l1;rw[(qeF l4 l5 l6).1];have h1:=(Up.announce (s:=qbo s1) [] [] (by exact l5)).st;have h2:=l3.st;exact Int.le_trans h2 h1
def quZ(w:Wd):Prop:=∀(i j:Nat) (t u:St),w.mem[i]?=some t→qaB w i=false→w.mem[j]?=some u→qaB w j=false→u.sent≤(qar (t.log.take t.stable.toNat) u.self:Int)
theorem Rnd.six(r0:Rnd v0 k T w):(qb6 6 w).2=true∧Rnd v0 k T (qb6 6 w).1∧quZ (qb6 6 w).1:=by
 obtain⟨c1,r1,_⟩:=r0.calm;obtain⟨c2,r2,_⟩:=r1.calm;obtain⟨c3,r3,_⟩:=r2.calm;obtain⟨c4,r4,_⟩:=r3.calm;obtain⟨c5,r5,_⟩:=r4.calm;obtain⟨c6,r6,_⟩:=r5.calm;have e:qb6 6 w=((qaG (qaG (qaG (qaG (qaG (qaG w).1).1).1).1).1).1,true):=by
  rw[qbP c1,qbP c2,qbP c3,qbP c4,qbP c5,qbP c6];rfl
 rw[e];refine⟨rfl,r6,?_⟩;have a0:quO T w 1:=fun j t ht=>by
  obtain⟨H,S,h⟩:=r0.sys;have:=(h.logb r0.opn ht.1 ht.2.2).2.2.2.2.1;omega
 obtain⟨_,i1,s1,l1⟩:=r1.valid;obtain⟨_,i2,s2,l2⟩:=r2.valid;obtain⟨_,i3,s3,l3⟩:=r3.valid;obtain⟨_,i4,s4,l4⟩:=r4.valid;obtain⟨_,i5,s5,l5⟩:=r5.valid;obtain⟨_,i6,s6,l6⟩:=r6.valid;have p1:=r0.cmp;have p2:=r1.cmp;have p3:=r2.cmp;have p4:=r3.cmp;have p5:=r4.cmp;have p6:=r5.cmp;have g2:=(r1.same p1 l1 l2).2;have g3:=(r2.same p2 l2 l3).2;have g4:=(r3.same p3 l3 l4).2;have g5:=(r4.same p4 l4 l5).2;have g6:=(r5.same p5 l5 l6).2;have hN:s1.log.length≤22:=by
  obtain⟨H,S,h⟩:=r1.sys;exact h.small_s r1.bnd (zX l1.1)
 have m1:=r0.mrk a0;have a2:=(r1.ack (y:=s1.stable) m1 l1 (Int.le_refl _)).1;have m3:=r2.mrk a2;have a4:=(r3.ack (y:=s3.stable) m3 l3 (Int.le_refl _)).1;rw[g3,g2] at a4;have a4':quO T (qaG (qaG (qaG (qaG w).1).1).1).1 (s1.log.length:Int):=fun j t ht=>by have:=a4 j t ht;omega
 have m5:=r4.mrk a4';have z5:=r4.stb m5 l5 (by rw[g5,g4,g3,g2];exact Int.le_refl _);obtain⟨a6,b6⟩:=r5.ack (y:=(s1.log.length:Int)) m5 l5 z5;rw[g5,g4,g3,g2] at a6 b6;have z6:=Int.le_trans z5 (r5.mono l5 l6);intro i j t u hi hdi hj hdj;have hst:(s1.log.length:Int)≤t.stable:=by
  by_cases hq:t.self=qa1 T
  ·obtain⟨_,e⟩:=Lead.inj r6 l6 ⟨hi,hq,hdi⟩;subst e;exact z6
  ·have:=b6 i t ⟨hi,hq,hdi⟩;omega
 obtain⟨H,S,h⟩:=r6.sys;have hpre:=h.led r6.opn l6.1 l6.2.2 hi hdi (by rw[r6.lst];exact l6.2.1);have hV:=(h.core.here hi).2.1;have h1:=hV.st;have h2:=hpre.length_le;rw[g6,g5,g4,g3,g2] at h2;have hlog:t.log=s6.log:=hpre.eq_of_length (by rw[g6,g5,g4,g3,g2];omega);have hc:=p6 i6 s6 j u l6 hj hdj;rw[List.take_of_length_le (by omega),hlog];exact hc
theorem Rnd.many:∀(n:Nat) {w:Wd},Rnd v0 k T w→(qb6 n w).2=true∧Rnd v0 k T (qb6 n w).1
 | 0,w,r=>⟨rfl,r⟩
 | n+1,w,r=>by
  obtain⟨c1,r1,_⟩:=r.calm;rw[qbP c1];exact Rnd.many n r1
end
structure Chg(v nv:Vw):Prop where
 val:qaw [v,nv]=true
 sub:∀q∈nv.2,q∈v.2
 maj:v.2.length<2*nv.2.length
 less:nv.2.length<v.2.length
theorem Chg.facts{v nv:Vw}(c:Chg v nv):qap v.1 v.2=true∧qap nv.1 nv.2=true∧nv.1=v.1+1∧qaQ [v,nv] v.1=some v∧qaQ [v,nv] nv.1=some nv∧0≤v.1:=by
 have h1:=qel c.val 0 (by simp);have h2:=qel c.val 1 (by simp);have h3:=qsx c.val 1 (by simp);have h4:=qjr c.val (i:=0) (by simp);have h5:=qjr c.val (i:=1) (by simp);exact⟨h1,h2,h3,h4,h5,(qaV h1).1⟩
theorem Chg.maj'{v nv:Vw}(c:Chg v nv):MajP v (·∈nv.2):=by
 obtain⟨h1,h2,_⟩:=c.facts;refine⟨nv.2,qdy h2,fun a ha=>⟨c.sub a ha,ha⟩,?_⟩;have:=qaU h1;have:=c.maj;unfold qfB;rw[if_pos (by omega)];omega
section
variable {vs:List Vw} {mem:List St} {H:qc8} {S:qdT} {s:St} {v nv:Vw}
theorem Core.installs(c:Core [v,nv] mem H S)(g:Chg v nv)(hs:s∈mem)(hv:s.views=[v,nv])(ho:qan s=false)(hl:qas s=true)(hb:∀t∈mem,t.base=v.1∨t.base=nv.1)(hself:s.self∈nv.2)
  (hall:∀q∈nv.2,q∈s.fls.map Prod.fst) (hlen:∀p b,(H p b).length≤22):qan (qaD s)=true:=by
 obtain⟨k1,k2,k3,k4,k5,k6⟩:=g.facts;have hV:=(c.ok s hs).1;have hlv:qad s.views=nv:=by rw[hv];rfl
 have htg:tgt s=nv.1:=by unfold tgt;rw[hlv]
 have hcl:=qcB hV ho;rw[htg] at hcl;have hsv:s.base=v.1:=by rcases hb s hs with h|h<;>omega
 have hseq:qa1 nv=s.self:=by unfold qas at hl;rw[hlv] at hl;simpa using hl
 have hnone:∀p,H p nv.1=[]:=fun p=>by
  have h1:=c.led p nv.1;rw[qeC k5,hseq,(c.cur s hs).2 nv.1 hcl] at h1;exact List.prefix_nil.1 h1
 have hbv:∀t∈mem,t.base=v.1∧H t.self v.1=t.log∧t.log≠[]:=fun t ht=>by
  have h1:=(c.cur t ht).1;have hvt:=(c.ok t ht).1;rcases hb t ht with h|h
  ·rw[h] at h1;exact⟨h,h1,List.ne_nil_of_length_pos (hvt.log (by omega)).1⟩
  ·exfalso;rw[h,hnone] at h1;have:=(hvt.log (by omega)).1;rw[←h1] at this;simp at this
 have hfb:∀f∈s.fls,f.2.1=v.1∧H f.1 v.1=f.2.2:=fun f hf=>by
  obtain⟨⟨t,ht,he,_⟩,q2,q3,q4⟩:=c.fls s hs f hf;rw[htg] at q2 q4;obtain⟨_,t2,t3⟩:=hbv t ht;rw[he] at t2;have:f.2.1=v.1:=by
   apply Classical.byContradiction;intro hne;have:=q4 v.1 (by omega) (by omega);rw[this] at t2;exact t3 t2.symm
  exact⟨this,by rw[←this];exact q3⟩
 have hin:∀q∈nv.2,∃f∈s.fls,f.1=q:=fun q hq=>by
  obtain⟨f,hf,he⟩:=List.mem_map.1 (hall q hq);exact⟨f,hf,he⟩
 obtain⟨f0,hf0,hf0s⟩:=hin _ hself;have hbm:qaA s.fls=v.1:=by
  obtain⟨b1,b2,b3⟩:=qpX s.fls (-1);have hB:s.fls.foldl (fun b f=>max b f.2.1) (-1)=qaA s.fls:=rfl;rw[hB] at b1 b2 b3;have h1:=b2 f0 hf0;have h2:=(hfb f0 hf0).1;rcases b3 with b3|⟨f,hf,b3⟩
  ·omega
  ·rw[b3];exact(hfb f hf).1
 have hmine:qhY s=true:=by
  unfold qhY;rw[List.any_eq_true];exact⟨f0,hf0,by simpa using hf0s⟩
 have hcov:qc0 s.fls v=true:=by
  unfold qc0;simp only[zE];have h1:=(qdy k2).length_le_of_subset (l₂:=(s.fls.filter fun f=>qbN v.2 f.1).map Prod.fst) (fun q hq=>by
   obtain⟨f,hf,he⟩:=hin q hq;exact List.mem_map.2 ⟨f,List.mem_filter.2 ⟨hf,by rw[he];exact qbq.2 (g.sub q hq)⟩,he⟩)
  rw[zP,←List.countP_eq_length_filter] at h1;have:=qaU k1;have:=g.maj;unfold qfB;rw[if_pos (by omega)];omega
 have hblk:qfd s=false:=by
  unfold qfd;rw[List.any_eq_false];intro x hx;rw[hv] at hx;rw[hlv];simp only[zC,zN,or_false] at hx;rcases hx with rfl|rfl
  ·rw[hcov];simp
  ·simp
 have hcm:=(qiL (qaA s.fls) s.fls []).2;have hC:s.fls.foldl (fun out f=>if f.2.1=qaA s.fls∧out.length<f.2.2.length then f.2.2 else out) []=qa0 s.fls (qaA s.fls):=rfl;have hgo:=qd1 (qaA s.fls) s.fls [];rw[hC] at hcm hgo;have hne0:0<f0.2.2.length:=by
  obtain⟨⟨t,ht,he,_⟩,_⟩:=c.fls s hs f0 hf0;obtain⟨_,t2,t3⟩:=hbv t ht;rw[he,(hfb f0 hf0).2] at t2;rw[t2];exact List.length_pos_iff.2 t3
 have hcne:qa0 s.fls (qaA s.fls)≠[]:=by
  have:=hcm f0 hf0 (by rw[hbm];exact(hfb f0 hf0).1);exact List.ne_nil_of_length_pos (by omega)
 obtain⟨g1,hg1,_,hg3⟩:∃f∈s.fls,f.2.1=qaA s.fls∧qa0 s.fls (qaA s.fls)=f.2.2:=by
  rcases hgo with h|h
  ·exact absurd h hcne
  ·exact h
 have hgH:H g1.1 v.1=qa0 s.fls (qaA s.fls):=by rw[(hfb g1 hg1).2,hg3]
 have hfit:qgy s (qa0 s.fls (qaA s.fls))=true:=by
  unfold qgy;simp only[zB,zE];refine⟨by rw[←hgH];have:=hlen g1.1 v.1;omega,?_,by rw[←hgH];exact c.own_sent hs _ _⟩;have hpre:s.log.take s.stable.toNat<+:qa0 s.fls (qaA s.fls):=by
   rcases c.stab s hs with h|⟨b,hb1,hb2,hb3⟩
   ·rw[h];exact List.nil_prefix
   ·obtain⟨x,hx1,hx2⟩:=hb2;obtain⟨hx3,hx4⟩:=qbb hx1;have hbv':b=v.1:=by
     simp only[zC,zN,or_false] at hx3;rcases hx3 with rfl|rfl<;>omega
    subst hbv';rw[k4] at hx1;cases hx1;obtain⟨q,q1,q2⟩:=hx2.meet k1 g.maj';obtain⟨f,hf,he⟩:=hin q q2;have h1:=hcm f hf (by rw[hbm];exact(hfb f hf).1);rw[←(hfb f hf).2,he] at h1;have h2:=c.led g1.1 v.1;rw[hgH] at h2;exact List.prefix_of_prefix_length_le hb3 h2 (by omega)
  unfold qgs;obtain⟨r,hr⟩:=hpre;rw[←hr,List.take_left' rfl];simp
 unfold qaD;rw[if_neg (by rw[hmine,hbm];simp;omega),if_neg (by rw[hblk];simp),if_neg (by rw[hfit];simp)];unfold qan;simp
end
theorem qpq{s:St}{fr:Int}{m:Msg}(hk:m.kind=14):(qao ⟨s,[],[]⟩ fr m).s.marks=s.marks:=by
 unfold qao;simp only;rw[if_neg (by rw[hk];simp),if_neg (by rw[hk];simp),if_neg (by rw[hk];simp)];split
 ·split
  ·show (qaD _).marks=_;unfold qaD
   repeat' split
   all_goals rfl
  ·rfl
 ·rw[if_neg (by rw[hk];simp)]
theorem qte{s:St}{fr:Int}{m:Msg}(hk:m.kind=14)(hl:qas s=false):(qao ⟨s,[],[]⟩ fr m).s=s:=by
 unfold qao;simp only;rw[if_neg (by rw[hk];simp),if_neg (by rw[hk];simp),if_neg (by rw[hk];simp),if_neg (by rw[hl];simp),if_neg (by rw[hk];simp)]
theorem qjV{s:St}{fr:Int}{m:Msg}(hk:m.kind=14)(ho:qan s=false)(hl:qas s=true):(qao ⟨s,[],[]⟩ fr m).s=if qbL s.views (fr,m.first,m.ents) then qaD {s with fls:=putF s.fls (fr,m.first,m.ents)} else s:=by
 unfold qao;simp only;rw[if_neg (by rw[hk];simp),if_neg (by rw[hk];simp),if_neg (by rw[hk];simp),if_pos ⟨hk,ho,hl⟩];split<;>rfl
theorem qgh{s:St}(h:qan (qaD s)=false):qaD s=s:=by
 unfold qaD at h⊢;split
 ·rfl
 ·next h1=>
  rw[if_neg h1] at h;split
  ·rfl
  ·next h2=>
   rw[if_neg h2] at h;split
   ·rfl
   ·next h3=>
    rw[if_neg h3] at h;unfold qan at h;simp at h
structure M2a(v0:Int)(k:Nat)(v nv:Vw)(w:Wd):Prop where
 sys:∃H S,Sys v0 k w H S
 bnd:Bnd w
 views:w.views=[v,nv]
 bases:∀t∈w.mem,t.base=v.1∨t.base=nv.1
 cfg:Cfg nv w
 vws:∀(i:Nat) (s:St),w.mem[i]?=some s→qaB w i=false→s.views=[v,nv]
 fol:∀j t,Fol nv w j t→qan t=false∧(t.self,qa1 nv,qa3 14 (qav [nv.1]++qa4 (zig t.base)++qbe t.log))∈w.fly
 crd:∀i s,Lead nv w i s→s.marks=[]∧(qan s=false→s.self∈s.fls.map Prod.fst∧¬∀q∈nv.2,q∈s.fls.map Prod.fst)
 knd:∀f∈w.fly,∃m,qa7 f.2.2=some m∧m.kind=14
structure M2b(v0:Int)(k:Nat)(v nv:Vw)(w:Wd):Prop where
 sys:∃H S,Sys v0 k w H S
 bnd:Bnd w
 views:w.views=[v,nv]
 cfg:Cfg nv w
 vws:∀(i:Nat) (s:St),w.mem[i]?=some s→qaB w i=false→s.views=[v,nv]
 fol:∀j t,Fol nv w j t→qan t=false
 crd:∀i s,Lead nv w i s→qan s=true
 ins:∀i s j t,Lead nv w i s→Fol nv w j t→∃ents,(s.self,t.self,qa3 15 (qav [nv.1]++qbe ents))∈w.fly∧qaY ents nv.1=true∧ents.length≤2000∧(∀e∈ents,qqc e)∧t.log.take t.stable.toNat<+:ents
structure Rwk(v0:Int)(k:Nat)(T:Vw)(w:Wd):Prop where
 sys:∃H S,Sys v0 k w H S
 bnd:Bnd w
 lst:qad w.views=T
 opn:Opn w.views w
 cfg:Cfg T w
theorem Rnd.weak{v0:Int}{k:Nat}{T:Vw}{w:Wd}(r:Rnd v0 k T w):Rwk v0 k T w:=⟨r.sys,r.bnd,r.lst,r.opn,r.cfg⟩
section
variable {v0:Int} {k:Nat} {w w':Wd} {H:qc8} {S:qdT} {T v nv:Vw}
theorem qlQ(hsys:∃H S,Sys v0 k w H S)(c:Cfg nv w)(hv:qap nv.1 nv.2=true):∃i s,Lead nv w i s∧∀j t,w.mem[j]?=some t→t.self=qa1 nv→j=i∧t=s:=by
 obtain⟨H,S,h⟩:=hsys;obtain⟨i,s,h1,h2,h3⟩:=c.all _ (qmF hv);refine⟨i,s,⟨h1,h2,h3⟩,fun j t hj ht=>?_⟩;have hl1:=zZ h1;have hl2:=zZ hj;have hij:j=i:=qei h.core.ids (i:=j) (j:=i) (by simpa using hl2.1) (by simpa using hl1.1) (by simp only[List.getElem_map];rw[hl1.2,hl2.2,h2,ht]);subst hij;rw[h1] at hj;cases hj;exact⟨rfl,rfl⟩
theorem qkJ{w1:Wd}{H1:qc8}{S1:qdT}(h2:Sys v0 k w1 H1 S1)(b:Bnd w1)(o:Opn w1.views w1)(c:Cfg T w1)(hl:qad w1.views=T){w':Wd}(h4:Psd (List.range w1.mem.length) (qaR w1) w')(h5:∃H' S',Sys v0 k w' H' S'):Rnd v0 k T w':=by
 have o1':Opn (qaR w1).views (qaR w1):=o;obtain⟨o2,f2⟩:=o1'.pass h2.nofly rfl h4;have hv:w'.views=w1.views:=h4.views;have c1:Cfg T (qaR w1):=⟨c.up,c.all⟩;have b1:Bnd (qaR w1):=⟨b.tot,b.vw,b.vl,b.ml⟩;exact⟨h5,b1.psd h2.nofly h4,by rw[hv];exact hl,o2,c1.psd h2.nofly h4,by rw[hv,hl] at f2;exact f2⟩
theorem Rwk.calm(r:Rwk v0 k T w):(qaG w).2=true∧Rnd v0 k T (qaG w).1:=by
 obtain⟨H,S,h⟩:=r.sys;obtain⟨h1,w1,H1,S1,h2,h3,rfl,h4,h5⟩:=h.calm r.bnd;refine⟨h1,qkJ h2 (r.bnd.dlv h3) (by rw[h3.views];exact r.opn.dlv h3 h3.len) (r.cfg.dlv h3) (by rw[h3.views];exact r.lst) (by rw[h3.len];exact h4) h5⟩
theorem M2b.calm(r:M2b v0 k v nv w)(g:Chg v nv):(qaG w).2=true∧Rnd v0 k nv (qaG w).1:=by
 obtain⟨H,S,h⟩:=r.sys;obtain⟨h1,w1,H1,S1,h2,h3,hw1,h4,h5⟩:=h.calm r.bnd;obtain⟨k1,k2,k3,k4,k5,k6⟩:=g.facts;obtain⟨i,s,hL,hu⟩:=qlQ r.sys r.cfg k2;have o1:Opn [v,nv] w1:=by
  intro j t1 ht hd;obtain⟨t,e1,u⟩:=h3.back ht;have hd0:qaB w j=false:=by rw[←h3.dn];exact hd
  have hv1:t1.views=[v,nv]:=u.views.trans (r.vws j t e1 hd0);refine⟨hv1,?_⟩;have hop:qan t1=true:=by
   by_cases hq:t.self=qa1 nv
   ·exact(u.op (r.crd j t ⟨e1,hq,hd0⟩)).1
   ·cases ho:qan t1 with
    | true=>rfl
    | false=>
     exfalso;obtain⟨ents,z1,z2,z3,z4,z5⟩:=r.ins i s j t hL ⟨e1,hq,hd0⟩;obtain⟨fa,fb,hsp⟩:=List.append_of_mem z1;obtain⟨wa,Ha,Sa,ha,da,db,hfa,_⟩:=h.event hsp (fun _ h=>h);obtain⟨ta,a1,ua,_⟩:=da.up j t e1;obtain⟨_,_,_,q4⟩:=ha.hand1 hfa;obtain⟨m,m1,m2,m3⟩:=q4 j ta a1 ua.self (by rw[da.dn];exact hd0);have hlim:qil nv.1:=qaV k2;have hm:m=⟨15,nv.1,0,0,[],ents⟩:=by
      have e:=qgL hlim z3 z4;have m1':qa7 (qa3 15 (qav [nv.1]++qbe ents))=some m:=m1;rw[e] at m1';exact(Option.some.inj m1').symm
     have hva:ta.views=[v,nv]:=ua.views.trans (r.vws j t e1 hd0);have hlv:qad ta.views=nv:=by rw[hva];rfl
     rw[if_pos (by rw[hm,hlv])] at m3;obtain⟨tb,b1,ub,_⟩:=db.up j _ m3;rw[←hw1,ht] at b1;cases b1;replace ub:Up (qao ⟨ta,[],[]⟩ s.self m).s t1:=ub;have hcl:=(ub.cl ho).1;have hup:=Up.handle (ha.core.here a1).2.1 s.self m (by rw[hm,hlv]);have hta:=(hup.cl hcl).1;obtain⟨_,_,c3,c4,_⟩:=ua.cl hta;have hown:(qar m.ents ta.self:Int)≤ta.sent:=by
      have h9:=m2.2.2.2.2 (by rw[hm]);have h8:=ha.core.own_sent (zX a1) s.self m.num;obtain⟨rr,hr⟩:m.ents<+:Ha s.self m.num:=h9;rw[←hr,qbI] at h8;omega
     have he:=qlx (m:=m) (fr:=s.self) (ha.core.here a1).2.1 hta (by unfold qas;rw[hlv,ua.self];simpa using fun e=>hq e.symm) (by rw[hlv];exact hL.2.1) (by rw[hlv,ua.self];exact r.cfg.up j t e1 hd0) (by rw[hm]) (by rw[hm,hlv]) (by rw[hm];exact z2) (by rw[c3,c4,hm];exact z5) hown;rw[he] at hcl;cases hcl
  unfold qan at hop;rw[hv1] at hop;simpa using hop
 have hv1:w1.views=[v,nv]:=h3.views.trans r.views;exact⟨h1,qkJ h2 (r.bnd.dlv h3) (by rw[hv1];exact o1) (r.cfg.dlv h3) (by rw[hv1];rfl) (by rw[h3.len];exact h4) h5⟩
end
section
variable {v0:Int} {k:Nat} {w w':Wd} {H:qc8} {S:qdT} {T v nv:Vw}
theorem qf1{v nv:Vw}:qad [v,nv]=nv:=rfl
theorem qs3{v nv:Vw}(g:Chg v nv){q:Int}{l:List Ent}(hq:q∈nv.2)(hl:qaY l v.1=true):qbL [v,nv] (q,v.1,l)=true:=by
 obtain⟨k1,k2,k3,k4,k5,k6⟩:=g.facts;unfold qbL;simp only[zB];refine⟨?_,hl⟩;rw[if_neg (by omega),k4];simp only[zB,zE];exact⟨by show v.1<nv.1;omega,qbq.2 (g.sub q hq)⟩
structure Jst(nv:Vw)(i:Nat)(w:Wd):Prop where
 crd:∀s,w.mem[i]?=some s→s.marks=[]∧(qan s=false→¬∀q∈nv.2,q∈s.fls.map Prod.fst)
 fol:∀j t,Fol nv w j t→qan t=false
 bases:∀t∈w.mem,t.base=v0∨t.base=nv.1
theorem M2a.open(r:M2a v0 k v nv w)(g:Chg v nv){i:Nat}{s:St}(hL:Lead nv w i s):Jst (v0:=v.1) nv i (qaf w.fly w).1∧∀s1,(qaf w.fly w).1.mem[i]?=some s1→qan s1=true:=by
 obtain⟨H,S,h⟩:=r.sys;obtain⟨k1,k2,k3,k4,k5,k6⟩:=g.facts;have hvi:=r.vws i s hL.1 hL.2.2;have hlead:∀{sa:St},Up s sa→qas sa=true∧qad sa.views=nv∧sa.views=[v,nv]:=fun {sa} u=>by
  have e:sa.views=[v,nv]:=u.views.trans hvi;have e2:qad sa.views=nv:=by rw[e];rfl
  exact⟨by unfold qas;rw[e2,u.self,hL.2.1];simp,e2,e⟩
 have hJ:Jst (v0:=v.1) nv i (qaf w.fly w).1:=by
  refine Sys.hands_ind (P:=fun w1=>Jst (v0:=v.1) nv i w1) w.fly h (fun _ h=>h) ⟨fun s2 h2=>by rw[hL.1] at h2;cases h2;exact⟨(r.crd i s hL).1,fun ho=>((r.crd i s hL).2 ho).2⟩,fun j t ht=>(r.fol j t ht).1,r.bases⟩ ?_;intro wa Ha Sa f ha da hf hP;obtain⟨p1,⟨Hb,Sb,p2⟩,p3,p4⟩:=ha.hand1 hf;obtain⟨m0,n1,n2⟩:=r.knd f (by rw[←da.fly];exact hf)
  -- what becomes of a member
  have hcase:∀j t2,(qbm wa f).1.mem[j]?=some t2→∃t1,wa.mem[j]?=some t1∧Up t1 t2∧(t2=t1∨(t1.self=f.2.1∧qaB wa j=false∧m0.num=(qad t1.views).1∧qcv wa.views wa.mem Ha Sa f.1 m0∧t2=(qao ⟨t1,[],[]⟩ f.1 m0).s)):=fun j t2 h2=>by
   obtain⟨t1,e1,u⟩:=p3.back h2;refine⟨t1,e1,u,?_⟩;by_cases ht:t1.self=f.2.1
   ·cases hd:qaB wa j with
    | true=>
     obtain⟨t3,e3,_,e4⟩:=p3.up j t1 e1;rw[h2] at e3;cases e3;exact .inl (e4 hd)
    | false=>
     obtain⟨m,m1,m2,m3⟩:=p4 j t1 e1 ht hd;rw[n1] at m1;cases m1;rw[h2] at m3;by_cases hn:m0.num=(qad t1.views).1
     ·rw[if_pos hn] at m3;exact .inr ⟨ht,rfl,hn,m2,Option.some.inj m3⟩
     ·rw[if_neg hn] at m3;exact .inl (Option.some.inj m3)
   ·rw[qiz f e1 ht] at h2;exact .inl (Option.some.inj h2).symm
  refine⟨fun s2 h2=>?_,fun j t2 hF=>?_,fun t2 ht2=>?_⟩
  ·obtain⟨sa,e1,u,hc⟩:=hcase i s2 h2;obtain⟨j1,j2⟩:=hP.crd sa e1;rcases hc with rfl|⟨c1,c2,c3,c4,rfl⟩
   ·exact⟨j1,j2⟩
   ·refine⟨by rw[qpq n2];exact j1,fun ho=>?_⟩;obtain⟨s0,e0,u0⟩:=da.back e1;rw[hL.1] at e0;cases e0;obtain⟨l1,l2,l3⟩:=hlead u0;have hoa:=(u.cl ho).1;rw[qjV n2 hoa l1] at ho⊢;split at ho
    ·next hp=>
     rw[if_pos hp];rw[qgh ho];intro hall;have hid:qcl f.1=true:=by
      obtain⟨⟨t,ht1,ht2⟩,_⟩:=ha.fly f hf;rw[←ht2];exact(ha.core.ok t ht1).1.self
     obtain⟨H',c',_⟩:=ha.core.putFl e1 hoa l1 hid hp (by
      have:=c4.2.2.2.1 n2;rw[c3] at this;exact this)
     have hwv:wa.views=[v,nv]:=da.views.trans r.views;rw[hwv] at c';have hin:{sa with fls:=putF sa.fls (f.1,m0.first,m0.ents)}∈wa.mem.set i {sa with fls:=putF sa.fls (f.1,m0.first,m0.ents)}:=List.mem_set (zZ e1).1 _;have hopen:=Core.installs c' g hin l3 hoa l1 (fun t ht=>by
      rcases List.mem_or_eq_of_mem_set ht with ht|rfl
      ·exact hP.bases t ht
      ·exact hP.bases sa (zX e1)) (by
       show sa.self∈nv.2;rw[u0.self];exact r.cfg.up i s hL.1 hL.2.2) hall (fun p b=>by
       have h1:=c'.len_log p b;have h2:((wa.mem.set i {sa with fls:=putF sa.fls (f.1,m0.first,m0.ents)}).map fun t=>(Sa t.self).length)=wa.mem.map fun t=>(Sa t.self).length:=by
        rw[List.map_set];exact qfc (by rw[zM,e1];rfl)
       rw[h2] at h1;have h3:(wa.mem.map fun t=>(Sa t.self).length).sum≤(wa.mem.map fun s=>s.sent.toNat).sum:=qlW fun t ht=>by have:=(ha.core.pend t ht).1;omega
       have:=(r.bnd.dlv da).tot;simp only[zK,List.length_nil] at h1;omega)
     rw[hopen] at ho;cases ho
    ·next hp=>rw[if_neg hp];exact j2 hoa
  ·obtain⟨f1,f2,f3⟩:=hF;obtain⟨t1,e1,u,hc⟩:=hcase j t2 f1;have hfo:=hP.fol j t1 ⟨e1,by rw[←u.self];exact f2,by rw[←p3.dn];exact f3⟩;rcases hc with rfl|⟨c1,c2,c3,c4,rfl⟩
   ·exact hfo
   ·obtain⟨t0,e0,u0⟩:=da.back e1;have hd0:qaB w j=false:=by rw[←da.dn];exact c2
    have hlf:qas t1=false:=by
     have e:qad t1.views=nv:=by rw[u0.views,r.vws j t0 e0 hd0];rfl
     rw[u.self] at f2;unfold qas;rw[e];simpa using fun e=>f2 e.symm
    rw[qte n2 hlf];exact hfo
  ·obtain⟨j,hj⟩:=List.mem_iff_getElem?.1 ht2;obtain⟨t1,e1,u,hc⟩:=hcase j t2 hj;have hb:=hP.bases t1 (zX e1);rcases hc with rfl|⟨c1,c2,c3,c4,rfl⟩
   ·exact hb
   ·cases ho:qan (qao ⟨t1,[],[]⟩ f.1 m0).s with
    | false=>rw[(u.cl ho).2.1];exact hb
    | true=>
     right;obtain⟨t0,e0,u0⟩:=da.back e1;have hd0:qaB w j=false:=by rw[←da.dn];exact c2
     unfold qan at ho;rw[u.views,u0.views,r.vws j t0 e0 hd0,qf1] at ho;simpa using ho
 refine⟨hJ,fun s1 hs1=>?_⟩;obtain⟨_,⟨H1,S1,h2⟩,h3⟩:=Sys.hands w.fly h (fun _ h=>h);cases ho:qan s1 with
 | true=>rfl
 | false=>
  exfalso;refine(hJ.crd s1 hs1).2 ho fun q hq=>?_;obtain⟨s0,e0,u0⟩:=h3.back hs1;rw[hL.1] at e0;cases e0;obtain⟨b1,b2,b3,b4,b5⟩:=u0.cl ho;by_cases he:q=s.self
  ·subst he;exact b5 _ ((r.crd i s hL).2 b1).1
  ·obtain⟨j,t,j1,j2,j3⟩:=r.cfg.all q hq;have hF:Fol nv w j t:=⟨j1,by rw[j2,←hL.2.1];exact he,j3⟩;obtain⟨_,z1⟩:=r.fol j t hF;obtain⟨fa,fb,hsp⟩:=List.append_of_mem z1;obtain⟨wa,Ha,Sa,ha,da,db,hfa,_⟩:=h.event hsp (fun _ h=>h);obtain⟨sa,a1,ua,_⟩:=da.up i s hL.1;obtain⟨_,_,_,q4⟩:=ha.hand1 hfa;obtain⟨m,m1,m2,m3⟩:=q4 i sa a1 (by rw[ua.self];exact hL.2.1) (by rw[da.dn];exact hL.2.2);obtain⟨htm,hVt,htp,_⟩:=h.core.here j1;have hot:=(r.fol j t hF).1;have htb:t.base=v.1:=by
    have hcl:=qcB hVt hot;have:tgt t=nv.1:=by unfold tgt;rw[r.vws j t j1 j3];rfl
    rcases r.bases t htm with h|h
    ·exact h
    ·omega
   obtain⟨y1,y2⟩:=h.core.logE htm;have hlim:qil v.1:=qaV k1;have hm:m=⟨14,nv.1,t.base,0,[],t.log⟩:=by
    have e:=qgt (t:=nv.1) (b:=t.base) (l:=t.log) (qaV k2) (by rw[htb];exact⟨by omega,hlim.2⟩) y1 y2;have m1':qa7 (qa3 14 (qav [nv.1]++qa4 (zig t.base)++qbe t.log))=some m:=m1;rw[e] at m1';exact(Option.some.inj m1').symm
   obtain⟨l1,l2,l3⟩:=hlead ua;rw[if_pos (by rw[hm,l2])] at m3;obtain⟨sb,c1,ub,_⟩:=db.up i _ m3;rw[hs1] at c1;cases c1;replace ub:Up (qao ⟨sa,[],[]⟩ t.self m).s s1:=ub;obtain⟨d1,_,_,_,d5⟩:=ub.cl ho;have hup:=Up.handle (ha.core.here a1).2.1 t.self m (by rw[hm,l2]);have hsa:=(hup.cl d1).1;refine d5 q ?_;have hkm:m.kind=14:=by rw[hm]
   have hposs:qbL sa.views (t.self,m.first,m.ents)=true:=by
    rw[l3,hm];show qbL [v,nv] (t.self,t.base,t.log)=true;rw[htb];exact qs3 g (by rw[j2];exact hq) (by rw[←htb];exact hVt.based)
   rw[qjV hkm hsa l1,if_pos hposs] at d1⊢;rw[qgh d1];exact ql3 (.inl j2.symm)
theorem M2a.calm(r:M2a v0 k v nv w)(g:Chg v nv):(qaG w).2=true∧M2b v0 k v nv (qaG w).1:=by
 obtain⟨H,S,h⟩:=r.sys;obtain⟨h1,w1,H1,S1,h2,h3,hw1,h4,h5⟩:=h.calm r.bnd;obtain⟨k1,k2,k3,k4,k5,k6⟩:=g.facts;obtain⟨i,s,hL,hu⟩:=qlQ r.sys r.cfg k2;obtain⟨hJ,hop⟩:=r.open g hL;rw[←hw1] at hJ hop;rw[←h3.len] at h4;have hv1:w1.views=[v,nv]:=h3.views.trans r.views;have hvm:∀j t,w1.mem[j]?=some t→qaB w1 j=false→t.views=[v,nv]:=fun j t hj hd=>by
  obtain⟨t0,e0,u0⟩:=h3.back hj;exact u0.views.trans (r.vws j t0 e0 (by rw[←h3.dn];exact hd))
 have hlrn:∀(j:Nat) (t:St),w1.mem[j]?=some t→qaB w1 j=false→lrn (qaR w1) t=t:=fun j t hj hd=>by
  rcases qcn h2.nofly hj with e|⟨e,_⟩
  ·exact e
  ·rw[hvm j t hj hd,show (qaR w1).views=w1.views from rfl,hv1] at e;omega
 have c1:Cfg nv (qaR w1):=⟨(r.cfg.dlv h3).up,(r.cfg.dlv h3).all⟩;have b1:Bnd (qaR w1):=⟨(r.bnd.dlv h3).tot,(r.bnd.dlv h3).vw,(r.bnd.dlv h3).vl,(r.bnd.dlv h3).ml⟩;have hst:∀(j:Nat) (t:St),(qaG w).1.mem[j]?=some t→qaB (qaG w).1 j=false→∃t1,w1.mem[j]?=some t1∧qaB w1 j=false∧VS t1∧t1.views=[v,nv]∧t=(qaM t1).s∧∃A B,(qaG w).1.fly=A++(pkF t1.self (qaM t1).pk++B):=fun j t hj hd=>by
  have hd0:qaB w1 j=false:=by have e:=h4.dn j;rw[hd] at e;exact e.symm
  obtain⟨t1,e1,e2,e3⟩:=Psd.back (w:=qaR w1) h4 hj hd;rw[hlrn j t1 e1 hd0] at e2 e3;exact⟨t1,e1,hd0,(h2.core.here e1).2.1,hvm j t1 e1 hd0,e2,e3⟩
 have hfol:∀j t,Fol nv (qaG w).1 j t→w1.mem[j]?=some t∧qan t=false∧qaB w1 j=false:=fun j t hF=>by
  obtain⟨f1,f2,f3⟩:=hF;obtain⟨t1,e1,e2,e3,e4,rfl,_⟩:=hst j t f1 f3;rw[(qa2 e3).1] at f2;have ho:=hJ.fol j t1 ⟨e1,f2,e2⟩;have hl:qas t1=false:=by unfold qas;rw[e4,qf1];simpa using fun e=>f2 (Eq.symm e)
  rw[(qej e3 ho hl).1];exact⟨e1,ho,e2⟩
 have hcrd:∀j t,Lead nv (qaG w).1 j t→∃t1,w1.mem[j]?=some t1∧qaB w1 j=false∧VS t1∧t1.views=[v,nv]∧qan t1=true∧qas t1=true∧t1.marks=[]∧t=(qaM t1).s∧t1.self=qa1 nv∧∃A B,(qaG w).1.fly=A++(pkF t1.self (qaM t1).pk++B):=fun j t hl=>by
  obtain⟨f1,f2,f3⟩:=hl;obtain⟨t1,e1,e2,e3,e4,rfl,e5⟩:=hst j t f1 f3;rw[(qa2 e3).1] at f2;obtain⟨t0,e6,u⟩:=h3.back e1;obtain⟨rfl,rfl⟩:=hu j t0 e6 (by rw[←u.self];exact f2);exact⟨t1,e1,e2,e3,e4,hop t1 e1,by unfold qas;rw[e4,f2];simp[qad,qbu],(hJ.crd t1 e1).1,rfl,f2,e5⟩
 have hlenm:(qaG w).1.mem.length=(qaR w1).mem.length:=h4.len;refine⟨h1,⟨h5,b1.psd h2.nofly h4,h4.views.trans hv1,c1.psd h2.nofly h4,fun j t hj hd=>?_,fun j t hF=>(hfol j t hF).2.1,fun j t hl=>?_,fun a sa j t hl hF=>?_⟩⟩
 ·obtain⟨t1,e1,e2,e3,e4,rfl,_⟩:=hst j t hj hd;rw[(qa2 e3).2.1];exact e4
 ·obtain⟨t1,e1,e2,e3,e4,e5,e6,e7,rfl,_⟩:=hcrd j t hl;rw[(qeF e3 e5 e6).1];have:=Up.announce (s:=qbo t1) [] [] (by exact e5);exact(this.op (by exact e5)).1
 ·obtain⟨t1,e1,e2,e3,e4,e5,e6,e7,rfl,e8,A,B,hf⟩:=hcrd a sa hl;obtain⟨f1,f2,f3⟩:=hfol j t hF;have hlog:=qd5 e3 e5 e6;have hbase:(qaM t1).s.base=nv.1:=by
   rw[(qeF e3 e5 e6).1,(qaK _).2.2.2.1];have:qan t1=true:=e5;unfold qan at this;rw[e4,qf1] at this;exact(by simpa using this:t1.base=nv.1)
  obtain⟨H',S',h6⟩:=h5;have hin:(qaM t1).s∈(qaG w).1.mem:=zX hl.1;have hVn:=(h6.core.ok _ hin).1;obtain⟨y1,y2⟩:=h6.core.logE hin;refine⟨(qaM t1).s.log,?_,by rw[←hbase];exact hVn.based,y1,y2,?_⟩
  ·have hin2:t.self∈nv.2:=by
    obtain⟨t0,q1,q2⟩:=h3.back f1;rw[q2.self];exact r.cfg.up j t0 q1 (by rw[←h3.dn];exact f3)
   have hpk:=(qeF e3 e5 e6).2 t.self (by rw[e4];exact hin2) (by rw[e8];exact hF.2.1);unfold qgO at hpk;rw[hlog.2,e7] at hpk;have hno:qb0 ([]:List (Int×Int)) t.self=none:=rfl;rw[hno] at hpk;simp only at hpk;rw[hf,(qa2 e3).1];refine List.mem_append.2 (.inr (List.mem_append.2 (.inl ?_)));rw[hbase] at hpk;exact List.mem_map.2 ⟨_,hpk,rfl⟩
  ·have htin:t∈(qaG w).1.mem:=zX hF.1;have hVt:=(h6.core.ok t htin).1;rcases h6.core.stab t htin with hz|⟨b,z1,z2,z3⟩
   ·rw[hz];exact List.nil_prefix
   ·have htb:t.base<nv.1:=by
     have:=qcB hVt f2;have e:tgt t=nv.1:=by unfold tgt;rw[hvm j t f1 f3];rfl
     omega
    have hag:=h6.core.agree z2 (nv.1 - b).toNat nv.1 (qaM t1).s.self (by omega) (by omega) (by
     rw[←hbase,(h6.core.cur _ hin).1];exact List.ne_nil_of_length_pos (hVn.log (by rw[hbase];omega)).1)
    rw[←hbase,(h6.core.cur _ hin).1] at hag;have:(t.log.take t.stable.toNat)=(H' (qjp (qaG w).1.views b) b).take (t.log.take t.stable.toNat).length:=by
     obtain⟨rr,hr⟩:=z3;rw[←hr,List.take_left' rfl]
    rw[this];exact hag
end
theorem qou {P : Prop} (h : P := by
 obtain⟨h1,h2,h3⟩:=h;obtain⟨t,g1,g2⟩:=qeG ha hb h1;exact⟨t,⟨g1,by rw[←g2.self];exact h2,h3⟩,g2⟩) : P := h
def qfq(w:Wd)(a:Nat)(p:List UInt8):Wd:={qfv w a (qaI (qeo w a) p).1 with sent:=w.sent.set a ((w.sent[a]?).getD []++[p])}
def qd6(w:Wd)(c:Nat)(nv:Vw):Wd:={w with down:=(List.range w.down.length).map (qch c),views:=w.views++[nv]}
def qeq(nv:Vw)(chg:Bool)(c len:Nat)(w:Wd)(i x:Nat):Wd×Bool:=
 if (qaI (qeo w (x % w.mem.length)) [UInt8.ofNat x,UInt8.ofNat i]).2≠0 then (w,false)
 else qaG (if i=len / 2∧chg=true then qd6 (qfq w (x % w.mem.length) [UInt8.ofNat x,UInt8.ofNat i]) c nv else qfq w (x % w.mem.length) [UInt8.ofNat x,UInt8.ofNat i])
structure Sb(s s':St):Prop where
 self:s'.self=s.self
 views:s'.views=s.views
 base:s'.base=s.base
 marks:s'.marks=s.marks
 fls:s'.fls=s.fls
 st:s'.stable=s.stable
 log:s.log<+:s'.log
 cl:qan s=false→s'.log=s.log
theorem Sb.refl(s:St):Sb s s:=⟨rfl,rfl,rfl,rfl,rfl,rfl,List.prefix_rfl,fun _=>rfl⟩
theorem Sb.open{s s':St}(h:Sb s s'):qan s'=qan s:=by unfold qan;rw[h.base,h.views]
theorem quv{s:St}(hV:VS s){p:List UInt8}(hp:p.length≤6000)(hs:s.sent≤31):(qaI s p).2=0∧Sb s (qaI s p).1∧(qaI s p).1.sent=s.sent+1:=by
 have h1:=hV.pd;unfold qaI;rw[if_neg (by rw[qb2.2 hV];simp),if_neg (by omega)];refine⟨rfl,?_⟩;simp only;split
 ·next hc=>
  simp only[zB] at hc;exact⟨⟨rfl,rfl,rfl,rfl,rfl,rfl,by show s.log<+:qbc _ _;unfold qbc;exact List.prefix_append _ _,fun ho=>by rw[show qan s=true from hc.1] at ho;cases ho⟩,rfl⟩
 ·exact⟨⟨rfl,rfl,rfl,rfl,rfl,rfl,List.prefix_rfl,fun _=>rfl⟩,rfl⟩
section
variable {v0:Int} {k:Nat} {w w':Wd} {H:qc8} {S:qdT} {T v nv:Vw}
theorem qgD{a:Nat}{s:St}{p:List UInt8}(ha:w.mem[a]?=some s):(qfq w a p).mem=w.mem.set a (qaI s p).1:=by
 unfold qfq qfv;simp only;rw[qcz ha]
theorem Sys.sub(h:Sys v0 k w H S){a:Nat}{s:St}(hi:w.mem[a]?=some s){p:List UInt8}(hp:p.length≤2)(he:(qaI s p).2=0)(hb:Sb s (qaI s p).1):∃H' S',Sys v0 k (qfq w a p) H' S':=by
 obtain⟨H',c',ah⟩:=h.core.submit hi he;have hVS:=(h.core.here hi).2.1;have hl:=(zZ hi).1;have hst:=hVS.st;have hst0:=hVS.st0;have hlg:(qaI s p).1.log.take (qaI s p).1.stable.toNat=s.log.take s.stable.toNat:=by
  obtain⟨r,hr⟩:=hb.log;rw[←hr,hb.st,List.take_append_of_le_length (by omega)]
 refine⟨H',qnN S s.self p,h.upd hi c' ah hb.self rfl (qgD hi) rfl ?_ ⟨by simp[qfq],fun j t hj=>?_⟩ (fun f hf=>.inl hf) h.flen (fun o q hq=>?_)⟩
 ·show w.told=_;rw[hlg,qfc (h.told a _ hi)]
 ·show (w.sent.set a _)[j]?=_;by_cases haj:a=j
  ·subst haj;rw[hi] at hj;cases hj;rw[List.getElem?_set_self (by rw[h.sl];exact hl),h.sent a _ hi];unfold qnN;simp
  ·rw[List.getElem?_set_ne haj,h.sent j t hj];unfold qnN;rw[if_neg];intro he2;have hj':=zZ hj;have hi':=zZ hi;have:=qei h.core.ids (i:=a) (j:=j) (by simpa using hl) (by simpa using hj'.1) (by simp only[List.getElem_map];rw[hj'.2,hi'.2];exact he2.symm);exact haj this
 ·unfold qnN at hq;split at hq
  ·rcases List.mem_append.1 hq with hq|hq
   ·exact h.two o q hq
   ·simp only[zC,zN,or_false] at hq;subst hq;exact hp
  ·exact h.two o q hq
theorem qeG{a:Nat}{s:St}{p:List UInt8}(ha:w.mem[a]?=some s)(hb:Sb s (qaI s p).1){j:Nat}{t':St}(hj:(qfq w a p).mem[j]?=some t'):∃t,w.mem[j]?=some t∧Sb t t':=by
 rw[qgD ha] at hj;by_cases haj:a=j
 ·subst haj;rw[List.getElem?_set_self (zZ ha).1] at hj;cases hj;exact⟨s,ha,hb⟩
 ·rw[List.getElem?_set_ne haj] at hj;exact⟨t',hj,Sb.refl t'⟩
theorem qt9{a:Nat}{s:St}{p:List UInt8}(ha:w.mem[a]?=some s)(hb:Sb s (qaI s p).1){j:Nat}{t:St}(hj:w.mem[j]?=some t):∃t',(qfq w a p).mem[j]?=some t'∧Sb t t':=by
 rw[qgD ha];by_cases haj:a=j
 ·subst haj;rw[ha] at hj;cases hj;exact⟨_,List.getElem?_set_self (zZ ha).1,hb⟩
 ·exact⟨t,by rw[List.getElem?_set_ne haj];exact hj,Sb.refl t⟩
theorem Cfg.sub{a:Nat}{s:St}{p:List UInt8}(c:Cfg T w)(ha:w.mem[a]?=some s)(hb:Sb s (qaI s p).1):Cfg T (qfq w a p):=by
 refine⟨fun i t' hi hd=>?_,fun q hq=>?_⟩
 ·obtain⟨t,h1,h2⟩:=qeG ha hb hi;rw[h2.self];exact c.up i t h1 hd
 ·obtain⟨i,t,h1,h2,h3⟩:=c.all q hq;obtain⟨t',g1,g2⟩:=qt9 ha hb h1;exact⟨i,t',g1,g2.self.trans h2,h3⟩
inductive Mode (v0:Int) (k:Nat) (v nv:Vw) (w:Wd):Prop
 | old (r:Rwk v0 k v w) (h1:w.views=[v]) (h2:∀(i:Nat) (s:St),w.mem[i]?=some s→qaB w i=false)
 | sealed (r:M2a v0 k v nv w)
 | inst (r:M2b v0 k v nv w)
 | new (r:Rwk v0 k nv w) (h1:w.views=[v,nv])
theorem Mode.base(m:Mode v0 k v nv w):(∃H S,Sys v0 k w H S)∧Bnd w:=by
 cases m with
 | old r _ _=>exact⟨r.sys,r.bnd⟩
 | sealed r=>exact⟨r.sys,r.bnd⟩
 | inst r=>exact⟨r.sys,r.bnd⟩
 | new r _=>exact⟨r.sys,r.bnd⟩
theorem Lead.sub{a:Nat}{s:St}{p:List UInt8}(ha:w.mem[a]?=some s)(hb:Sb s (qaI s p).1){i:Nat}{t':St}(h:Lead nv (qfq w a p) i t'):∃t,Lead nv w i t∧Sb t t':=by
 exact qou
theorem Fol.sub{a:Nat}{s:St}{p:List UInt8}(ha:w.mem[a]?=some s)(hb:Sb s (qaI s p).1){i:Nat}{t':St}(h:Fol nv (qfq w a p) i t'):∃t,Fol nv w i t∧Sb t t':=by
 exact qou
theorem Rwk.sub{a:Nat}{s:St}{p:List UInt8}(r:Rwk v0 k T w)(ha:w.mem[a]?=some s)(hb:Sb s (qaI s p).1)(hs:∃H' S',Sys v0 k (qfq w a p) H' S')(hbn:Bnd (qfq w a p)):Rwk v0 k T (qfq w a p):=by
 refine⟨hs,hbn,r.lst,fun i t' hi hd=>?_,r.cfg.sub ha hb⟩;obtain⟨t,g1,g2⟩:=qeG ha hb hi;obtain⟨k1,k2⟩:=r.opn i t g1 hd;exact⟨g2.views.trans k1,g2.base.trans k2⟩
theorem Mode.sub{a:Nat}{s:St}{p:List UInt8}(m:Mode v0 k v nv w)(ha:w.mem[a]?=some s)(hb:Sb s (qaI s p).1)(hs:∃H' S',Sys v0 k (qfq w a p) H' S')(hbn:Bnd (qfq w a p)):Mode v0 k v nv (qfq w a p):=by
 cases m with
 | old r h1 h2=>
  refine .old (r.sub ha hb hs hbn) h1 fun i t' hi=>?_;obtain⟨t,g1,_⟩:=qeG ha hb hi;exact h2 i t g1
 | new r h1=>exact .new (r.sub ha hb hs hbn) h1
 | sealed r=>
  refine .sealed ⟨hs,hbn,r.views,fun t' ht=>?_,r.cfg.sub ha hb,fun i t' hi hd=>?_,fun j t' hF=>?_,fun i t' hL=>?_,r.knd⟩
  ·obtain⟨j,hj⟩:=List.mem_iff_getElem?.1 ht;obtain⟨t,g1,g2⟩:=qeG ha hb hj;rw[g2.base];exact r.bases t (zX g1)
  ·obtain⟨t,g1,g2⟩:=qeG ha hb hi;exact g2.views.trans (r.vws i t g1 hd)
  ·obtain⟨t,g1,g2⟩:=hF.sub ha hb;obtain⟨e1,e2⟩:=r.fol j t g1;refine⟨by rw[g2.open];exact e1,?_⟩;rw[g2.self,g2.base,g2.cl e1];exact e2
  ·obtain⟨t,g1,g2⟩:=hL.sub ha hb;rw[g2.marks,g2.fls,g2.self,g2.open];exact r.crd i t g1
 | inst r=>
  refine .inst ⟨hs,hbn,r.views,r.cfg.sub ha hb,fun i t' hi hd=>?_,fun j t' hF=>?_,fun i t' hL=>?_,fun i s' j t' hL hF=>?_⟩
  ·obtain⟨t,g1,g2⟩:=qeG ha hb hi;exact g2.views.trans (r.vws i t g1 hd)
  ·obtain⟨t,g1,g2⟩:=hF.sub ha hb;rw[g2.open];exact r.fol j t g1
  ·obtain⟨t,g1,g2⟩:=hL.sub ha hb;rw[g2.open];exact r.crd i t g1
  ·obtain⟨s0,l1,l2⟩:=hL.sub ha hb;obtain⟨t,g1,g2⟩:=hF.sub ha hb;obtain⟨ents,e1,e2,e3,e4,e5⟩:=r.ins i s0 j t l1 g1;refine⟨ents,by rw[l2.self,g2.self];exact e1,e2,e3,e4,?_⟩;rw[g2.st,g2.cl (r.fol j t g1)];exact e5
theorem Mode.calm(m:Mode v0 k v nv w)(g:w.views=[v]∨Chg v nv):(qaG w).2=true∧Mode v0 k v nv (qaG w).1∧(qaG w).1.views=w.views:=by
 obtain⟨⟨H,S,h⟩,b⟩:=m.base;obtain⟨_,w1,H1,S1,h2,h3,_,h4,_⟩:=h.calm b;have hvv:(qaG w).1.views=w.views:=h4.views.trans h3.views;have hdd:∀i,qaB (qaG w).1 i=qaB w i:=fun i=>by rw[h4.dn];exact h3.dn i
 cases m with
 | old r h1 hd=>
  obtain⟨q1,q2⟩:=r.calm;refine⟨q1,.old q2.weak (hvv.trans h1) fun i t hi=>?_,hvv⟩;have hlt:i<w.mem.length:=by
   have:=(zZ hi).1;rw[h4.len,show (qaR w1).mem.length=w1.mem.length from rfl,h3.len] at this;exact this
  rw[hdd];exact hd i _ (zY hlt)
 | new r h1=>
  obtain⟨q1,q2⟩:=r.calm;exact⟨q1,.new q2.weak (hvv.trans h1),hvv⟩
 | sealed r=>
  rcases g with g|g
  ·rw[r.views] at g;cases g
  ·obtain⟨q1,q2⟩:=r.calm g;exact⟨q1,.inst q2,hvv⟩
 | inst r=>
  rcases g with g|g
  ·rw[r.views] at g;cases g
  ·obtain⟨q1,q2⟩:=r.calm g;exact⟨q1,.new q2.weak (hvv.trans r.views),hvv⟩
structure Pre(v0:Int)(k:Nat)(v nv:Vw)(w:Wd):Prop where
 sys:∃H S,Sys v0 k w H S
 bnd:Bnd w
 views:w.views=[v,nv]
 opn:Opn [v] w
 bases:∀t∈w.mem,t.base=v.1
 cfg:Cfg nv w
theorem qjm(s:St):(qaD s).marks=s.marks:=by
 unfold qaD
 repeat' split
 all_goals rfl
theorem qjP(s:St):(qaD s).base=s.base∨(qaD s).base=(qad s.views).1:=by
 unfold qaD
 repeat' split
 all_goals first|exact .inl rfl|exact .inr rfl
theorem Pre.calm(r:Pre v0 k v nv w)(g:Chg v nv):(qaG w).2=true∧M2a v0 k v nv (qaG w).1:=by
 obtain⟨H,S,h⟩:=r.sys;obtain⟨h1,w1,H1,S1,h2,h3,_,h4,h5⟩:=h.calm r.bnd;obtain⟨k1,k2,k3,k4,k5,k6⟩:=g.facts;rw[←h3.len] at h4;have hv1:w1.views=[v,nv]:=h3.views.trans r.views;have o1:Opn [v] w1:=r.opn.dlv h3 h3.len;have hb1:∀t∈w1.mem,t.base=v.1:=fun t ht=>by
  obtain⟨j,hj⟩:=List.mem_iff_getElem?.1 ht;obtain⟨t0,e0,u⟩:=h3.back hj;cases hd:qaB w j with
  | true=>
   obtain⟨t2,e2,_,e3⟩:=h3.up j t0 e0;rw[hj] at e2;cases e2;rw[e3 hd];exact r.bases t0 (zX e0)
  | false=>rw[(u.op (r.opn.op e0 hd)).2.1];exact r.bases t0 (zX e0)
 have hlrn:∀(j:Nat) (t:St),w1.mem[j]?=some t→qaB w1 j=false→lrn (qaR w1) t={t with views:=[v,nv],marks:=[],fls:=[]}:=fun j t hj hd=>by
  have hvt:=(o1 j t hj hd).1;have hV:=(h2.core.here hj).2.1;unfold lrn;rw[hvt,show (qaR w1).views=w1.views from rfl,hv1,if_neg (by simp)];unfold qaT;have e:([v]:List Vw)++[qbu [v,nv] [v].length]=[v,nv]:=rfl;rw[if_neg (by rw[qb2.2 hV];simp),hvt,e,if_neg (by rw[g.val];simp)]
 have c1:Cfg nv (qaR w1):=⟨(r.cfg.dlv h3).up,(r.cfg.dlv h3).all⟩;have b1:Bnd (qaR w1):=⟨(r.bnd.dlv h3).tot,(r.bnd.dlv h3).vw,(r.bnd.dlv h3).vl,(r.bnd.dlv h3).ml⟩;have hfacts:∀(j:Nat) (t1:St),w1.mem[j]?=some t1→qaB w1 j=false→VS {t1 with views:=[v,nv],marks:=[],fls:=[]}∧qan {t1 with views:=[v,nv],marks:=[],fls:=[]}=false:=fun j t1 hj hd=>by
  refine⟨by rw[←hlrn j t1 hj hd];exact(qdQ h2.nofly hj).1,?_⟩;unfold qan;have:=hb1 t1 (zX hj);show decide (t1.base=(qad [v,nv]).1)=false;rw[qf1,this];exact decide_eq_false (by omega)
 have hst:∀(j:Nat) (t:St),(qaG w).1.mem[j]?=some t→qaB (qaG w).1 j=false→∃t1,w1.mem[j]?=some t1∧qaB w1 j=false∧t=(qaM {t1 with views:=[v,nv],marks:=[],fls:=[]}).s∧∃A B,(qaG w).1.fly=A++(pkF t1.self (qaM {t1 with views:=[v,nv],marks:=[],fls:=[]}).pk++B):=fun j t hj hd=>by
  have hd0:qaB w1 j=false:=by have e:=h4.dn j;rw[hd] at e;exact e.symm
  obtain⟨t1,e1,e2,e3⟩:=Psd.back (w:=qaR w1) h4 hj hd;rw[hlrn j t1 e1 hd0] at e2 e3;exact⟨t1,e1,hd0,e2,e3⟩
 have hlead:∀(t1:St),qas {t1 with views:=[v,nv],marks:=[],fls:=[]}=decide (qa1 nv=t1.self):=fun t1=>rfl;have hmine:∀(t1:St),qhY {t1 with views:=[v,nv],marks:=[],fls:=[]}=false:=fun t1=>rfl;refine⟨h1,⟨h5,b1.psd h2.nofly h4,h4.views.trans hv1,fun t ht=>?_,c1.psd h2.nofly h4,fun j t hj hd=>?_,fun j t hF=>?_,fun j t hL=>?_,fun f hf=>?_⟩⟩
 ·obtain⟨j,hj⟩:=List.mem_iff_getElem?.1 ht;cases hd:qaB (qaG w).1 j with
  | true=>
   have hlt:j<w1.mem.length:=by have:=(zZ hj).1;rw[h4.len] at this;exact this
   have hs:=zY hlt;have hdd:qaB (qaR w1) j=true:=by rw[←h4.dn];exact hd
   have:=h4.old j _ (.inr hdd) hs;rw[hj] at this;cases this;exact .inl (hb1 _ (List.getElem_mem _))
  | false=>
   obtain⟨t1,e1,e2,rfl,_⟩:=hst j t hj hd;obtain⟨f1,f2⟩:=hfacts j t1 e1 e2;have hbb:=hb1 t1 (zX e1);cases hl:qas {t1 with views:=[v,nv],marks:=[],fls:=[]} with
   | false=>rw[(qej f1 f2 hl).1];exact .inl hbb
   | true=>
    rw[(qfT f1 f2 hl).1,hmine];simp only[Bool.false_eq_true,if_false];rcases qjP {t1 with views:=[v,nv],marks:=[],fls:=putF [] (t1.self,t1.base,t1.log)} with e|e
    ·exact .inl (e.trans hbb)
    ·exact .inr e
 ·obtain⟨t1,e1,e2,rfl,_⟩:=hst j t hj hd;rw[(qa2 (hfacts j t1 e1 e2).1).2.1]
 ·obtain⟨q1,q2,q3⟩:=hF;obtain⟨t1,e1,e2,rfl,A,B,hf⟩:=hst j t q1 q3;obtain⟨f1,f2⟩:=hfacts j t1 e1 e2;rw[(qa2 f1).1] at q2;have hl:qas {t1 with views:=[v,nv],marks:=[],fls:=[]}=false:=by rw[hlead];exact decide_eq_false fun e=>q2 e.symm
  obtain⟨z1,z2⟩:=qej f1 f2 hl;rw[z1];refine⟨f2,?_⟩;rw[hf,z2];simp[pkF,qf1]
 ·obtain⟨q1,q2,q3⟩:=hL;obtain⟨t1,e1,e2,rfl,_⟩:=hst j t q1 q3;obtain⟨f1,f2⟩:=hfacts j t1 e1 e2;rw[(qa2 f1).1] at q2;have hl:qas {t1 with views:=[v,nv],marks:=[],fls:=[]}=true:=by rw[hlead];exact decide_eq_true q2.symm
  rw[(qa2 f1).1,(qfT f1 f2 hl).1,hmine];simp only[Bool.false_eq_true,if_false];refine⟨qjm _,fun ho=>?_⟩;rw[qgh ho];show t1.self∈(putF [] (t1.self,t1.base,t1.log)).map Prod.fst∧¬∀q∈nv.2,q∈(putF [] (t1.self,t1.base,t1.log)).map Prod.fst;have e:(putF [] (t1.self,t1.base,t1.log)).map Prod.fst=[t1.self]:=rfl;rw[e];refine⟨by simp,fun hall=>?_⟩;have hlen:=(qdy k2).length_le_of_subset (l₂:=[t1.self]) hall;have h9:=g.maj;have h8:=g.less;simp only[zK,List.length_nil] at hlen;omega
 ·rcases h4.fly f hf with z|⟨j,t1,_,e2,e1,x,hx,rfl⟩
  ·cases z
  ·obtain⟨f1,f2⟩:=hfacts j t1 e1 e2;rw[hlrn j t1 e1 e2] at hx;cases hl:qas {t1 with views:=[v,nv],marks:=[],fls:=[]} with
   | true=>rw[(qfT f1 f2 hl).2] at hx;cases hx
   | false=>
    rw[(qej f1 f2 hl).2,List.mem_singleton] at hx;subst hx;have hin:=zX e1;obtain⟨y1,y2⟩:=h2.core.logE hin;have hlim:qil v.1:=qaV k1;refine⟨_,qgt (t:=nv.1) (b:=t1.base) (l:=t1.log) (qaV k2) ?_ y1 y2,rfl⟩;rw[hb1 t1 hin];exact⟨by omega,hlim.2⟩
end
end Go.Proofs.YtponbabbabnaeaaGreat
