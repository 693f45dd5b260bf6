/- Part 24 of the proof: contracts of functions that the statement reaches. Conditions: as each theorem says. -/
import Derived.Test.YtponbabbabnaeaaGreatQf23
import Derived.Test.YtponbabbabnaeaaGreatQf22
import Derived.Test.YtponbabbabnaeaaGreatQf01
import Derived.Test.YtponbabbabnaeaaGreatQf02
import Derived.Test.YtponbabbabnaeaaGreatQf20
import Derived.Test.YtponbabbabnaeaaGreatQf21
set_option maxRecDepth 100000
set_option maxHeartbeats 40000000
namespace Go.Proofs.YtponbabbabnaeaaGreat
theorem qpS {P : Prop} (h : P := by
 obtain⟨q1,q2⟩:=r.calm;rw[qbP q1];obtain⟨z1,z2⟩:=Rnd.many 9 q2;exact⟨z1,_,z2⟩) : P := h
def qf2(c:Nat)(v:Vw):List Int:=qiu c v.2 v.2.length
def qct(c:Nat)(v:Vw):Vw:=((qb9 v.1 v.2 (qf2 c v)).1,(qb9 v.1 v.2 (qf2 c v)).2.1)
def qnP(c:Nat)(v:Vw):Bool:=decide ((qb9 v.1 v.2 (qf2 c v)).2.2=0)
def qbj(v:Vw)(c:Nat)(who:List Nat):Nat→Wd
 | 0=>qc1 v
 | k+1=>(qeq (qct c v) (qnP c v) c who.length (qbj v c who k) k ((who[k]?).getD 0)).1
def qcf:Nat→Wd→Wd
 | 0,w=>w
 | n+1,w=>(qaG (qcf n w)).1
theorem qtE{c:Nat}{xs:List Int}(hn:xs.Nodup){i:Nat}{x:Int}(hx:xs[i]?=some x):x∈qiu c xs xs.length↔qch c i=true:=by
 have hi:=(zZ hx);unfold qiu;simp only[List.mem_map,List.mem_filter,List.mem_range];constructor
 ·rintro⟨j,⟨h1,h2⟩,h3⟩;rw[zY h1,Option.getD_some] at h3;have:j=i:=qei hn h1 hi.1 (by rw[h3,hi.2]);rw[←this];exact h2
 ·intro h;exact⟨i,⟨hi.1,h⟩,by rw[hx];rfl⟩
theorem qlv{c:Nat}{xs:List Int}{x:Int}(h:x∈qiu c xs xs.length):x∈xs:=by
 unfold qiu at h;simp only[List.mem_map,List.mem_filter,List.mem_range] at h;obtain⟨j,⟨h1,_⟩,rfl⟩:=h;rw[zY h1,Option.getD_some];exact List.getElem_mem _
theorem qlR{c:Nat}{v:Vw}(hv:qap v.1 v.2=true)(h:qnP c v=true):Chg v (qct c v)∧∀(i:Nat) (x:Int),v.2[i]?=some x→(x∈(qct c v).2↔qch c i=false):=by
 unfold qnP at h;simp only[zE] at h;have hnf:qb9 v.1 v.2 (qf2 c v)=((qct c v).1,(qct c v).2,0):=by unfold qct;rw[←h]
 obtain⟨n1,n2,n3,n4,n5,n6,n7,n8,n9⟩:=qhP hnf;have hnd:=qdy hv;have hj:qbR (qf2 c v) v.2 false=[]:=by
  unfold qbR;rw[List.filter_eq_nil_iff];intro x hx;have:=qbq.2 (qlv hx);rw[this];simp
 have hlen:(qct c v).2.length=(qbR v.2 (qf2 c v) false).length:=by
  rw[n4,hj];have:=qgB (qbR v.2 (qf2 c v) false) [];simpa using this
 have hmem:∀x,x∈(qct c v).2↔x∈v.2∧x∉qf2 c v:=fun x=>by
  rw[n6];constructor
  ·rintro(h|h)
   ·exact h
   ·exact absurd (qlv h.1) h.2
  ·exact .inl
 refine⟨⟨?_,fun q hq=>((hmem q).1 hq).1,by rw[hlen];exact n7,?_⟩,fun i x hx=>?_⟩
 ·have:=qg3 (v:=qct c v) (qib hv) (by simp) (qhQ hnf);exact this
 ·rw[hlen];obtain⟨c1,_⟩:=qc9 (m:=32) (qbg.1 n1).2;unfold qbR;refine List.length_filter_lt_length_iff_exists.2 ?_;have hg:(qf2 c v)[0]?=some (qf2 c v)[0]:=zY (by omega);have hin:=zX hg;exact⟨_,qlv hin,by rw[qbq.2 hin];simp⟩
 ·rw[hmem,qf2,qtE hnd hx];constructor
  ·intro h;cases hb:qch c i with
   | false=>rfl
   | true=>exact absurd hb h.2
  ·intro h;exact⟨zX hx,by rw[h];simp⟩
section
variable {v0:Int} {k:Nat} {w w':Wd} {H:qc8} {S:qdT} {T v nv:Vw}
theorem qkx(h:Sys v0 k w H S)(b:Bnd w):(qaG w).1.mem.map St.self=w.mem.map St.self∧((qaG w).1.mem.map fun s=>s.sent.toNat)=(w.mem.map fun s=>s.sent.toNat)∧∀i,qaB (qaG w).1 i=qaB w i:=by
 obtain⟨_,w1,H1,S1,h2,h3,_,h4,_⟩:=h.calm b;rw[←h3.len] at h4;have hlen:(qaG w).1.mem.length=w.mem.length:=by rw[h4.len];exact h3.len
 have hp:∀(i:Nat) (s t:St),w.mem[i]?=some s→(qaG w).1.mem[i]?=some t→t.self=s.self∧t.sent=s.sent:=fun i s t hs ht=>by
  obtain⟨s1,e1,u,_⟩:=h3.up i s hs;cases hd:qaB (qaR w1) i with
  | true=>
   have:=h4.old i s1 (.inr hd) e1;rw[ht] at this;cases this;exact⟨u.self,u.sent⟩
  | false=>
   have:=(h4.new i s1 (List.mem_range.2 (zZ e1).1) hd e1).1;rw[ht] at this;cases this;obtain⟨hV,hs2⟩:=qdQ h2.nofly e1;obtain⟨a1,a2,a3⟩:=qa2 hV;refine⟨a1.trans (hs2.trans u.self),a3.trans ?_⟩;rcases qcn h2.nofly e1 with e|⟨_,e,_⟩<;>rw[e]<;>exact u.sent
 refine⟨List.ext_getElem (by simp[hlen]) fun i q1 q2=>?_,qoP hlen fun i s t hs ht=>(hp i s t hs ht).2,fun i=>by rw[h4.dn];exact h3.dn i⟩;simp only[zP] at q1 q2;simp only[List.getElem_map];exact(hp i _ _ (zY q2) (zY q1)).1
structure Lp(v nv:Vw)(chg:Bool)(len i:Nat)(w:Wd):Prop where
 mode:Mode v.1 1 v nv w
 vw:w.views=[v]∨(chg=true∧len / 2<i)
 tot:(w.mem.map fun s=>s.sent.toNat).sum=i
 slf:w.mem.map St.self=v.2
theorem qpL:∀{l:List Nat} {i a b:Nat},l[i]?=some a→(l.set i b).sum+a=l.sum+b
 | x::l,0,a,b,h=>by simp at h;subst h;simp;omega
 | x::l,i+1,a,b,h=>by
  have:=qpL (l:=l) (i:=i) (a:=a) (b:=b) (by simpa using h);simp only[List.set_cons_succ,List.sum_cons];omega
theorem Lp.sub{chg:Bool}{len i:Nat}(l:Lp v nv chg len i w)(hi:i<20){x:Nat}:∃s,w.mem[x % w.mem.length]?=some s∧(qaI s [UInt8.ofNat x,UInt8.ofNat i]).2=0∧Mode v.1 1 v nv (qfq w (x % w.mem.length) [UInt8.ofNat x,UInt8.ofNat i])∧
  ((qfq w (x % w.mem.length) [UInt8.ofNat x,UInt8.ofNat i]).mem.map fun s=>s.sent.toNat).sum=i+1∧(qfq w (x % w.mem.length) [UInt8.ofNat x,UInt8.ofNat i]).mem.map St.self=v.2:=by
 obtain⟨⟨H,S,h⟩,b⟩:=l.mode.base;have hml:=h.ml.1;have ha:x % w.mem.length<w.mem.length:=Nat.mod_lt _ hml;obtain⟨s,hs⟩:∃s,w.mem[x % w.mem.length]?=some s:=⟨_,zY ha⟩;have hV:=(h.core.here hs).2.1;have h20:=b.sent (zX hs);obtain⟨e1,e2,e3⟩:=quv hV (p:=[UInt8.ofNat x,UInt8.ofNat i]) (by simp) (by omega);have hsum:((qfq w (x % w.mem.length) [UInt8.ofNat x,UInt8.ofNat i]).mem.map fun s=>s.sent.toNat).sum=i+1:=by
  rw[qgD hs,List.map_set];have:=qpL (l:=w.mem.map fun s=>s.sent.toNat) (i:=x % w.mem.length) (a:=s.sent.toNat) (b:=(qaI s [UInt8.ofNat x,UInt8.ofNat i]).1.sent.toNat) (by rw[zM,hs];rfl);rw[l.tot,e3] at this;have h0:=hV.sent0;rw[e3];omega
 refine⟨s,hs,e1,l.mode.sub hs e2 (h.sub hs (by simp) e1 e2) ⟨by rw[hsum];omega,b.vw,b.vl,?_⟩,hsum,?_⟩
 ·rw[qgD hs,List.length_set];exact b.ml
 ·rw[qgD hs,List.map_set];rw[qfc (by rw[zM,hs,Option.map_some,e2.self])];exact l.slf
theorem qoA{c:Nat}(g:Chg v nv)(hbit:∀(i:Nat) (x:Int),v.2[i]?=some x→(x∈nv.2↔qch c i=false))(r:Rwk v.1 1 v w)(h1:w.views=[v])(h2:∀(i:Nat) (s:St),w.mem[i]?=some s→qaB w i=false)(hs:w.mem.map St.self=v.2)(h5:v.2.length≤5):Pre v.1 1 v nv (qd6 w c nv):=by
 obtain⟨H,S,h⟩:=r.sys;have hnew:qaw (w.views++[nv])=true:=by rw[h1];exact g.val
 obtain⟨c1,a1⟩:=h.core.more hnew;have hvw:(qd6 w c nv).views=[v,nv]:=by show w.views++[nv]=_;rw[h1];rfl
 have hdn:∀i,i<w.mem.length→qaB (qd6 w c nv) i=qch c i:=fun i hi=>by
  unfold qaB qd6;simp only;rw[zM,List.getElem?_range (by rw[h.dl];exact hi)];rfl
 have hself:∀(i:Nat) (s:St),w.mem[i]?=some s→v.2[i]?=some s.self:=fun i s hi=>by rw[←hs,zM,hi];rfl
 have hml:w.mem.length≤5:=r.bnd.ml;refine⟨⟨H,S,c1,?_,?_,by have:=h.ml.1;show 1≤w.mem.length∧w.mem.length≤5+1;omega,by simp[qd6,h.dl],h.tl,h.sl,h.told,h.sent,fun f hf=>?_,h.flen,h.two⟩,⟨r.bnd.tot,?_,by rw[hvw];simp,r.bnd.ml⟩,hvw,fun i s hi _=>?_,fun t ht=>?_,⟨fun i s hi hd=>?_,fun q hq=>?_⟩⟩
 ·show (qbu (w.views++[nv]) 0).1=v.1;rw[qdn (List.prefix_append _ _) (qa8 h.core.vld).1];exact h.first
 ·rw[hvw];simp
 ·obtain⟨f1,f2,f3,mm,f4,f5⟩:=h.fly f hf;exact⟨f1,f2,f3,mm,f4,a1 _ _ f5⟩
 ·rw[hvw];intro x hx;simp only[zC,zN,or_false] at hx;have:=g.less;rcases hx with rfl|rfl<;>omega
 ·obtain⟨k1,k2⟩:=r.opn i s hi (h2 i s hi);rw[h1] at k1 k2;exact⟨k1,k2⟩
 ·obtain⟨j,hj⟩:=List.mem_iff_getElem?.1 ht;have:=(r.opn j t hj (h2 j t hj)).2;rw[h1] at this;exact this
 ·have hi':w.mem[i]?=some s:=hi;rw[hdn i (zZ hi').1] at hd;exact(hbit i _ (hself i s hi')).2 hd
 ·have hqv:=g.sub q hq;rw[←hs] at hqv;obtain⟨s,hs1,rfl⟩:=List.mem_map.1 hqv;obtain⟨i,hi⟩:=List.mem_iff_getElem?.1 hs1;exact⟨i,s,hi,rfl,by rw[hdn i (zZ hi).1];exact(hbit i _ (hself i s hi)).1 hq⟩
theorem Lp.step{c:Nat}{chg:Bool}{len i x:Nat}(l:Lp v nv chg len i w)(hi:i<20)(h5:v.2.length≤5)(hc:chg=true→Chg v nv∧∀(i:Nat) (x:Int),v.2[i]?=some x→(x∈nv.2↔qch c i=false)) :
  (qeq nv chg c len w i x).2=true∧Lp v nv chg len (i+1) (qeq nv chg c len w i x).1∧(∃H S,Sys v.1 1 (if i=len / 2∧chg=true then qd6 (qfq w (x % w.mem.length) [UInt8.ofNat x,UInt8.ofNat i]) c nv else qfq w (x % w.mem.length) [UInt8.ofNat x,UInt8.ofNat i]) H S∧Bnd (if i=len / 2∧chg=true then qd6 (qfq w (x % w.mem.length) [UInt8.ofNat x,UInt8.ofNat i]) c nv else qfq w (x % w.mem.length) [UInt8.ofNat x,UInt8.ofNat i])):=by
 obtain⟨s,q1,q2,q3,q4,q5⟩:=l.sub hi (x:=x);have e:qeq nv chg c len w i x=qaG (if i=len / 2∧chg=true then qd6 (qfq w (x % w.mem.length) [UInt8.ofNat x,UInt8.ofNat i]) c nv else qfq w (x % w.mem.length) [UInt8.ofNat x,UInt8.ofNat i]):=by
  unfold qeq;rw[qcz q1,if_neg (by rw[q2];simp)]
 rw[e];by_cases hcr:i=len / 2∧chg=true
 ·rw[if_pos hcr];obtain⟨g,hbit⟩:=hc hcr.2;have hv1:(qfq w (x % w.mem.length) [UInt8.ofNat x,UInt8.ofNat i]).views=[v]:=by
   show w.views=[v];rcases l.vw with h|h
   ·exact h
   ·omega
  cases q3 with
  | sealed r=>have:=r.views;rw[hv1] at this;cases this
  | inst r=>have:=r.views;rw[hv1] at this;cases this
  | new r h1=>rw[hv1] at h1;cases h1
  | old r h1 h2=>
   have hp:=qoA (c:=c) g hbit r h1 h2 q5 h5;obtain⟨H,S,hs⟩:=hp.sys;obtain⟨z1,z2⟩:=hp.calm g;obtain⟨y1,y2,_⟩:=qkx hs hp.bnd;exact⟨z1,⟨.sealed z2,.inr ⟨hcr.2,by omega⟩,by rw[y2];exact q4,y1.trans q5⟩,H,S,hs,hp.bnd⟩
 ·rw[if_neg hcr];obtain⟨⟨H,S,hs⟩,hb⟩:=q3.base;obtain⟨z1,z2,z3⟩:=q3.calm (by
   show w.views=[v]∨_;rcases l.vw with h|h
   ·exact .inl h
   ·exact .inr (hc h.1).1)
  obtain⟨y1,y2,_⟩:=qkx hs hb;refine⟨z1,⟨z2,?_,by rw[y2];exact q4,y1.trans q5⟩,H,S,hs,hb⟩;rw[z3];rcases l.vw with h|h
  ·exact .inl h
  ·exact .inr ⟨h.1,by omega⟩
theorem Lp.begin(hv:qap v.1 v.2=true)(h5:v.2.length≤5)(chg:Bool)(len:Nat):Lp v nv chg len 0 (qc1 v):=by
 have hs:=(Sys.begin hv h5).more_k;have e:=ql0 hv;have hm:(qc1 v).mem=v.2.map (qg7 v):=by rw[e]
 have hvw:(qc1 v).views=[v]:=by rw[e]
 have hz:((qc1 v).mem.map fun s=>s.sent.toNat).sum=0:=by
  rw[hm,List.map_map];have:∀l:List Int,(l.map ((fun s:St=>s.sent.toNat)∘qg7 v)).sum=0:=fun l=>by
   induction l with
   | nil=>rfl
   | cons a l ih=>rw[List.map_cons,List.sum_cons,ih];rfl
  exact this v.2
 have hsl:(qc1 v).mem.map St.self=v.2:=by
  rw[hm,List.map_map];have:(St.self∘qg7 v)=id:=rfl;rw[this,List.map_id]
 have hg:∀(i:Nat) (s:St),(qc1 v).mem[i]?=some s→∃p∈v.2,s=qg7 v p:=fun i s hi=>by
  have:=zX hi;rw[hm] at this;obtain⟨p,h1,h2⟩:=List.mem_map.1 this;exact⟨p,h1,h2.symm⟩
 have hd:∀(i:Nat) (s:St),(qc1 v).mem[i]?=some s→qaB (qc1 v) i=false:=fun i s hi=>by
  have hl:=(zZ hi).1;rw[hm,zP] at hl;unfold qaB;rw[e];simp only;rw[zM,zY hl];rfl
 refine⟨.old ⟨⟨_,_,hs⟩,⟨by rw[hz];omega,?_,by rw[hvw];simp,by rw[hm,zP];exact h5⟩,by rw[hvw];rfl,fun i s hi _=>?_,⟨fun i s hi _=>?_,fun q hq=>?_⟩⟩ hvw hd,.inl hvw,hz,hsl⟩
 ·rw[hvw];intro x hx;simp only[zC,zN,or_false] at hx;subst hx;exact h5
 ·obtain⟨p,_,rfl⟩:=hg i s hi;rw[hvw];exact⟨rfl,rfl⟩
 ·obtain⟨p,h1,rfl⟩:=hg i s hi;exact h1
 ·rw[←hsl] at hq;obtain⟨s,h1,rfl⟩:=List.mem_map.1 hq;obtain⟨i,hi⟩:=List.mem_iff_getElem?.1 h1;exact⟨i,s,hi,rfl,hd i s hi⟩
theorem qhp{c:Nat}{who:List Nat}(hv:qap v.1 v.2=true)(h5:v.2.length≤5)(hw:who.length≤20):∀k,k≤who.length→Lp v (qct c v) (qnP c v) who.length k (qbj v c who k)
 | 0,_=>Lp.begin hv h5 _ _
 | k+1,hk=>((qhp hv h5 hw k (by omega)).step (by omega) h5 (fun h=>qlR hv h)).2.1
theorem qjW:∀(n:Nat) (w:Wd),(qb6 n w).2=true→qcf n w=(qb6 n w).1
 | 0,w,_=>rfl
 | n+1,w,h=>by
  have h1:(qb6 n w).2=true:=by
   apply Classical.byContradiction;intro hn;have:∀(n m:Nat) (w:Wd),¬(qb6 n w).2=true→¬(qb6 (n+m) w).2=true:=by
    intro n;induction n with
    | zero=>intro m w h;exact absurd rfl h
    | succ n ih=>
     intro m w h;rw[show n+1+m=(n+m)+1 by omega];by_cases hc:(qaG w).2=true
     ·rw[qbP hc] at h⊢;exact ih m _ h
     ·show ¬(if (qaG w).2=true then qb6 (n+m) (qaG w).1 else ((qaG w).1,false)).2=true;rw[if_neg hc];simp
   exact this n 1 w hn h
  have h2:=qhX n 1 w h1;show (qaG (qcf n w)).1=_;rw[qjW n w h1,h2];show _=(if (qaG (qb6 n w).1).2=true then qb6 0 (qaG (qb6 n w).1).1 else ((qaG (qb6 n w).1).1,false)).1;split<;>rfl
theorem Mode.ten(m:Mode v0 k v nv w)(g:w.views=[v]∨Chg v nv):(qb6 10 w).2=true∧∃T,Rnd v0 k T (qb6 10 w).1:=by
 cases m with
 | old r _ _=>
  exact qpS
 | new r _=>
  exact qpS
 | inst r=>
  rcases g with g|g
  ·rw[r.views] at g;cases g
  obtain⟨q1,q2⟩:=r.calm g;rw[qbP q1];obtain⟨z1,z2⟩:=Rnd.many 9 q2;exact⟨z1,_,z2⟩
 | sealed r=>
  rcases g with g|g
  ·rw[r.views] at g;cases g
  obtain⟨q1,q2⟩:=r.calm g;obtain⟨p1,p2⟩:=q2.calm g;rw[qbP q1,qbP p1];obtain⟨z1,z2⟩:=Rnd.many 8 p2;exact⟨z1,_,z2⟩
theorem Mode.its(m:Mode v0 k v nv w)(g:w.views=[v]∨Chg v nv):∀n,Mode v0 k v nv (qcf n w)∧((qcf n w).views=[v]∨Chg v nv)
 | 0=>⟨m,g⟩
 | n+1=>by
  obtain⟨h1,h2⟩:=Mode.its m g n;obtain⟨_,z2,z3⟩:=h1.calm h2;exact⟨z2,by rcases h2 with h|h;exact .inl (z3.trans h);exact .inr h⟩
theorem qnb(h:Sys v0 k w H S)(d:quZ w){i j:Nat}{t u:St}{tl:List Ent}{sn:List (List UInt8)}(hi:w.mem[i]?=some t)(hdi:qaB w i=false)(hj:w.mem[j]?=some u)(hdj:qaB w j=false)(ht:w.told[i]?=some tl)(hs:w.sent[j]?=some sn) :
  qar tl u.self=sn.length:=by
 have h1:=h.told i t hi;rw[ht] at h1;have h2:=h.sent j u hj;rw[hs] at h2;cases h1;cases h2;have h3:=d i j t u hi hdi hj hdj;have h4:=(h.core.pend u (zX hj)).1;have h5:=h.core.own_sub t.self t.base u.self (own_ne (h.core.here hj).2.1.self);rw[(h.core.cur t (zX hi)).1] at h5;have h6:=qcp t.log t.stable.toNat u.self;omega
theorem qrl{c:Nat}{who:List Nat}(hv:qap v.1 v.2=true)(h5:v.2.length≤5)(hw:who.length≤20):(∃H S,Sys v.1 1 (qcf 16 (qbj v c who who.length)) H S)∧quZ (qcf 16 (qbj v c who who.length)):=by
 have l:=qhp (c:=c) hv h5 hw who.length (zR _);have g:(qbj v c who who.length).views=[v]∨Chg v (qct c v):=by
  rcases l.vw with h|h
  ·exact .inl h
  ·exact .inr (qlR hv h.1).1
 obtain⟨h1,T,h2⟩:=l.mode.ten g;obtain⟨q1,q2,q3⟩:=h2.six;have e:qb6 16 (qbj v c who who.length)=qb6 6 (qb6 10 (qbj v c who who.length)).1:=qhX 10 6 _ h1;have e2:qcf 16 (qbj v c who who.length)=(qb6 6 (qb6 10 (qbj v c who who.length)).1).1:=by
  rw[qjW 16 _ (by rw[e];exact q1),e]
 rw[e2];exact⟨q2.sys,q3⟩
end
section
variable {v0:Int} {k:Nat} {w:Wd} {H:qc8} {S:qdT}
theorem Sys.noflyC(h:Sys v0 k w H S):Sys v0 k (qaR w) H S:=⟨h.core,h.first,h.vk,h.ml,h.dl,h.tl,h.sl,h.told,h.sent,fun f hf=>(by cases hf),zO _,h.two⟩
theorem Sys.fineC(h:Sys v0 k w H S)(b:Bnd w)(hk:k≤900):FineC w:=by
 have hn:∀n,qaf (w.fly.take n) (qaR w)=(qaR (qaf (w.fly.take n) w).1,(qaf (w.fly.take n) w).2):=fun n=>qez _ w [];have hs:∀n,(qaf (w.fly.take n) w).2=true∧(∃H' S',Sys v0 k (qaf (w.fly.take n) w).1 H' S')∧Dlv w (qaf (w.fly.take n) w).1:=fun n=>Sys.hands _ h (fun f hf=>List.mem_of_mem_take hf);obtain⟨z1,⟨H1,S1,z2⟩,z3⟩:=hs w.fly.length;have h4:=z2.noflyC;have hlen:(qaR (qaf (w.fly.take w.fly.length) w).1).mem.length=w.mem.length:=z3.len;have hpk:∀i s,i<w.mem.length→qaB (qaR (qaf (w.fly.take w.fly.length) w).1) i=false→(qaR (qaf (w.fly.take w.fly.length) w).1).mem[i]?=some s→(qaM (lrn (qaR (qaf (w.fly.take w.fly.length) w).1) s)).pk.length≤25:=fun i s hr hd hi=>by
  have hi0:=zY hr;obtain⟨s2,g1,u,_⟩:=z3.up i _ hi0;have:s2=s:=by rw[show (qaR (qaf (w.fly.take w.fly.length) w).1).mem=(qaf (w.fly.take w.fly.length) w).1.mem from rfl,g1] at hi;exact Option.some.inj hi
  subst this;have hse:s2.sent≤20:=by rw[u.sent];exact b.sent (List.getElem_mem _)
  obtain⟨hV,_⟩:=qdQ h4 hi;refine qmd hV ?_ ?_
  ·rcases qcn h4 hi with e|⟨_,e,_⟩<;>rw[e]<;>exact hse
  ·refine b.vw _ ?_;have hp:=(h4.core.here hi).2.2.1;rw[show (qaR (qaf (w.fly.take w.fly.length) w).1).views=w.views from z3.views] at hp;rcases qcn h4 hi with e|⟨_,e,hp2⟩
   ·rw[e];exact hp.subset (qbb (qdf (h4.core.here hi).2.1.vs)).1
   ·rw[e];rw[show (qaR (qaf (w.fly.take w.fly.length) w).1).views=w.views from z3.views] at hp2⊢;simp only[qgK];exact hp2.subset (by simp)
 have hp:∀j,j≤w.mem.length→(qbd (List.range j) (qaR (qaf (w.fly.take w.fly.length) w).1)).2=true∧(∃H' S',Sys v0 k (qbd (List.range j) (qaR (qaf (w.fly.take w.fly.length) w).1)).1 H' S')∧Psd (List.range j) (qaR (qaf (w.fly.take w.fly.length) w).1) (qbd (List.range j) (qaR (qaf (w.fly.take w.fly.length) w).1)).1:=fun j hj=>
  Sys.passes (List.range j) h4 List.nodup_range (fun i hi=>by rw[hlen];have:=List.mem_range.1 hi;omega) (fun i s hi hd hs=>hpk i s (by have:=List.mem_range.1 hi;omega) hd hs) (by
   have:=b.ml;show 0+_≤_;simp only[List.length_range];omega)
 refine⟨h.flen,(h.fine hk).fb,fun n _=>?_,fun n _=>?_,fun n f hf=>?_,fun j hj=>?_,fun j hj=>?_⟩
 ·rw[hn];exact(hs n).1
 ·rw[hn];obtain⟨_,⟨H',S',g⟩,_⟩:=hs n;exact g.noflyC.fine hk
 ·rw[hn];obtain⟨_,⟨H',S',g⟩,d⟩:=hs n;have hfm:f∈(qaf (w.fly.take n) w).1.fly:=by rw[d.fly];exact zX hf
  have F:=g.fine hk;refine⟨?_,?_⟩
  ·simp only;rw[show qaR (qaf (w.fly.take n) w).1={(qaf (w.fly.take n) w).1 with fly:=[]} from rfl,qiP];exact F.hand f hfm
  ·exact F.recv f hfm _ (qtc F.ml.1 _)
 ·rw[hn];exact(hp j hj).1
 ·rw[hn];obtain⟨_,⟨H2,S2,q2⟩,p⟩:=hp j hj;refine⟨q2.fine hk,p.len.trans hlen,fun hjl _=>?_⟩;obtain⟨_,H3,S3,q3⟩:=q2.learn (a:=j) (by rw[p.len,hlen];exact hjl);exact q3.fine hk
end
open Go.RowKit
def qnx(num:Int)(xs cut:List Int):Bool:=(qb9 num xs cut).2.2 == 0
theorem qhI(num:Int)(A Ac:Option Addr)(c cc:Nat)(xs cut:List Int)(w:World)(hx:Row w A (qaq xs))(hc:Row w Ac (qaq cut))
  (hn:xs.length≤9223372036854775807) (hnc:cut.length≤9223372036854775807) :
  Calls Tryz.prog 27 #[.agg #[Jq num,.slice A xs.length c],.slice Ac cut.length cc] w fun e w'=>e=.returned (.bool (qnx num xs cut))∧Ext w w':=by
 have H0:=hJ (Ext.new w (.cells #[Jq num,.slice A xs.length c] 46));have HX:=hJ (hx.ext H0.out);have HC:=hJ (hc.ext H0.out);clear hx hc;obtain⟨⟨n',ys,er⟩,hr⟩:∃r,qb9 num xs cut=r:=⟨_,rfl⟩;have HR:=hJ hr;have HF:Hid (qnx num xs cut=(er == 0)):=hJ (by rw[qnx,hr]);clear hr;go_enter Tryz.func27,Tryz.ntmps27;go_wp2_with fail;refine(qkA num A Ac c cc xs cut _ HX.out HC.out hn hnc).mono ?_;rw[HR.out];rintro e w1 ⟨A1,c1,rfl,_,_,_,hx1⟩;have X1:=hJ (H0.out.trans hx1);clear hx1 HX HC H0;by_cases he:er=0
 ·subst he;go_wp2;go_ret;exact⟨qae (by rw[HF.out];rfl),X1.out.alloc _⟩
 ·have he':(er == 0)=false:=by simpa using he
  go_wp2;go_ret;exact⟨qae (by rw[HF.out];exact he'.symm),X1.out.alloc _⟩
def qk8(v:Vw)(c:Nat)(who:List Nat)(k x:Nat):Wd:=qfq (qbj v c who k) (x % (qbj v c who k).mem.length) [UInt8.ofNat x,UInt8.ofNat k]
def qpV(v:Vw)(c:Nat)(who:List Nat)(k x:Nat):Wd:=if k=who.length / 2∧qnP c v=true then qd6 (qk8 v c who k x) c (qct c v) else qk8 v c who k x
section
variable {v:Vw} {c:Nat} {who:List Nat}
theorem qpx(hv:qap v.1 v.2=true)(h5:v.2.length≤5)(hw:who.length≤20){k:Nat}(hk:k≤who.length):FineW (qbj v c who k)∧(qbj v c who k).mem.length=v.2.length:=by
 have l:=qhp (c:=c) hv h5 hw k hk;obtain⟨⟨H,S,h⟩,_⟩:=l.mode.base;refine⟨h.fine (by omega),?_⟩;have:=congrArg List.length l.slf;rwa [zP] at this
theorem qpT(hv:qap v.1 v.2=true)(h5:v.2.length≤5)(hw:who.length≤20){k x:Nat}(hx:who[k]?=some x) :
  (qaI (qeo (qbj v c who k) (x % (qbj v c who k).mem.length)) [UInt8.ofNat x,UInt8.ofNat k]).2=0∧FineC (qpV v c who k x)∧qbj v c who (k+1)=(qaG (qpV v c who k x)).1:=by
 have hk:=(zZ hx).1;have l:=qhp (c:=c) hv h5 hw k (by omega);obtain⟨s,q1,q2,_⟩:=l.sub (by omega) (x:=x);obtain⟨_,_,H,S,z1,z2⟩:=l.step (by omega) h5 (fun h=>qlR hv h) (x:=x);refine⟨by rw[qcz q1];exact q2,z1.fineC z2 (by omega),?_⟩;show (qeq (qct c v) (qnP c v) c who.length (qbj v c who k) k ((who[k]?).getD 0)).1=_;rw[hx];unfold qeq;simp only[Option.getD_some];rw[qcz q1,if_neg (by rw[q2];simp)];rfl
theorem qqg(hv:qap v.1 v.2=true)(h5:v.2.length≤5)(hw:who.length≤20)(n:Nat):FineC (qcf n (qbj v c who who.length)):=by
 have l:=qhp (c:=c) hv h5 hw who.length (zR _);have g:(qbj v c who who.length).views=[v]∨Chg v (qct c v):=by
  rcases l.vw with h|h
  ·exact .inl h
  ·exact .inr (qlR hv h.1).1
 obtain⟨m,_⟩:=l.mode.its g n;obtain⟨⟨H,S,h⟩,b⟩:=m.base;exact h.fineC b (by omega)
theorem qqQ(hv:qap v.1 v.2=true)(h5:v.2.length≤5)(hw:who.length≤20):FineW (qcf 16 (qbj v c who who.length))∧
  (∀(i j:Nat) (s t:St) (tl:List Ent) (sn:List (List UInt8)),(qcf 16 (qbj v c who who.length)).mem[i]?=some s→qaB (qcf 16 (qbj v c who who.length)) i=false→(qcf 16 (qbj v c who who.length)).mem[j]?=some t→qaB (qcf 16 (qbj v c who who.length)) j=false→
   (qcf 16 (qbj v c who who.length)).told[i]?=some tl→(qcf 16 (qbj v c who who.length)).sent[j]?=some sn→qar tl t.self=sn.length)∧
  ∀(i j:Nat) (t u:List Ent),(qcf 16 (qbj v c who who.length)).told[i]?=some t→(qcf 16 (qbj v c who who.length)).told[j]?=some u→t.length≤u.length→t<+:u:=by
 obtain⟨⟨H,S,h⟩,d⟩:=qrl (c:=c) hv h5 hw;exact⟨h.fine (by omega),fun i j s t tl sn h1 h2 h3 h4 h5 h6=>qnb h d h1 h2 h3 h4 h5 h6,fun i j t u h1 h2 h3=>h.order h1 h2 h3⟩
theorem qrj:qnx v.1 v.2 (qiu c v.2 v.2.length)=qnP c v:=by
 unfold qnx qnP qf2;rw[Bool.eq_iff_iff];simp
theorem qqC(h:qnP c v=true):qb9 v.1 v.2 (qiu c v.2 v.2.length)=((qct c v).1,(qct c v).2,0):=by
 unfold qnP qf2 at h;simp only[zE] at h;unfold qct qf2;exact Prod.ext rfl (Prod.ext rfl h)
def qmZ(c:Nat)(d:List Bool)(j:Nat):List Bool:=(List.range j).map (qch c)++d.drop j
theorem qtp(d:List Bool):qmZ c d 0=d:=by simp[qmZ]
theorem quE(d:List Bool){j:Nat}(h:j<d.length):(qmZ c d j).set j (qch c j)=qmZ c d (j+1):=by
 unfold qmZ;rw[List.set_append_right _ _ (by simp),zP,List.length_range,Nat.sub_self,List.drop_eq_getElem_cons h,List.set_cons_zero,List.range_succ,List.map_append];simp
theorem qun(d:List Bool):qmZ c d d.length=(List.range d.length).map (qch c):=by simp[qmZ]
theorem qj3{l:List Ent}{j:Nat}{e:Ent}(o:Int)(h:l[j]?=some e):qar (l.take (j+1)) o=qar (l.take j) o+(if e.o=o then 1 else 0):=by
 unfold qar;rw[List.take_add_one,h,List.countP_append];by_cases he:e.o=o<;>simp[he]
end
theorem qrX {P : Prop} (h : P := by
 clear hfl;go_wp2;go_end0;refine⟨_,colr,rfl,CR.out,?_,BR.out⟩
 exact qtn HMW.out HTW.out HNT2.out HF.out HE.out) : P := h
def quX(B p:Nat)(cs:List Nat)(col:Nat→Nat)(w:World)(v:Value)(r:Wd)(en:Ending)(w':World):Prop:=∃m col',en=.returned v∧WS w' B col' p m∧m.wd=r∧Stp B cs col w col' w'
theorem qkh(m:WM)(B:Nat)(col:Nat→Nat)(p i:Nat)(Ak:Option Addr)(ck:Nat)(pk:List PkM)(Ae:Option Addr)(ce:Nat)(dl:List Ent)(w:World)(h:WS w B col p m)(hi:i<m.mem.length)(hi2:i<m.told.length)(HP:PkIn w col Ak pk)(hd:Row w Ae (qaH.cells dl))
  (hn:m.fly.length≤400) (hpl:pk.length≤100000) (htl:∀t∈m.told,t.l.length≤100000) (hdl:dl.length≤100000) :
  Calls Tryz.prog 99 #[.pointer (some (Pq p 0)),Jq (i:Int),.slice Ak pk.length ck,.slice Ae dl.length ce] w (quX B p [1,5,7,10+2*i] col w (.tuple #[]) (qg9 m.wd i (pk.map PkM.v) dl)):=by
 obtain⟨Av,cv,vs,Am,cm,mem,Ad,cd,down,At,ct,told,As,cs,sent,Af,cf,fly⟩:=m;simp only at hi hi2 hn htl;obtain⟨gm,b,hAm,_,_,_,hb,cself,_⟩:=qhE h.mem hi;simp only at hAm hb;subst hAm;obtain⟨gt,t,hAt,ht,ct0⟩:=qny h.told hi2;simp only at hAt ht;subst hAt;have htl0:=htl t (zX ht);clear htl;obtain⟨self,hself⟩:∃x,x=b.self:=⟨_,rfl⟩;rw[←hself] at cself;have HMW:Hid ((qeo (⟨Av,cv,vs,some (Pq gm 0),cm,mem,Ad,cd,down,some (Pq gt 0),ct,told,As,cs,sent,Af,cf,fly⟩:WM).wd i).self=self):=hJ (by rw[hself];unfold qeo WM.wd;simp only[zM,hb];rfl);have HTW:Hid ((told.map TlM.l)[i]?=some t.l):=hJ (by rw[zM,ht];rfl);have H:=hJ h;have HPK:=hJ HP;have HD:=hJ hd;have HB0:=hJ hb;have HT:=hJ ht;have HSELF:=hJ hself;clear h HP hd hb ht hself;go_enter Tryz.func99,Tryz.ntmps99;go_upto_region 0 with fail;refine E_g 14 (fun w'=>Cq w' p 3 (.slice (some (Pq gt 0)) told.length ct)∧Cq w' gt i (.slice t.A t.l.length t.c)) ⟨by have:=(qaE (H.out.ext zW)).2.2.2.1;exact this,ct0⟩ (fun yH=>?_);have XD:Hid (Ext w w.drew):=hJ zW;have C1:=hJ (H.out.ext XD.out);have P1:=hJ (HPK.out.ext XD.out);have D1:=hJ (HD.out.ext XD.out);have BL1:Hid (Stp B [1,5,7,10+2*i] col w col w.drew):=hJ (Stp.ext' H.out.Bsz XD.out);clear XD;generalize w.drew=u1 at *;refine E_t4 0 9 ?_;refine E_t4 4 13 ?_;refine E_t4 8 17 ?_;refine E_t 12 21 ?_;refine E_r 13 (some 22) fun K hK=>?_;refine qjw qaH rfl (.tmp 20) (.tmp 21) rfl u1 B _ t.l (by rfl) Ae dl.length ce dl (by rfl) rfl D1.out ⟨(C1.out.ti i t HT.out).1,fun _ _=>⟨trivial,fun r hr=>by simp[qaH] at hr⟩⟩ (fun _ _=>⟨trivial,fun r hr=>by simp[qaH] at hr⟩) (by omega) C1.out.Bsz ?_;intro v3 w3 ho3 hg3 hs3;obtain⟨NT,hNT⟩:∃l',l'=t.l++dl:=⟨_,rfl⟩;rw[←hNT] at ho3;obtain⟨A3,c3,col3,rfl,bx3,f3,e3,ws3,st3⟩:=C1.out.app_told rfl HT.out hNT ho3 hg3 hs3;have HNT:=hJ hNT;have C3:=hJ ws3;have P3:=hJ (P1.out.keep st3 (by simp only[zC,zN,or_false];omega));have BL3:Hid (Stp B [1,5,7,10+2*i] col w col3 _):=hJ (BL1.out.trans (st3.mono (by simp)));have q3:w3.cell? (Pq p 3)=some (.slice (some (Pq gt 0)) told.length ct):=bx3.cell 3;clear ho3 hg3 hs3 bx3 ws3 st3 hNT;clear yH;refine hK.out _ _ ⟨q3,e3⟩ (fun yH=>?_);clear hK K;try simp only[Act.put,aP1,aP2,aP3]
 refine E_l ?_;go_upto_region 1 with fail;generalize w3.setCell (Pq gt i) (.slice A3 NT.length c3)=v1 at *;clear q3 f3 e3 yH ct0 cself C1 P1 D1 BL1;have HNT2:Hid (((told.set i ⟨A3,c3,NT⟩).map TlM.l)=(told.map TlM.l).set i (t.l++dl)):=hJ (by rw[List.map_set,HNT.out]);obtain⟨NTL,hNTL⟩:∃l,l=told.set i ⟨A3,c3,NT⟩:=⟨_,rfl⟩;rw[←hNTL] at C3 HNT2;clear hNTL;go_wp2;go_loopw [8] (fun kk wr=>∃(k:Nat) (Afr:Option Addr) (cfr:Nat) (fl:List FyM) (colr:Nat→Nat),k≤pk.length∧(k=0∨fly.length+k≤400)∧kk=Jq k∧Hid (fl.map FyM.v=fly.map FyM.v++(pk.take k).map fun x=>(self,x.t,x.bs))∧Hid (WS wr B colr p ⟨Av,cv,vs,some (Pq gm 0),cm,mem,Ad,cd,down,some (Pq gt 0),ct,NTL,As,cs,sent,Afr,cfr,fl⟩)∧Hid (PkIn wr colr Ak pk)∧Hid (Stp B [1,5,7,10+2*i] col w colr wr)) (fun kk _=>pk.length - (intOf kk).toNat)
 case atStart=>exact⟨0,Af,cf,fly,col3,zO _,.inl rfl,rfl,hJ (by simp),hJ (by have:=C3.out;simpa using this),P3,BL3⟩
 case round=>
  obtain⟨k,Afr,cfr,fl,colr,hk,hk4,rfl,HF,CR,PR,BR⟩:=hrel;have hfl:fl.length=fly.length+k:=by have:=congrArg List.length HF.out;simp only[zP,zA,zT] at this;omega
  obtain⟨z0,z1,z2,z3,z4,z5⟩:=qaE CR.out;clear z0 z2 z3 z4;simp only at z1 z5;by_cases hlt:k<pk.length;rotate_left
  ·have HE:Hid (pk.take k=pk.take (400 - fly.length)):=hJ (by rw[List.take_of_length_le (by omega),List.take_of_length_le (by omega)]);exact qrX
  by_cases h400:fly.length+k<400;rotate_left
  ·have HE:Hid (pk.take k=pk.take (400 - fly.length)):=hJ (by rw[show k=400 - fly.length by omega]);have h4a:¬fl.length<400:=by omega
   have h4b:¬(fl.length:Int)<400:=by omega
   exact qrX
  have h4a:fl.length<400:=by omega
  have h4b:(fl.length:Int)<400:=by omega
  obtain⟨bk,ok,x,hAk,hbk,cx0,cx1,HX⟩:=quY PR.out.1.1 hlt;subst hAk;have hs0:=CR.out.mem.cell HB0.out (j:=0) rfl;have cs:wr.cell? (Pq gm (i*9))=some (Jq self):=by rw[HSELF.out];simpa[qbY] using hs0
  clear hs0;clear hfl;go_upto_region 4 with fail;refine E_g 26 (fun w'=>Cq w' p 5 (.slice Afr fl.length cfr)∧Cq w' p 1 (.slice (some (Pq gm 0)) mem.length cm)∧Cq w' gm (i*9) (Jq self)∧Cq w' bk (ok+k*2) (Jq x.t)∧Cq w' bk (ok+k*2+1) (.slice x.A x.bs.length x.c)) ⟨z5,z1,cs,cx0,cx1⟩ (fun yH=>?_);have XD:Hid (Ext wr wr.drew):=hJ zW;replace BR:=hJ (BR.out.trans (Stp.ext' CR.out.Bsz XD.out));replace CR:=hJ (CR.out.ext XD.out);replace PR:=hJ (PR.out.ext XD.out);clear XD;generalize wr.drew=u4 at *;refine E_t4 0 38 ?_;refine E_t4 4 42 ?_;refine E_t4 8 46 ?_;refine E_t4 12 50 ?_;refine E_t4 16 54 ?_;refine E_t4 20 58 ?_;refine E_r 24 (some 62) fun K hK=>?_;go_simp;generalize hQ:(u4.alloc (.cells #[Jq self,Jq x.t,.slice x.A x.bs.length x.c] 137))=u5 at *;have EA:Hid (Ext u4 u5):=(by subst hQ;exact hJ (Ext.new _ _));have HRE:Hid (Row u5 (some (Pq u4.heap.size 0)) (qhv.cells [⟨self,x.t,x.A,x.c,x.bs⟩])):=(by subst hQ;exact hJ (Elem.one_row (E:=qhv) (BIs.new _ _ _)));replace BR:=hJ (BR.out.trans (Stp.ext' CR.out.Bsz EA.out));replace CR:=hJ (CR.out.ext EA.out);replace PR:=hJ (PR.out.ext EA.out);have T0:u5.cell? (Pq p 5)=some (.slice Afr fl.length cfr)∧u5.cell? (Pq p 1)=some (.slice (some (Pq gm 0)) mem.length cm)∧u5.cell? (Pq gm (i*9))=some (Jq self)∧u5.cell? (Pq bk (ok+k*2))=some (Jq x.t)∧u5.cell? (Pq bk (ok+k*2+1))=some (.slice x.A x.bs.length x.c):=(by subst hQ;exact quT EA.out yH);clear EA;clear hQ;generalize u4.heap.size=r_e at *;clear yH;refine hK.out _ _ T0 (fun yH=>?_);clear hK K;try simp only[Act.put,aP1,aP2,aP3]
  refine E_r 25 (some 63) fun K hK=>?_;refine qbT qhv rfl (.tmp 42) (.tmp 62) rfl u5 B _ fl (by rfl) _ 1 1 [⟨self,x.t,x.A,x.c,x.bs⟩] (by rfl) rfl HRE.out (by decide) (CR.out.fly.ob (by decide)) (CR.out.fly.good (by decide) (fun y hy=>by simp only[zC,zN,or_false] at hy;subst hy;exact PR.out.fly HX.out)) (by omega) CR.out.Bsz ?_;intro v6 w6 ho6 hg6 hs6;obtain⟨NF,hNF⟩:∃l',l'=fl++[(⟨self,x.t,x.A,x.c,x.bs⟩:FyM)]:=⟨_,rfl⟩;rw[←hNF] at ho6;obtain⟨A6,c6,col6,rfl,bx6,ws6,st6⟩:=CR.out.push_fly (PR.out.fly HX.out) hNF ho6 hg6 hs6;have HNF:=hJ hNF;have C6:=hJ ws6;have P6:=hJ (PR.out.keep st6 (by decide));have BL6:Hid (Stp B [1,5,7,10+2*i] col w col6 _):=hJ (BR.out.trans (st6.mono (by simp)));have q6:w6.cell? (Pq p 5)=some (.slice Afr fl.length cfr):=bx6.cell 5;have q7:w6.cell? (Pq p 1)=some (.slice (some (Pq gm 0)) mem.length cm):=bx6.cell 1;have f6:=bx6.free 5;have q8:w6.cell? (Pq gm (i*9))=some (Jq self)∧w6.cell? (Pq bk (ok+k*2))=some (Jq x.t)∧w6.cell? (Pq bk (ok+k*2+1))=some (.slice x.A x.bs.length x.c):=⟨qh8 CR.out.fly.cv hg6 (by rw[CR.out.mem.cv gm rfl];decide) yH.2.2.1,qh8 CR.out.fly.cv hg6 (by rw[PR.out.blk (by omega)];decide) yH.2.2.2.1,qh8 CR.out.fly.cv hg6 (by rw[PR.out.blk (by omega)];decide) yH.2.2.2.2⟩;clear ho6 hg6 hs6 bx6 ws6 st6 hNF;clear yH;refine hK.out _ _ ⟨q6,q7,q8⟩ (fun yH=>?_);clear hK K;try simp only[Act.put,aP1,aP2,aP3]
  refine E_l ?_;go_wp2;go_roundw
  case rel=>
   refine⟨k+1,A6,c6,NF,col6,by omega,.inr (by omega),by go_num,hJ ?_,C6,P6,BL6⟩;rw[HNF.out,List.map_append,HF.out,List.append_assoc,qbv HX.out,List.map_append];rfl
  case measure=>simp[intOf];omega
def Kp(B:Nat)(col:Nat→Nat)(w:World)(col':Nat→Nat)(w':World):Prop:=Below B w w'∧∀k,k<w.heap.size→col k=0→col' k=0∧w'.heap[k]?=w.heap[k]?
section
variable {B:Nat} {col col' col'':Nat→Nat} {w w' w'':World} {cs:List Nat}
theorem Kp.refl(B:Nat)(col:Nat→Nat)(w:World):Kp B col w col w:=⟨Below.refl _ _,fun _ _ h=>⟨h,rfl⟩⟩
theorem Kp.trans(a:Kp B col w col' w')(b:Kp B col' w' col'' w''):Kp B col w col'' w'':=
 ⟨a.1.trans b.1,fun k hk h=>by
  have h1:=a.2 k hk h;have h2:=b.2 k (Nat.lt_of_lt_of_le hk a.1.size) h1.1;exact⟨h2.1,h2.2.trans h1.2⟩⟩
theorem Kp.ext(hB:B≤w.heap.size)(e:Ext w w'):Kp B col w col w':=⟨e.mono hB,fun k hk h=>⟨h,e.block k hk⟩⟩
theorem Stp.kp(s:Stp B cs col w col' w')(h:0∉cs):Kp B col w col' w':=⟨s.below,fun k hk h0=>⟨(s.hue k hk).trans h0,s.off k hk (by rw[h0];exact h)⟩⟩
theorem Kp.row{A:Option Addr}{xs:List Value}(s:Kp B col w col' w')(h:Row w A xs)(hc:ColR col 0 A xs):Row w' A xs∧ColR col' 0 A xs:=by
 constructor
 ·intro hx;obtain⟨b,off,h1,h2,h3⟩:=h hx;refine⟨b,off,h1,Nat.lt_of_lt_of_le h2 s.1.size,fun j u hj=>?_⟩;have hb:w'.heap[b]?=w.heap[b]?:=(s.2 b h2 (hc _ hx h1)).2;exact(World.cell?_of_block (a:=⟨b,off+j,none⟩) hb).trans (h3 j u hj)
 ·intro q hne hq;obtain⟨b,off,h1,h2,_⟩:=h hne;rw[h1] at hq;cases hq;exact(s.2 b h2 (hc _ hne h1)).1
theorem WS.noflyK{p:Nat}{m:WM}(h:WS w B col p m):Kp B col w (Proofs.YtponbabbabnaeaaGreat.hue0 col) (w.setCell (Pq p 5) Zq):=by
 have s:=(h.field 5 Zq).kp (by decide);exact⟨s.1,fun k hk h0=>⟨by unfold Proofs.YtponbabbabnaeaaGreat.hue0;rw[h0];rfl,(s.2 k hk h0).2⟩⟩
end
def qut(B p:Nat)(col:Nat→Nat)(w:World)(v:Value)(r:Wd)(en:Ending)(w':World):Prop:=∃m col',en=.returned v∧WS w' B col' p m∧m.wd=r∧Kp B col w col' w'
theorem qkp{i:Nat}:0∉[1,5,7,10+2*i]:=by simp only[zC,zN,or_false];omega
theorem qmi {P : Prop} (h : P := by
 clear y0 y1 y2 y3 y4 y5 y6 y7 y8 z0 z1 z2 z3 z4 z5 z6 z7 z8;clear yH;refine hK.out _ _ ⟨(qaE C.out).1,(qaE C.out).2.1,qaa C.out HBM.out 0 rfl,qaa C.out HBM.out 1 rfl,qaa C.out HBM.out 2 rfl,qaa C.out HBM.out 3 rfl,qaa C.out HBM.out 4 rfl,qaa C.out HBM.out 5 rfl,qaa C.out HBM.out 6 rfl,qaa C.out HBM.out 7 rfl,qaa C.out HBM.out 8 rfl,qcW C.out HUM.out 0 rfl,qcW C.out HUM.out 1 rfl⟩ (fun yH=>?_);clear hK K;try simp only[Act.put,aP1,aP2,aP3]
 refine E_t 22 8 ?_;refine E_e ?_;go_wp2;go_meet;exact⟨_,mb,col6,rfl,rfl,B_s,K_s,C,G,HCS,BL⟩) : P := h
theorem qqt(m:WM)(B:Nat)(col:Nat→Nat)(p i:Nat)(v0:Int)(w:World)(h:WS w B col p m)(hi:i<m.mem.length)(hvl:0<m.vs.length)(hv0:(qbu (vws m.vs) 0).1=v0)(hb0:(qbu (qeo m.wd i).views 0).1=v0∧0<(qeo m.wd i).views.length)(hn:m.vs.length≤100000)
  (hux:∀u∈m.vs,u.xs.length≤1000000) (hok:(qbZ m.wd i).2=true) :
  Calls Tryz.prog 100 #[.pointer (some (Pq p 0)),Jq (i:Int)] w (qut B p col w (.bool true) (qbZ m.wd i).1):=by
 obtain⟨Av,cv,vs,Am,cm,mem,Ad,cd,down,At,ct,told,As,cs,sent,Af,cf,fly⟩:=m;simp only at hi hvl hv0 hn;obtain⟨gm,b,hAm,_,_,_,hb,e0,e1,e2,e3,e4,e5,e6,e7,e8⟩:=qhE h.mem hi;simp only at hAm hb;subst hAm;rw[qfb hb] at hb0;obtain⟨gv,v,hAv,hvv,cv0,_⟩:=qub h.vs (k:=0) hvl;simp only at hAv hvv;subst hAv;have hvn:v.n=v0:=by rw[←hv0];unfold qbu vws;simp only[zM,hvv];rfl
 rw[hvn] at cv0;have hrd:=h.reads hb;obtain⟨bv,ov,bn,hBv,cb0⟩:=qmV hrd.1.vs (by have:=hb0.2;rw[show b.st.views=vws b.vs from rfl,qaX] at this;exact this);have hbn:bn=v0:=by obtain⟨h1,h2⟩:=cb0;rw[←hb0.1,←h1];rfl
 rw[hbn] at cb0;obtain⟨_,cb0⟩:=cb0;clear hvn hbn hvv;have hat:Hid (qe0 (⟨some (Pq gv 0),cv,vs,some (Pq gm 0),cm,mem,Ad,cd,down,At,ct,told,As,cs,sent,Af,cf,fly⟩:WM).wd i=(b.vs.length:Int)):=hJ (by unfold qe0;rw[qfb hb,hb0.1,show (qbu (⟨some (Pq gv 0),cv,vs,some (Pq gm 0),cm,mem,Ad,cd,down,At,ct,told,As,cs,sent,Af,cf,fly⟩:WM).wd.views 0).1=v0 from hv0,show b.st.views=vws b.vs from rfl,qaX];omega);have hbl:b.vs.length≤100000:=hrd.2.vs;have hbp:0<b.vs.length:=by have:=hb0.2;rw[show b.st.views=vws b.vs from rfl,qaX] at this;exact this
 have HBM:=hJ hb;have HMW:Hid (qeo (⟨some (Pq gv 0),cv,vs,some (Pq gm 0),cm,mem,Ad,cd,down,At,ct,told,As,cs,sent,Af,cf,fly⟩:WM).wd i=b.st):=hJ (qfb hb);have C:=hJ h;have BL:Hid (Kp B col w col w):=hJ (Kp.refl _ _ _);obtain⟨y0,y1,y2,y3,y4,y5⟩:=qaE h;clear y2 y3 y4 y5 hb hrd hb0 hv0 h;simp only at y0 y1;rw[hBv] at e1;clear hBv;have hwz:IntKind.i64.wrap 0=0:=IntWalk.i64_in _ (by omega);have hwn:IntKind.i64.wrap (b.vs.length:Int)=(b.vs.length:Int):=IntWalk.i64_in _ (by omega);go_enter Tryz.func100,Tryz.ntmps100;go_upto_region 2 with fail;have T0:w.drew.cell? (Pq p 0)=some (.slice (some (Pq gv 0)) vs.length cv)∧w.drew.cell? (Pq p 1)=some (.slice (some (Pq gm 0)) mem.length cm)∧w.drew.cell? (Pq gm (i*9+1))=some (.slice (some (Pq bv ov)) b.vs.length b.cv)∧w.drew.cell? (Pq bv ov)=some (Jq v0)∧w.drew.cell? (Pq gv 0)=some (Jq v0):=⟨y0,y1,e1,cb0,cv0⟩;refine E_g 20 (fun w'=>Cq w' p 0 (.slice (some (Pq gv 0)) vs.length cv)∧Cq w' p 1 (.slice (some (Pq gm 0)) mem.length cm)∧Cq w' gm (i*9+1) (.slice (some (Pq bv ov)) b.vs.length b.cv)∧Cq w' bv ov (Jq v0)∧Cq w' gv 0 (Jq v0)) T0 (fun yH=>?_);have XD:Hid (Ext w w.drew):=hJ zW;replace BL:=hJ (BL.out.trans (Kp.ext C.out.Bsz XD.out));replace C:=hJ (C.out.ext XD.out);clear XD y0 y1 e0 e1 e2 e3 e4 e5 e6 e7 e8 cb0 cv0;generalize w.drew=u1 at *;refine E_t4 0 18 ?_;refine E_t4 4 22 ?_;refine E_t4 8 26 ?_;refine E_t4 12 30 ?_;refine E_t2 16 34 ?_;refine E_t 18 36 ?_;refine E_t 19 6 ?_;refine E_e ?_;have y0:=(qaE C.out).1;by_cases hlt:b.vs.length<vs.length;rotate_left
 ·have HR:Hid (qbZ (⟨some (Pq gv 0),cv,vs,some (Pq gm 0),cm,mem,Ad,cd,down,At,ct,told,As,cs,sent,Af,cf,fly⟩:WM).wd i=((⟨some (Pq gv 0),cv,vs,some (Pq gm 0),cm,mem,Ad,cd,down,At,ct,told,As,cs,sent,Af,cf,fly⟩:WM).wd,true)):=hJ (by unfold qbZ;rw[hat.out];refine if_pos ?_;show ((vws vs).length:Int)≤_;rw[qaX];omega);go_wp2;go_ret;exact⟨_,col,rfl,C.out,by rw[HR.out],BL.out⟩
 obtain⟨gv',u,hAv',hu,cu0,cu1⟩:=qub C.out.vs (k:=b.vs.length) hlt;simp only[zJ,Addr.mk.injEq,and_true] at hAv';subst hAv';simp only at hu;have hui:=C.out.vs.inn u (zX hu);have HUR:=hJ (hui.2 (u.A,qaq u.xs) (by simp[qaC]));have HUM:=hJ hu;clear hui;have hvu:qbu (⟨some (Pq gv 0),cv,vs,some (Pq gm 0),cm,mem,Ad,cd,down,At,ct,told,As,cs,sent,Af,cf,fly⟩:WM).wd.views b.vs.length=(u.n,u.xs):=by show qbu (vws vs) b.vs.length=_;unfold qbu vws;simp only[zM,hu];rfl
 have HR:Hid (qbZ (⟨some (Pq gv 0),cv,vs,some (Pq gm 0),cm,mem,Ad,cd,down,At,ct,told,As,cs,sent,Af,cf,fly⟩:WM).wd i=if (qaT b.st (u.n,u.xs)).2≠0 then ((⟨some (Pq gv 0),cv,vs,some (Pq gm 0),cm,mem,Ad,cd,down,At,ct,told,As,cs,sent,Af,cf,fly⟩:WM).wd,false) else (qfv (⟨some (Pq gv 0),cv,vs,some (Pq gm 0),cm,mem,Ad,cd,down,At,ct,told,As,cs,sent,Af,cf,fly⟩:WM).wd i (qaT b.st (u.n,u.xs)).1,true)):=hJ (by unfold qbZ;rw[hat.out];refine(if_neg ?_).trans ?_;show ¬((vws vs).length:Int)≤_;rw[qaX];omega;simp only[Int.toNat_natCast,HMW.out,hvu]);have HOK:Hid ((qaT b.st (u.n,u.xs)).2=0):=hJ (by rw[HR.out] at hok;split at hok;cases hok;next hn=>simpa using hn);have hxl:=hux u (zX hu);have HW:Hid ((qbZ (⟨some (Pq gv 0),cv,vs,some (Pq gm 0),cm,mem,Ad,cd,down,At,ct,told,As,cs,sent,Af,cf,fly⟩:WM).wd i).1=qfv (⟨some (Pq gv 0),cv,vs,some (Pq gm 0),cm,mem,Ad,cd,down,At,ct,told,As,cs,sent,Af,cf,fly⟩:WM).wd i (qaT b.st (u.n,u.xs)).1):=hJ (by rw[HR.out,if_neg (by rw[HOK.out];simp)]);clear hok hvu hu hux HR cu0 cu1 y0;go_upto_region 5 with fail;go_cut [7,8] (fun s7 s8 wx=>∃(rs:Nat) (mb:BM) (colx:Nat→Nat),s7=.pointer (some (Pq rs 0))∧s8=Jq (qaT b.st (u.n,u.xs)).2∧Hid (BIs wx rs mb.cells 28)∧Hid (colx rs=9)∧Hid (WS wx B colx p ⟨some (Pq gv 0),cv,vs,some (Pq gm 0),cm,mem,Ad,cd,down,At,ct,told,As,cs,sent,Af,cf,fly⟩)∧Hid (RdC wx colx mb)∧Hid (mb.st=(qaT b.st (u.n,u.xs)).1)∧Hid (Kp B col w colx wx))
 case first=>
  refine E_g 23 (fun w'=>Cq w' p 0 (.slice (some (Pq gv 0)) vs.length cv)∧Cq w' p 1 (.slice (some (Pq gm 0)) mem.length cm)∧Cq w' gm (i*9) (Jq b.self)∧Cq w' gm (i*9+1) (.slice b.Av b.vs.length b.cv)∧Cq w' gm (i*9+2) (Jq b.base)∧Cq w' gm (i*9+3) (.slice b.Al b.log.length b.cl)∧Cq w' gm (i*9+4) (Jq b.stable)∧Cq w' gm (i*9+5) (Jq b.sent)∧Cq w' gm (i*9+6) (.slice b.Ap b.pend.length b.cp)∧Cq w' gm (i*9+7) (.slice b.Am b.marks.length b.cm)∧Cq w' gm (i*9+8) (.slice b.Af b.fls.length b.cf)∧Cq w' gv (b.vs.length*2) (Jq u.n)∧Cq w' gv (b.vs.length*2+1) (.slice u.A u.xs.length u.c)) ⟨(qaE (C.out.ext zW)).1,(qaE (C.out.ext zW)).2.1,qaa (C.out.ext zW) HBM.out 0 rfl,qaa (C.out.ext zW) HBM.out 1 rfl,qaa (C.out.ext zW) HBM.out 2 rfl,qaa (C.out.ext zW) HBM.out 3 rfl,qaa (C.out.ext zW) HBM.out 4 rfl,qaa (C.out.ext zW) HBM.out 5 rfl,qaa (C.out.ext zW) HBM.out 6 rfl,qaa (C.out.ext zW) HBM.out 7 rfl,qaa (C.out.ext zW) HBM.out 8 rfl,qcW (C.out.ext zW) HUM.out 0 rfl,qcW (C.out.ext zW) HUM.out 1 rfl⟩ (fun yH=>?_);have XD:Hid (Ext u1 u1.drew):=hJ zW;have ST:=hJ (Stp.ext' (B:=B) (cs:=[]) (col:=col) C.out.Bsz XD.out);replace BL:=hJ (BL.out.trans (ST.out.kp (by decide)));replace C:=hJ (C.out.keepB ST.out (by decide) (fun k hk=>C.out.z k (zL (XD.out).size hk)));clear ST;clear XD;generalize u1.drew=u2 at *;refine E_t4 0 47 ?_;refine E_t4 4 51 ?_;refine E_t4 8 55 ?_;refine E_t4 12 59 ?_;refine qcC [16,20] (by kernel_rfl) (by simp) ?_;refine(AllE.cons (o:=⟨some 63,_,_,_,_,_⟩) rfl (fun K hK=>?_) (AllE.cons (o:=⟨some 7,_,_,_,_,_⟩) rfl (fun K hK=>?_) AllE.nil))
  ·go_simp;go_at_call 24;refine(qhn b u.n u.A u.c u.xs _ (C.out.reads HBM.out).1 (C.out.reads HBM.out).2 ((C.out.vs.inn u (zX HUM.out)).2 (u.A,qaq u.xs) (by simp[qaC])).1 hxl).mono ?_;rintro en w3 ⟨mb,rfl,hcs,hrd,hft,hx,hnw⟩;have G:Hid (RdC w3 col mb):=hJ (qgZ hrd hft hnw C.out.z);have HCS:=hJ hcs;clear hcs hrd hft hnw;have ST:=hJ (Stp.ext' (B:=B) (cs:=[]) (col:=col) C.out.Bsz hx);replace BL:=hJ (BL.out.trans (ST.out.kp (by decide)));replace C:=hJ (C.out.keepB ST.out (by decide) (fun k hk=>C.out.z k (zL (hx).size hk)));clear ST;clear hx;clear yH;refine hK.out _ _ ⟨(qaE C.out).1,(qaE C.out).2.1,qaa C.out HBM.out 0 rfl,qaa C.out HBM.out 1 rfl,qaa C.out HBM.out 2 rfl,qaa C.out HBM.out 3 rfl,qaa C.out HBM.out 4 rfl,qaa C.out HBM.out 5 rfl,qaa C.out HBM.out 6 rfl,qaa C.out HBM.out 7 rfl,qaa C.out HBM.out 8 rfl,qcW C.out HUM.out 0 rfl,qcW C.out HUM.out 1 rfl⟩ (fun yH=>?_);clear hK K;try simp only[Act.put,aP1,aP2,aP3]
   refine E_t 17 46 ?_;refine E_t2 18 64 ?_;refine E_r 20 (some 7) fun K hK=>?_;go_simp;have ST:Hid (Stp B [] col w3 (qdc col w3.heap.size 9) (w3.alloc (.cells Yq 28))):=hJ (Stp.newBox C.out.Bsz);have B_s:Hid (BIs (w3.alloc (.cells Yq 28)) w3.heap.size Yq 28):=hJ (BIs.new _ _ _);have K_s:Hid ((qdc col w3.heap.size 9) w3.heap.size=9):=hJ qcd;have HBr:Hid (B≤w3.heap.size):=hJ C.out.Bsz;replace BL:=hJ (BL.out.trans (ST.out.kp (by decide)));replace C:=hJ (C.out.keepB ST.out (by decide) (qdq C.out.z));replace G:=hJ (G.out.keep ST.out (by decide));clear ST;generalize (qdc col w3.heap.size 9)=col6 at *;generalize (w3.alloc (.cells Yq 28))=u6 at *;generalize w3.heap.size=r_s at *;have Q_s:=HBr;clear HBr;clear yH;refine hK.out _ _ ⟨(qaE C.out).1,(qaE C.out).2.1,qaa C.out HBM.out 0 rfl,qaa C.out HBM.out 1 rfl,qaa C.out HBM.out 2 rfl,qaa C.out HBM.out 3 rfl,qaa C.out HBM.out 4 rfl,qaa C.out HBM.out 5 rfl,qaa C.out HBM.out 6 rfl,qaa C.out HBM.out 7 rfl,qaa C.out HBM.out 8 rfl,qcW C.out HUM.out 0 rfl,qcW C.out HUM.out 1 rfl⟩ (fun yH=>?_);clear hK K;try simp only[Act.put,aP1,aP2,aP3]
   refine E_r 21 none fun K hK=>?_;obtain⟨y0,y1,y2,y3,y4,y5,y6,y7,y8⟩:=qbU B_s.out;obtain⟨z0,z1,z2,z3,z4,z5,z6,z7,z8⟩:=B_s.out.free9;go_simp;generalize hQ:(((((((((u6.setCell (Pq r_s 0) (Jq mb.self)).setCell (Pq r_s 1) (.slice mb.Av mb.vs.length mb.cv)).setCell (Pq r_s 2) (Jq mb.base)).setCell (Pq r_s 3) (.slice mb.Al mb.log.length mb.cl)).setCell (Pq r_s 4) (Jq mb.stable)).setCell (Pq r_s 5) (Jq mb.sent)).setCell (Pq r_s 6) (.slice mb.Ap mb.pend.length mb.cp)).setCell (Pq r_s 7) (.slice mb.Am mb.marks.length mb.cm)).setCell (Pq r_s 8) (.slice mb.Af mb.fls.length mb.cf))=u7 at *;have ST:Hid (Stp B [9] col6 u6 col6 u7):=(by subst hQ;exact hJ (Stp.wrote qaj Q_s.out C.out.Bsz (by rw[K_s.out];decide)));have BN:Hid (BIs u7 r_s mb.cells 28):=(by subst hQ;exact hJ (qaO B_s.out));clear B_s;have B_s:=BN;clear BN;replace BL:=hJ (BL.out.trans (ST.out.kp (by decide)));replace C:=hJ (C.out.keepB ST.out (by decide) (fun k hk=>C.out.z k (zL ST.out.size hk)));replace G:=hJ (G.out.keep ST.out (by decide));clear ST;clear hQ;exact qmi
  ·go_simp;have ST:Hid (Stp B [] col u2 (qdc col u2.heap.size 9) (u2.alloc (.cells Yq 28))):=hJ (Stp.newBox C.out.Bsz);have B_s:Hid (BIs (u2.alloc (.cells Yq 28)) u2.heap.size Yq 28):=hJ (BIs.new _ _ _);have K_s:Hid ((qdc col u2.heap.size 9) u2.heap.size=9):=hJ qcd;have HBr:Hid (B≤u2.heap.size):=hJ C.out.Bsz;replace BL:=hJ (BL.out.trans (ST.out.kp (by decide)));replace C:=hJ (C.out.keepB ST.out (by decide) (qdq C.out.z));clear ST;generalize (qdc col u2.heap.size 9)=col6 at *;generalize (u2.alloc (.cells Yq 28))=u6 at *;generalize u2.heap.size=r_s at *;have Q_s:=HBr;clear HBr;clear yH;refine hK.out _ _ ⟨(qaE C.out).1,(qaE C.out).2.1,qaa C.out HBM.out 0 rfl,qaa C.out HBM.out 1 rfl,qaa C.out HBM.out 2 rfl,qaa C.out HBM.out 3 rfl,qaa C.out HBM.out 4 rfl,qaa C.out HBM.out 5 rfl,qaa C.out HBM.out 6 rfl,qaa C.out HBM.out 7 rfl,qaa C.out HBM.out 8 rfl,qcW C.out HUM.out 0 rfl,qcW C.out HUM.out 1 rfl⟩ (fun yH=>?_);clear hK K;try simp only[Act.put,aP1,aP2,aP3]
   refine E_r 16 (some 63) fun K hK=>?_;go_simp;go_at_call 24;refine(qhn b u.n u.A u.c u.xs _ (C.out.reads HBM.out).1 (C.out.reads HBM.out).2 ((C.out.vs.inn u (zX HUM.out)).2 (u.A,qaq u.xs) (by simp[qaC])).1 hxl).mono ?_;rintro en w3 ⟨mb,rfl,hcs,hrd,hft,hx,hnw⟩;have G:Hid (RdC w3 col6 mb):=hJ (qgZ hrd hft hnw C.out.z);have HCS:=hJ hcs;clear hcs hrd hft hnw;have ST:=hJ (Stp.ext' (B:=B) (cs:=[]) (col:=col6) C.out.Bsz hx);replace BL:=hJ (BL.out.trans (ST.out.kp (by decide)));replace C:=hJ (C.out.keepB ST.out (by decide) (fun k hk=>C.out.z k (zL (hx).size hk)));replace K_s:=hJ ((ST.out.hue _ B_s.out.lt).trans K_s.out);replace B_s:=hJ (ST.out.bis B_s.out (by rw[←ST.out.hue _ B_s.out.lt,K_s.out];decide));clear ST;clear hx;clear yH;refine hK.out _ _ ⟨(qaE C.out).1,(qaE C.out).2.1,qaa C.out HBM.out 0 rfl,qaa C.out HBM.out 1 rfl,qaa C.out HBM.out 2 rfl,qaa C.out HBM.out 3 rfl,qaa C.out HBM.out 4 rfl,qaa C.out HBM.out 5 rfl,qaa C.out HBM.out 6 rfl,qaa C.out HBM.out 7 rfl,qaa C.out HBM.out 8 rfl,qcW C.out HUM.out 0 rfl,qcW C.out HUM.out 1 rfl⟩ (fun yH=>?_);clear hK K;try simp only[Act.put,aP1,aP2,aP3]
   refine E_t 17 46 ?_;refine E_t2 18 64 ?_;refine E_r 21 none fun K hK=>?_;obtain⟨y0,y1,y2,y3,y4,y5,y6,y7,y8⟩:=qbU B_s.out;obtain⟨z0,z1,z2,z3,z4,z5,z6,z7,z8⟩:=B_s.out.free9;go_simp;generalize hQ:(((((((((w3.setCell (Pq r_s 0) (Jq mb.self)).setCell (Pq r_s 1) (.slice mb.Av mb.vs.length mb.cv)).setCell (Pq r_s 2) (Jq mb.base)).setCell (Pq r_s 3) (.slice mb.Al mb.log.length mb.cl)).setCell (Pq r_s 4) (Jq mb.stable)).setCell (Pq r_s 5) (Jq mb.sent)).setCell (Pq r_s 6) (.slice mb.Ap mb.pend.length mb.cp)).setCell (Pq r_s 7) (.slice mb.Am mb.marks.length mb.cm)).setCell (Pq r_s 8) (.slice mb.Af mb.fls.length mb.cf))=u7 at *;have ST:Hid (Stp B [9] col6 w3 col6 u7):=(by subst hQ;exact hJ (Stp.wrote qaj Q_s.out C.out.Bsz (by rw[K_s.out];decide)));have BN:Hid (BIs u7 r_s mb.cells 28):=(by subst hQ;exact hJ (qaO B_s.out));clear B_s;have B_s:=BN;clear BN;replace BL:=hJ (BL.out.trans (ST.out.kp (by decide)));replace C:=hJ (C.out.keepB ST.out (by decide) (fun k hk=>C.out.z k (zL ST.out.size hk)));replace G:=hJ (G.out.keep ST.out (by decide));clear ST;clear hQ;exact qmi
 case rest=>
  obtain⟨rs,mb,colx,rfl,rfl,BS,KS,CX,GX,HCS,BX⟩:=hcut;rw[HOK.out];clear C BL;go_upto_region 8 with fail;refine E_g 6 (fun w'=>Cq w' p 1 (.slice (some (Pq gm 0)) mem.length cm)∧Cq w' rs 0 (Jq mb.self)∧Cq w' rs 1 (.slice mb.Av mb.vs.length mb.cv)∧Cq w' rs 2 (Jq mb.base)∧Cq w' rs 3 (.slice mb.Al mb.log.length mb.cl)∧Cq w' rs 4 (Jq mb.stable)∧Cq w' rs 5 (Jq mb.sent)∧Cq w' rs 6 (.slice mb.Ap mb.pend.length mb.cp)∧Cq w' rs 7 (.slice mb.Am mb.marks.length mb.cm)∧Cq w' rs 8 (.slice mb.Af mb.fls.length mb.cf)) ⟨(qaE (CX.out.ext zW)).2.1,(BS.out.ext zW).cell 0,(BS.out.ext zW).cell 1,(BS.out.ext zW).cell 2,(BS.out.ext zW).cell 3,(BS.out.ext zW).cell 4,(BS.out.ext zW).cell 5,(BS.out.ext zW).cell 6,(BS.out.ext zW).cell 7,(BS.out.ext zW).cell 8⟩ (fun yH=>?_);have XD:Hid (Ext wc wc.drew):=hJ zW;replace BX:=hJ (BX.out.trans (Kp.ext CX.out.Bsz XD.out));replace GX:=hJ (GX.out.keep (Stp.ext' (B:=B) (cs:=[]) CX.out.Bsz XD.out) (by decide));replace BS:=hJ (BS.out.ext XD.out);replace CX:=hJ (CX.out.ext XD.out);clear XD;generalize wc.drew=u8 at *;refine E_t4 0 68 ?_;refine E_t2 4 72 ?_;refine E_l ?_;obtain⟨k0,k1,k2,k3,k4,k5,k6,k7,k8⟩:u8.cell? (Pq gm (i*9))=some (Jq b.self)∧u8.cell? (Pq gm (i*9+1))=some (.slice b.Av b.vs.length b.cv)∧u8.cell? (Pq gm (i*9+2))=some (Jq b.base)∧u8.cell? (Pq gm (i*9+3))=some (.slice b.Al b.log.length b.cl)∧u8.cell? (Pq gm (i*9+4))=some (Jq b.stable)∧u8.cell? (Pq gm (i*9+5))=some (Jq b.sent)∧u8.cell? (Pq gm (i*9+6))=some (.slice b.Ap b.pend.length b.cp)∧u8.cell? (Pq gm (i*9+7))=some (.slice b.Am b.marks.length b.cm)∧u8.cell? (Pq gm (i*9+8))=some (.slice b.Af b.fls.length b.cf):=⟨qaa CX.out HBM.out 0 rfl,qaa CX.out HBM.out 1 rfl,qaa CX.out HBM.out 2 rfl,qaa CX.out HBM.out 3 rfl,qaa CX.out HBM.out 4 rfl,qaa CX.out HBM.out 5 rfl,qaa CX.out HBM.out 6 rfl,qaa CX.out HBM.out 7 rfl,qaa CX.out HBM.out 8 rfl⟩;have fz:=qhf CX.out hi;go_wp2;go_ret;obtain⟨ws9,st9⟩:=CX.out.put_mem (b:=mb) rfl hi GX.out;have e9:qe7 u8 gm (i*qbY.k) (qbY.f mb)=(((((((((u8.setCell (Pq gm (i*9)) (Jq mb.self)).setCell (Pq gm (i*9+1)) (.slice mb.Av mb.vs.length mb.cv)).setCell (Pq gm (i*9+2)) (Jq mb.base)).setCell (Pq gm (i*9+3)) (.slice mb.Al mb.log.length mb.cl)).setCell (Pq gm (i*9+4)) (Jq mb.stable)).setCell (Pq gm (i*9+5)) (Jq mb.sent)).setCell (Pq gm (i*9+6)) (.slice mb.Ap mb.pend.length mb.cp)).setCell (Pq gm (i*9+7)) (.slice mb.Am mb.marks.length mb.cm)).setCell (Pq gm (i*9+8)) (.slice mb.Af mb.fls.length mb.cf)):=rfl;rw[e9] at ws9 st9;refine⟨_,colx,rfl,ws9,?_,BX.out.trans (st9.kp (by decide))⟩;rw[HW.out,←HCS.out];simp only[WM.wd,qfv,List.map_set]
end Go.Proofs.YtponbabbabnaeaaGreat
