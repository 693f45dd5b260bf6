/- Part 20 of the proof: contracts of functions that the statement reaches. Conditions: as each theorem says. -/
import Derived.Test.YtponbabbabnaeaaGreatQf01
import Derived.Test.YtponbabbabnaeaaGreatQf12
import Derived.Test.YtponbabbabnaeaaGreatQf19
import Derived.Test.YtponbabbabnaeaaGreatQf13
import Derived.Test.YtponbabbabnaeaaGreatQf16
set_option maxRecDepth 100000
set_option maxHeartbeats 40000000
namespace Go.Proofs.YtponbabbabnaeaaGreat
structure Sys(v0:Int)(k:Nat)(w:Wd)(H:qc8)(S:qdT):Prop where
 core:Core w.views w.mem H S
 first:(qbu w.views 0).1=v0
 vk:w.views.length≤1+k
 ml:1≤w.mem.length∧w.mem.length≤5+k
 dl:w.down.length=w.mem.length
 tl:w.told.length=w.mem.length
 sl:w.sent.length=w.mem.length
 told:∀(i:Nat) (s:St),w.mem[i]?=some s→w.told[i]?=some (s.log.take s.stable.toNat)
 sent:∀(i:Nat) (s:St),w.mem[i]?=some s→w.sent[i]?=some (S s.self)
 fly:∀f∈w.fly,(∃s∈w.mem,s.self=f.1)∧f.1≠f.2.1∧f.2.2.length≤1000000∧∃m,qa7 f.2.2=some m∧qcv w.views w.mem H S f.1 m
 flen:w.fly.length≤400
 two:∀o,∀p∈S o,p.length≤2
theorem qfH(k:Nat)(body:List UInt8):(qa3 k body).length≤body.length+30:=by
 unfold qa3;split
 ·next h=>
  unfold qeJ le4;simp only[zA,zK,List.length_nil];have:=qaz (v:=body.length) (by unfold U64;omega);omega
 ·simp
theorem qgE{l:List Ent}(h:∀e∈l,e.p.length≤200):(qbe l).length≤300*l.length+11:=by
 have h1:(l.flatMap qhL).length≤300*l.length:=by
  induction l with
  | nil=>simp
  | cons e l ih=>
   have he:=h e (by simp);have:=ih (fun x hx=>h x (by simp[hx]));rw[List.flatMap_cons,zA,zK];have h2:=qaL [e.v,e.o,e.q];have h3:=qaz (v:=e.p.length) (by unfold U64;omega);have h4:(qhL e).length=(qav [e.v,e.o,e.q]).length+((qa4 e.p.length).length+e.p.length):=by unfold qhL qeH;simp only[zA]
   simp only[zK,List.length_nil] at h2;omega
 have h2:=qaL [(l.length:Int)];unfold qbe;simp only[zA];simp only[zK,List.length_nil] at h2;omega
theorem qmT{s:St}(hv:VS s)(hp:∀e∈(qaM s).s.log,e.p.length≤200)(hl:(qaM s).s.log.length≤2000):∀x∈(qaM s).pk,x.2.length≤1000000:=by
 unfold qaM at hp hl⊢;rw[if_neg (by rw[qb2.2 hv];simp)] at hp hl⊢;unfold qdw at hp hl⊢;cases ho:qan s with
 | true=>
  simp only[ho,if_true] at hp hl⊢;cases hld:qas s with
  | true=>
   simp only[hld,if_true] at hp hl⊢;unfold qfR at hp hl⊢;simp only at hp hl⊢;obtain⟨k1,_,_⟩:=qcj (qad (qam {(⟨s,[],[]⟩:Cs) with s:=qbo s}).s.views).2 (qam {(⟨s,[],[]⟩:Cs) with s:=qbo s});rw[k1] at hp hl;intro x hx;rcases qmo _ _ x hx with h|⟨_,h|⟨m,_,h⟩⟩
   ·rw[(qaK _).2.2.2.2.2.2.1] at h;cases h
   ·rw[h];generalize hc:qam {(⟨s,[],[]⟩:Cs) with s:=qbo s}=c at *;have h1:=qfH 15 (qav [c.s.base]++qbe c.s.log);have h2:=qaL [c.s.base];have h3:=qgE hp;simp only[zA,zK,List.length_nil] at h1 h2;omega
   ·rw[h];generalize hc:qam {(⟨s,[],[]⟩:Cs) with s:=qbo s}=c at *;have hcl:(qcQ c.s.log m.2 (min (m.2+16) c.s.log.length)).length≤c.s.log.length:=by unfold qcQ;simp;omega
    have h1:=qfH 12 (qav [c.s.base,m.2,c.s.stable]++qbe (qcQ c.s.log m.2 (min (m.2+16) c.s.log.length)));have h2:=qaL [c.s.base,m.2,c.s.stable];have h3:=qgE (l:=qcQ c.s.log m.2 (min (m.2+16) c.s.log.length)) (fun e he=>hp e (List.mem_of_mem_take (List.mem_of_mem_drop he)));simp only[zA,zK,List.length_nil] at h1 h2;omega
  | false=>
   simp only[hld,Bool.false_eq_true,if_false] at hp hl⊢;unfold qcV;intro x hx;rcases qkr _ _ x hx with h|⟨j,hj,rfl⟩
   ·simp only[qcm,List.nil_append,zC,zN,or_false] at h;subst h;have h1:=qfH 13 (qav [s.base,(s.log.length:Int)]);have h2:=qaL [s.base,(s.log.length:Int)];simp only[zK,List.length_nil] at h1 h2⊢;omega
   ·have h1:=qfH 11 (qav [s.base,(qar s.log s.self:Int)+1+j]++qeH (qcg s ((qar s.log s.self:Int)+1+j)));have h2:=qaL [s.base,(qar s.log s.self:Int)+1+j];have h3:=qfW hv.pp ((qar s.log s.self:Int)+1+j);have h4:=qaz (v:=(qcg s ((qar s.log s.self:Int)+1+j)).length) (by unfold U64;omega);unfold qeH at h1;simp only[zA,zK,List.length_nil] at h1 h2;refine zL h1 ?_;omega
 | false=>
  simp only[ho,Bool.false_eq_true,if_false] at hp hl⊢;cases hld:qas s with
  | true=>simp only[if_true];intro x hx;cases hx
  | false=>
   simp only[hld,Bool.false_eq_true,if_false] at hp hl⊢;intro x hx;simp only[qcm,List.nil_append,zC,zN,or_false] at hx;subst hx;have hlast:=qaV hv.last;have hb:s.base≤tgt s:=hv.base_le;have hb2 : -1≤s.base:=by
    rcases hv.known with hk|⟨v,hk,_⟩
    ·omega
    ·have:=(qb4 hv.vs (qbb hk).1).2.2.2.1;have:=(qbb hk).2;omega
   have h0:=qlT (qad s.views).1 s.base (by unfold I64;unfold tgt at hb;omega);have h1:=qfH 14 (qav [(qad s.views).1]++qa4 (zig s.base)++qbe s.log);have h3:=qgE (l:=s.log) hp;have hl':s.log.length≤2000:=hl;simp only[zA] at h0 h1⊢;omega
theorem Core.short{vs:List Vw}{mem:List St}{H:qc8}{S:qdT}(c:Core vs mem H S)(h2:∀o,∀p∈S o,p.length≤2){p b:Int}{e:Ent}(he:e∈H p b):e.p.length≤200:=by
 rcases c.good p b e he with ⟨_,x,_,h⟩|⟨_,⟨_,h⟩,_⟩
 ·rw[h];exact qe9 x.1 x.2
 ·have:=h2 _ _ (zX h);omega
theorem qg0(s:St):(qaD s).self=s.self:=by
 unfold qaD;split
 ·rfl
 ·split
  ·rfl
  ·split<;>rfl
theorem qhM{s:St}(hv:VS s):(qaM s).s.self=s.self:=by
 unfold qaM;rw[if_neg (by rw[qb2.2 hv];simp)];unfold qdw;split
 ·split
  ·unfold qfR;simp only;rw[(qcj _ _).1,(qaK _).2.2.2.2.1];rfl
  ·unfold qcV;rw[(qew _ _).1];rfl
 ·split
  ·simp only;rw[qg0];split<;>rfl
  ·rfl
theorem qld(s:St)(fr:Int)(m:Msg):(qao ⟨s,[],[]⟩ fr m).s.self=s.self:=by
 unfold qao;split
 ·unfold qa5;split<;>rfl
 ·split
  ·unfold qaS;split
   ·rfl
   ·split
    ·rfl
    ·split
     ·rfl
     ·split
      ·rfl
      ·exact(qdj _ _).2.2.2.2.1
  ·split
   ·unfold qco;split
    ·rfl
    ·exact(qaK _).2.2.2.2.1
   ·split
    ·split
     ·exact qg0 _
     ·rfl
    ·split
     ·unfold qbp;split<;>rfl
     ·rfl
section
variable {v0:Int} {k:Nat} {w w':Wd} {H H':qc8} {S S':qdT}
theorem Sys.more_k(h:Sys v0 k w H S):Sys v0 (k+1) w H S:=⟨h.core,h.first,by have:=h.vk;omega,by have:=h.ml;omega,h.dl,h.tl,h.sl,h.told,h.sent,h.fly,h.flen,h.two⟩
theorem Sys.upd(h:Sys v0 k w H S){i:Nat}{s s':St}(hi:w.mem[i]?=some s)(c':Core w.views (w.mem.set i s') H' S')(ah:∀a m,qcv w.views w.mem H S a m→qcv w.views (w.mem.set i s') H' S' a m)(hself:s'.self=s.self)
  (e1:w'.views=w.views) (e2:w'.mem=w.mem.set i s') (e3:w'.down=w.down) (e4:w'.told=w.told.set i (s'.log.take s'.stable.toNat)) (e5:w'.sent.length=w.sent.length∧∀(j:Nat) (t:St),w.mem[j]?=some t→w'.sent[j]?=some (S' t.self))
  (e6:∀f∈w'.fly,f∈w.fly∨(f.1=s.self∧f.1≠f.2.1∧f.2.2.length≤1000000∧∃m,qa7 f.2.2=some m∧qcv w.views (w.mem.set i s') H' S' f.1 m)) (e7:w'.fly.length≤400) (e8:∀o,∀p∈S' o,p.length≤2):Sys v0 k w' H' S':=by
 have hl:=(zZ hi).1;have hmem:∀p,(∃s∈w.mem,s.self=p)→∃s∈w.mem.set i s',s.self=p:=fun p ⟨t,ht,he⟩=>by
  rcases qdv (s':=s') hi ht with rfl|h
  ·exact⟨s',List.mem_set hl _,hself.trans he⟩
  ·exact⟨t,h,he⟩
 refine⟨by rw[e1,e2];exact c',by rw[e1];exact h.first,by rw[e1];exact h.vk,by rw[e2,List.length_set];exact h.ml,by rw[e2,e3,List.length_set];exact h.dl,by rw[e2,e4,List.length_set,List.length_set];exact h.tl,by rw[e2,e5.1,List.length_set];exact h.sl,fun j t hj=>?_,fun j t hj=>?_,fun f hf=>?_,e7,e8⟩
 ·rw[e2] at hj;rw[e4];by_cases hij:i=j
  ·subst hij;rw[List.getElem?_set_self hl] at hj;rw[List.getElem?_set_self (by rw[h.tl];exact hl)];cases hj;rfl
  ·rw[List.getElem?_set_ne hij] at hj⊢;exact h.told j t hj
 ·rw[e2] at hj;by_cases hij:i=j
  ·subst hij;rw[List.getElem?_set_self hl] at hj;cases hj;rw[hself];exact e5.2 i s hi
  ·rw[List.getElem?_set_ne hij] at hj;exact e5.2 j t hj
 ·rw[e1,e2];rcases e6 f hf with h1|⟨h1,h2,h3,h4⟩
  ·obtain⟨f1,f2,f3,m,f4,f5⟩:=h.fly f h1;exact⟨hmem _ f1,f2,f3,m,f4,ah _ _ f5⟩
  ·exact⟨hmem _ ⟨s,zX hi,h1.symm⟩,h2,h3,h4⟩
theorem qcz{w:Wd}{i:Nat}{s:St}(h:w.mem[i]?=some s):qeo w i=s:=by unfold qeo;rw[h];rfl
theorem qfc{α:Type}{l:List α}{i:Nat}{a:α}(h:l[i]?=some a):l.set i a=l:=by
 obtain⟨hl,hs⟩:=zZ h;rw[←hs];exact List.set_getElem_self _
theorem qqR{a:Int}{n:Nat}{p:List (Int×List UInt8)}{f:Fly}(h:f∈qm3 a n p):∃x∈p,f=(a,x.1,x.2):=by
 unfold qm3 at h;obtain⟨x,hx,rfl⟩:=List.mem_map.1 h;exact⟨x,List.mem_of_mem_take hx,rfl⟩
theorem qrv(a:Int)(n:Nat)(p:List (Int×List UInt8))(hn:n≤400):n+(qm3 a n p).length≤400:=by
 unfold qm3;simp only[zP,zT];omega
theorem Sys.tick(h:Sys v0 k w H S){a:Nat}(ha:a<w.mem.length):∃H' S',Sys v0 k (qnr w a) H' S':=by
 have hi:=zY ha;have hVS:=(h.core.here hi).2.1;obtain⟨H',c',ah,hpk⟩:=h.core.tick hi;have g:=qhO hVS;have hself:(qaM w.mem[a]).s.self=(w.mem[a]).self:=qhM hVS;have hin:(qaM w.mem[a]).s∈w.mem.set a (qaM w.mem[a]).s:=List.mem_set ha _;have hshort:∀x∈(qaM w.mem[a]).pk,x.2.length≤1000000:=qmT hVS (fun e he=>c'.short h.two (p:=(qaM w.mem[a]).s.self) (b:=(qaM w.mem[a]).s.base) (by rw[(c'.cur _ hin).1];exact he)) (c'.logE hin).1;unfold qnr;simp only;rw[qcz hi];refine⟨H',S,h.upd hi c' ah hself rfl rfl rfl ?_ ⟨rfl,fun j t hj=>h.sent j t hj⟩ (fun f hf=>?_) ?_ h.two⟩
 ·show w.told.set a ((w.told[a]?).getD []++_)=_;rw[h.told a _ hi,g.told];rfl
 ·have hsl:(qeo (qfv w a (qaM w.mem[a]).s) a).self=(w.mem[a]).self:=by
   unfold qeo qfv;simp only;rw[List.getElem?_set_self ha];exact hself
  rcases List.mem_append.1 hf with hf|hf
  ·exact .inl hf
  ·obtain⟨x,hx,rfl⟩:=qqR hf;obtain⟨x1,m,x2,x3⟩:=hpk x hx;refine .inr ⟨hsl,?_,hshort x hx,m,x2,?_⟩
   ·show (qeo (qfv w a (qaM w.mem[a]).s) a).self≠x.1;rw[hsl];exact fun e=>x1 e.symm
   ·show qcv _ _ _ _ (qeo (qfv w a (qaM w.mem[a]).s) a).self m;rw[hsl];exact x3
 ·show (w.fly++qm3 _ w.fly.length _).length≤400;rw[zA];exact qrv _ _ _ h.flen
theorem Sys.hand(h:Sys v0 k w H S){f:Fly}(hf:f∈w.fly):(qbm w f).2=true∧(∃H' S',Sys v0 k (qbm w f).1 H' S')∧(qbm w f).1.fly=w.fly:=by
 unfold qbm;simp only;split
 ·exact⟨rfl,⟨H,S,h⟩,rfl⟩
 ·next hc=>
  rcases qey f.2.1 w.mem 0 with ⟨h1,_⟩|⟨i,s,h1,hi,hself⟩
  ·exact absurd (.inl (by unfold qfw;rw[h1];decide)) hc
  ·have ht:(qfw w f.2.1).toNat=i:=by unfold qfw;rw[h1];omega
   rw[ht,qcz hi];obtain⟨⟨t,ht1,ht2⟩,f2,_,m,f4,f5⟩:=h.fly f hf;have hid:qcl f.1=true:=by rw[←ht2];exact(h.core.ok t ht1).1.self
   obtain⟨r1,⟨H',c',ah⟩,r3⟩:=h.core.receive hi hid (by rw[hself];exact f2) f4 f5;have hVS:=(h.core.here hi).2.1;have g:Good s (qak s f.1 f.2.2).1:=by
    rcases qfl hVS f.1 f.2.2 with hx|hx
    ·exact absurd r1 hx.1
    ·exact hx.2
   have hl:=(zZ hi).1;rw[if_neg (by rw[r1];simp)];have hsl:(qak s f.1 f.2.2).1.s.self=s.self:=by
    have hm:=(c'.ids);have he:qak s f.1 f.2.2=(if m.num=(qad s.views).1 then qao ⟨s,[],[]⟩ f.1 m else ⟨s,[],[]⟩,0):=by
     unfold qak;rw[if_neg (by rw[qb2.2 hVS,hid];simp;rw[hself];exact f2),f4]
    rw[he];simp only;split
    ·exact qld s f.1 m
    ·rfl
   have hfl:(qg9 (qfv w i (qak s f.1 f.2.2).1.s) i (qak s f.1 f.2.2).1.pk (qak s f.1 f.2.2).1.dl).fly=w.fly:=by
    show w.fly++qm3 _ _ (qak s f.1 f.2.2).1.pk=w.fly;rw[r3];simp[qm3]
   refine⟨rfl,⟨H',S,h.upd hi c' ah hsl rfl rfl rfl ?_ ⟨rfl,fun j t hj=>h.sent j t hj⟩ (fun f' hf'=>.inl (by rw[hfl] at hf';exact hf')) (by rw[hfl];exact h.flen) h.two⟩,hfl⟩;show w.told.set i ((w.told[i]?).getD []++_)=_;rw[h.told i _ hi,g.told];rfl
theorem Sys.learn(h:Sys v0 k w H S){a:Nat}(ha:a<w.mem.length):(qbZ w a).2=true∧∃H' S',Sys v0 k (qbZ w a).1 H' S':=by
 have hi:=zY ha;obtain⟨hsm,hVS,hpre,_⟩:=h.core.here hi;have hn:=(qa8 hVS.vs).1;have hat:qe0 w a=(w.mem[a]).views.length:=by
  unfold qe0;rw[qcz hi,qdn hpre hn];omega
 unfold qbZ;rw[hat,qcz hi];split
 ·exact⟨rfl,H,S,h⟩
 ·next hlt=>
  simp only;have hv:(w.mem[a]).views++[qbu w.views (w.mem[a]).views.length]<+:w.views:=by
   obtain⟨r,hr⟩:=hpre;rw[←hr] at hlt⊢;rcases r with _|⟨x,r⟩
   ·simp at hlt
   ·have:qbu ((w.mem[a]).views++x::r) (w.mem[a]).views.length=x:=by unfold qbu;simp
    rw[this];exact⟨r,by simp⟩
  obtain⟨q1,⟨H',c',ah⟩,q3,q4,q5⟩:=h.core.learn hi hv;rw[Int.toNat_natCast,if_neg (by rw[q1];simp)];refine⟨rfl,H',S,h.upd hi c' ah q3 rfl rfl rfl ?_ ⟨rfl,fun j t hj=>h.sent j t hj⟩ (fun f hf=>.inl hf) h.flen h.two⟩;show w.told=_;rw[q4,q5,qfc (h.told a _ hi)]
theorem Sys.viewed(h:Sys v0 k w H S)(hk:k<1900)(m:Mv):(qi7 w m).2=true∧∃H' S',Sys v0 (k+1) (qi7 w m).1 H' S':=by
 unfold qi7;simp only;split
 ·exact⟨rfl,H,S,h.more_k⟩
 ·next hok=>
  obtain⟨n,ys,er⟩:∃n ys er,qb9 (qad w.views).1 (qad w.views).2 (qlu w m)=(n,ys,er):=⟨_,_,_,rfl⟩;obtain⟨⟨n,ys,er⟩,hv⟩:∃d,qb9 (qad w.views).1 (qad w.views).2 (qlu w m)=d:=⟨_,rfl⟩;rw[hv] at hok⊢;simp only[ne_eq,Decidable.not_not] at hok;subst hok;have hlen:=h.vk;have hnew:qaw (w.views++[(n,ys)])=true:=qg3 h.core.vld (by omega) (qhQ hv);obtain⟨c1,a1⟩:=h.core.more hnew;have hfirst:(qbu (w.views++[(n,ys)]) 0).1=v0:=by
   rw[qdn (List.prefix_append _ _) (qa8 h.core.vld).1];exact h.first
  have hvk:(w.views++[(n,ys)]).length≤1+(k+1):=by simp;omega
  simp only;split
  ·next hj=>
   simp only[zB,zE] at hj;have hjo:qlb (w.views++[(n,ys)]) (qdr m)=(⟨qdr m,w.views++[(n,ys)],-1,[],0,0,[],[],[]⟩,0):=by
    unfold qlb;rw[hnew,qgK,hj.1];rfl
   rw[hjo];have hfresh:∀s∈w.mem,s.self≠qdr m:=by
    rcases qey (qdr m) w.mem 0 with ⟨_,h2⟩|⟨i,s,h1,_,_⟩
    ·exact h2
    ·have:=hj.2;unfold qfw at this;rw[h1] at this;omega
   have hid:qcl (qdr m)=true:=by unfold qcl qdr;simp;omega
   obtain⟨c2,a2⟩:=c1.join hid hfresh;refine⟨by simp,H,S,c2,hfirst,hvk,?_,?_,?_,?_,fun i s hi=>?_,fun i s hi=>?_,fun f hf=>?_,h.flen,h.two⟩
   ·have:=h.ml;show 1≤(w.mem++[_]).length∧(w.mem++[_]).length≤5+(k+1);simp only[zA,zK,List.length_nil];omega
   ·show (w.down++[false]).length=(w.mem++[_]).length;simp only[zA,zK,List.length_nil,h.dl]
   ·show (w.told++[[]]).length=(w.mem++[_]).length;simp only[zA,zK,List.length_nil,h.tl]
   ·show (w.sent++[[]]).length=(w.mem++[_]).length;simp only[zA,zK,List.length_nil,h.sl]
   ·show (w.told++[[]])[i]?=_;have hi':(w.mem++[(⟨qdr m,w.views++[(n,ys)],-1,[],0,0,[],[],[]⟩:St)])[i]?=some s:=hi;rw[List.getElem?_append] at hi'⊢;rw[h.tl];split at hi'
    ·next hlt=>rw[if_pos hlt];exact h.told i s hi'
    ·next hlt=>
     rw[if_neg hlt];have:i - w.mem.length=0:=by have:=(zZ hi').1;simp at this;omega
     rw[this] at hi'⊢;simp only[List.getElem?_cons_zero,zJ] at hi'⊢;rw[←hi'];simp
   ·show (w.sent++[[]])[i]?=_;have hi':(w.mem++[(⟨qdr m,w.views++[(n,ys)],-1,[],0,0,[],[],[]⟩:St)])[i]?=some s:=hi;rw[List.getElem?_append] at hi'⊢;rw[h.sl];split at hi'
    ·next hlt=>rw[if_pos hlt];exact h.sent i s hi'
    ·next hlt=>
     rw[if_neg hlt];have:i - w.mem.length=0:=by have:=(zZ hi').1;simp at this;omega
     rw[this] at hi'⊢;simp only[List.getElem?_cons_zero,zJ] at hi'⊢;rw[←hi'];exact(h.core.out (qdr m) hfresh).2.symm
   ·obtain⟨⟨t,t1,t2⟩,f2,f3,mm,f4,f5⟩:=h.fly f hf;exact⟨⟨t,List.mem_append.2 (.inl t1),t2⟩,f2,f3,mm,f4,a2 _ _ (a1 _ _ f5)⟩
  ·refine⟨rfl,H,S,c1,hfirst,hvk,by have:=h.ml;simp only;omega,h.dl,h.tl,h.sl,h.told,h.sent,fun f hf=>?_,h.flen,h.two⟩;obtain⟨f1,f2,f3,mm,f4,f5⟩:=h.fly f hf;exact⟨f1,f2,f3,mm,f4,a1 _ _ f5⟩
theorem ql0{v:Vw}(hv:qap v.1 v.2=true):qc1 v=⟨[v],v.2.map (qg7 v),v.2.map (fun _=>false),v.2.map (fun _=>[]),v.2.map (fun _=>[]),[]⟩:=by
 have go:∀(l:List Int),(∀p∈l,qbN v.2 p=true)→∀w:Wd,l.foldl (fun w m=>qq4 w (qbl v m).1) w=⟨w.views,w.mem++l.map (qg7 v),w.down++l.map (fun _=>false),w.told++l.map (fun _=>[]),w.sent++l.map (fun _=>[]),w.fly⟩:=by
  intro l;induction l with
  | nil=>intro _ w;simp
  | cons p l ih=>
   intro hl w;rw[List.foldl_cons,ih (fun q hq=>hl q (by simp[hq]))];have:(qbl v p).1=qg7 v p:=by
    unfold qbl;rw[hv,hl p (by simp)];rfl
   rw[this];simp[qq4]
 unfold qc1;rw[go v.2 (fun p hp=>qbq.2 hp)];simp
theorem Sys.begin{v:Vw}(hv:qap v.1 v.2=true)(h5:v.2.length≤5):Sys v.1 0 (qc1 v) (qiv v) (fun _=>[]):=by
 have hl:=(qaU hv).1;rw[ql0 hv];refine⟨Core.begin hv,rfl,by simp,by simp only[zP];omega,by simp,by simp,by simp,fun i s hi=>?_,fun i s hi=>?_,(fun f hf=>by cases hf),by simp,(fun o p hp=>by cases hp)⟩
 ·rw[zM] at hi⊢;obtain⟨p,hp,rfl⟩:=Option.map_eq_some_iff.1 hi;rw[hp];simp[qg7]
 ·rw[zM] at hi⊢;obtain⟨p,hp,rfl⟩:=Option.map_eq_some_iff.1 hi;rw[hp];rfl
end
section
variable {v0:Int} {k:Nat} {w:Wd} {H:qc8} {S:qdT}
theorem Sys.told_of(h:Sys v0 k w H S){i:Nat}{t:List Ent}(ht:w.told[i]?=some t):∃s,w.mem[i]?=some s∧t=s.log.take s.stable.toNat:=by
 have hi:i<w.mem.length:=by have:=(zZ ht).1;rwa [h.tl] at this
 have hs:=zY hi;have:=h.told i _ hs;rw[ht] at this;exact⟨_,hs,Option.some.inj this⟩
theorem Sys.order(h:Sys v0 k w H S){i j:Nat}{t u:List Ent}(ht:w.told[i]?=some t)(hu:w.told[j]?=some u)(hle:t.length≤u.length):t<+:u:=by
 obtain⟨s,h1,rfl⟩:=h.told_of ht;obtain⟨r,h2,rfl⟩:=h.told_of hu;rcases h.core.stab_le (h.core.stab s (zX h1)) (h.core.stab r (zX h2)) with h3|h3
 ·exact h3
 ·have:=h3.length_le;rw[h3.eq_of_length (by omega)];exact List.prefix_rfl
end
theorem qth{x:Int×Int}{l:List (Int×Int)}{fr n:Int}(h:x.1<fr):qfi (x::l) fr n=x::qfi l fr n:=by
 have hs:qdF (x::l) fr=qdF l fr+1:=by unfold qdF;rw[List.takeWhile_cons,if_pos (by simpa using h)];rfl
 unfold qfi;rw[hs,List.getElem?_cons_succ];cases hx:l[qdF l fr]? with
 | none=>rfl
 | some y=>
  obtain⟨a,b⟩:=y;simp only;by_cases e:a=fr
  ·rw[if_pos e,if_pos e];rfl
  ·rw[if_neg e,if_neg e];rfl
theorem qs2{x:Int×Int}{l:List (Int×Int)}{fr n:Int}(h:¬x.1<fr):qfi (x::l) fr n=if x.1=fr then (x.1,max x.2 n)::l else (fr,max 0 n)::x::l:=by
 have hs:qdF (x::l) fr=0:=by unfold qdF;rw[List.takeWhile_cons,if_neg (by simpa using h)];rfl
 unfold qfi;rw[hs];obtain⟨a,b⟩:=x;rfl
theorem qbn(x:Int×Int)(l:List (Int×Int))(q:Int):qb0 (x::l) q=if x.1=q then some x.2 else qb0 l q:=by
 unfold qb0;rw[List.find?_cons];by_cases h:x.1=q
 ·simp[h]
 ·have:(x.1 == q)=false:=by simpa using h
  rw[this,if_neg h]
theorem qlM{l:List (Int×Int)}{q:Int}(h:∀x∈l,x.1≠q):qb0 l q=none:=by
 unfold qb0;rw[List.find?_eq_none.2 (fun x hx=>by simpa using h x hx)];rfl
theorem qhF{l:List (Int×Int)}{q a:Int}(h:qb0 l q=some a):(q,a)∈l:=by
 unfold qb0 at h;cases hx:l.find? (fun x=>x.1 == q) with
 | none=>rw[hx] at h;cases h
 | some y=>
  rw[hx] at h;have h1:=List.mem_of_find?_eq_some hx;have h2:=List.find?_some hx;simp only[Option.map_some,zJ] at h;simp only[beq_iff_eq] at h2;rw[←h2,←h];exact h1
theorem qjk{fr n:Int}:∀{l:List (Int×Int)},(l.map Prod.fst).Pairwise (·<·)→(∃n',qb0 (qfi l fr n) fr=some n'∧n≤n'∧∀a,qb0 l fr=some a→a≤n')∧∀q,q≠fr→qb0 (qfi l fr n) q=qb0 l q
 | [],_=>by
  refine⟨⟨max 0 n,?_,by omega,fun a ha=>by cases ha⟩,fun q hq=>?_⟩
  ·show qb0 [(fr,max 0 n)] fr=_;rw[qbn,if_pos rfl]
  ·show qb0 [(fr,max 0 n)] q=_;rw[qbn,if_neg (fun e=>hq e.symm)]
 | x::l,hs=>by
  rw[List.map_cons,List.pairwise_cons] at hs;obtain⟨h1,h2⟩:=hs;by_cases hlt:x.1<fr
  ·obtain⟨⟨n',i1,i2,i3⟩,i4⟩:=qjk (fr:=fr) (n:=n) h2;rw[qth hlt];refine⟨⟨n',by rw[qbn,if_neg (by omega)];exact i1,i2,fun a ha=>i3 a (by rw[qbn,if_neg (by omega)] at ha;exact ha)⟩,fun q hq=>?_⟩;rw[qbn,qbn,i4 q hq]
  ·rw[qs2 hlt];by_cases he:x.1=fr
   ·rw[if_pos he];refine⟨⟨max x.2 n,by rw[qbn,if_pos he],by omega,fun a ha=>?_⟩,fun q hq=>?_⟩
    ·rw[qbn,if_pos he] at ha;cases ha;omega
    ·rw[qbn,qbn,if_neg (by rw[he];exact fun e=>hq e.symm),if_neg (by rw[he];exact fun e=>hq e.symm)]
   ·rw[if_neg he];refine⟨⟨max 0 n,by rw[qbn,if_pos rfl],by omega,fun a ha=>?_⟩,fun q hq=>by rw[qbn,if_neg (fun e=>hq e.symm)]⟩;exfalso;rw[qlM (fun y hy=>?_)] at ha
    ·cases ha
    ·rcases zC.1 hy with rfl|hy
     ·exact he
     ·have:=h1 y.1 (List.mem_map_of_mem hy);omega
theorem ql3{l:List Fls}{f:Fls}{q:Int}(h:q=f.1∨q∈l.map Prod.fst):q∈(putF l f).map Prod.fst:=by
 unfold putF;split
 ·next hc=>
  cases hx:l[qf5 l f.1]? with
  | none=>rw[hx] at hc;cases hc
  | some g=>
   rw[hx] at hc;simp only[Option.map_some,zJ] at hc;have he:(l.set (qf5 l f.1) f).map Prod.fst=l.map Prod.fst:=by
    rw[List.map_set];exact qfc (by rw[zM,hx,Option.map_some,hc])
   rw[he];rcases h with rfl|h
   ·exact List.mem_map.2 ⟨g,zX hx,hc⟩
   ·exact h
 ·rw[List.map_append,List.map_cons];rcases h with rfl|h
  ·simp
  ·obtain⟨g,hg,rfl⟩:=List.mem_map.1 h;rw[←List.take_append_drop (qf5 l f.1) l] at hg;rcases List.mem_append.1 hg with hg|hg
   ·exact List.mem_append.2 (.inl (List.mem_map_of_mem hg))
   ·exact List.mem_append.2 (.inr (List.mem_cons_of_mem _ (List.mem_map_of_mem hg)))
structure Up(s s':St):Prop where
 self:s'.self=s.self
 views:s'.views=s.views
 sent:s'.sent=s.sent
 st:s.stable≤s'.stable
 op:qan s=true→qan s'=true∧s'.base=s.base∧s.log<+:s'.log∧∀q a,qb0 s.marks q=some a→∃a',qb0 s'.marks q=some a'∧a≤a'
 cl:qan s'=false→qan s=false∧s'.base=s.base∧s'.log=s.log∧s'.stable=s.stable∧∀q,q∈s.fls.map Prod.fst→q∈s'.fls.map Prod.fst
theorem Up.refl(s:St):Up s s:=⟨rfl,rfl,rfl,Int.le_refl _,fun h=>⟨h,rfl,List.prefix_rfl,fun _ a h=>⟨a,h,Int.le_refl _⟩⟩,fun h=>⟨h,rfl,rfl,rfl,fun _ h=>h⟩⟩
theorem Up.raise{s:St}(pk:List (Int×List UInt8))(dl:List Ent)(n:Int)(ho:qan s=true):Up s (raiseF ⟨s,pk,dl⟩ n).s:=by
 obtain⟨k1,k2,k3,k4,k5,k6,k7,k8⟩:=qdj ⟨s,pk,dl⟩ n;have ho':qan (raiseF ⟨s,pk,dl⟩ n).s=true:=by unfold qan at ho⊢;rw[k3,k4];exact ho
 refine⟨k5,k3,k8,?_,fun _=>⟨ho',k4,by rw[k1];exact List.prefix_rfl,fun q a h=>⟨a,by rw[k2];exact h,Int.le_refl _⟩⟩,fun h=>by rw[ho'] at h;cases h⟩;unfold raiseF;split
 ·exact Int.le_refl _
 ·next h=>simp only at h⊢;omega
theorem Up.announce{s:St}(pk:List (Int×List UInt8))(dl:List Ent)(ho:qan s=true):Up s (qam ⟨s,pk,dl⟩).s:=by
 unfold qam;split
 ·exact Up.refl s
 ·exact Up.raise pk dl _ ho
theorem Up.logs{s:St}(ho:qan s=true)(ex:List Ent):Up s {s with log:=s.log++ex}:=
 ⟨rfl,rfl,rfl,Int.le_refl _,fun _=>⟨ho,rfl,List.prefix_append _ _,fun _ a h=>⟨a,h,Int.le_refl _⟩⟩,fun h=>by rw[show qan {s with log:=s.log++ex}=qan s from rfl,ho] at h;cases h⟩
theorem Up.trans{s t u:St}(h:Up s t)(g:Up t u):Up s u:=by
 refine⟨g.self.trans h.self,g.views.trans h.views,g.sent.trans h.sent,Int.le_trans h.st g.st,fun ho=>?_,fun hc=>?_⟩
 ·obtain⟨h1,h2,h3,h4⟩:=h.op ho;obtain⟨g1,g2,g3,g4⟩:=g.op h1;refine⟨g1,g2.trans h2,h3.trans g3,fun q a ha=>?_⟩;obtain⟨a',ha',hl⟩:=h4 q a ha;obtain⟨a2,ha2,hl2⟩:=g4 q a' ha';exact⟨a2,ha2,Int.le_trans hl hl2⟩
 ·obtain⟨g1,g2,g3,g4,g5⟩:=g.cl hc;obtain⟨h1,h2,h3,h4,h5⟩:=h.cl g1;exact⟨h1,g2.trans h2,g3.trans h3,g4.trans h4,fun q hq=>g5 q (h5 q hq)⟩
theorem Up.install{s:St}(ho:qan s=false):Up s (qaD s):=by
 unfold qaD;split
 ·exact Up.refl s
 ·split
  ·exact Up.refl s
  ·split
   ·exact Up.refl s
   ·refine⟨rfl,rfl,rfl,Int.le_refl _,fun h=>(by rw[ho] at h;cases h),fun h=>?_⟩;exfalso;unfold qan at h;simp at h
theorem Up.put{s:St}(ho:qan s=false)(f:Fls):Up s {s with fls:=putF s.fls f}:=
 ⟨rfl,rfl,rfl,Int.le_refl _,fun h=>(by rw[ho] at h;cases h),fun h=>⟨ho,rfl,rfl,rfl,fun q hq=>ql3 (.inr hq)⟩⟩
theorem Up.handle{s:St}(hv:VS s)(fr:Int)(m:Msg)(hn:m.num=(qad s.views).1):Up s (qao ⟨s,[],[]⟩ fr m).s:=by
 unfold qao;simp only;split
 ·next hc=>
  unfold qa5;split
  ·exact Up.logs hc.2.1 _
  ·exact Up.refl s
 ·split
  ·next hc=>
   have ho:=hc.2.1;unfold qaS;split
   ·exact Up.refl s
   ·split
    ·exact Up.refl s
    ·split
     ·exact Up.refl s
     ·split
      ·exact Up.refl s
      ·exact(Up.logs ho _).trans (Up.raise [] [] _ (by exact ho))
  ·split
   ·next hc=>
    have ho:=hc.2.1;unfold qco;split
    ·exact Up.refl s
    ·refine Up.trans ?_ (Up.announce [] [] (s:={s with marks:=qfi s.marks fr m.first}) (by exact ho));refine⟨rfl,rfl,rfl,Int.le_refl _,fun _=>⟨ho,rfl,List.prefix_rfl,fun q a ha=>?_⟩,fun h=>by rw[show qan {s with marks:=qfi s.marks fr m.first}=qan s from rfl,ho] at h;cases h⟩;obtain⟨⟨n',i1,i2,i3⟩,i4⟩:=qjk (fr:=fr) (n:=m.first) hv.mka.1;by_cases hq:q=fr
     ·subst hq;exact⟨n',i1,i3 a ha⟩
     ·exact⟨a,by rw[show ({s with marks:=qfi s.marks fr m.first}:St).marks=qfi s.marks fr m.first from rfl,i4 q hq];exact ha,Int.le_refl _⟩
   ·split
    ·next hc=>
     split
     ·exact(Up.put hc.2.1 _).trans (Up.install (by exact hc.2.1))
     ·exact Up.refl s
    ·split
     ·next hc=>
      unfold qbp;split
      ·refine⟨rfl,rfl,rfl,Int.le_refl _,fun h=>(by rw[hc.2.1] at h;cases h),fun h=>?_⟩;exfalso;unfold qan at h;simp only[decide_eq_false_iff_not] at h;exact h hn
      ·exact Up.refl s
     ·exact Up.refl s
theorem qpu{l L:List Ent}{i:Nat}{e:Ent}(hp:l<+:L)(hi:i<l.length):qcP l i e=qcP L i e:=by
 have h1:l.take i=L.take i:=by obtain⟨r,rfl⟩:=hp;rw[List.take_append_of_le_length (by omega)]
 have h2:qev l i=qev L i:=by unfold qev;obtain⟨r,rfl⟩:=hp;rw[List.getElem?_append_left (by omega)]
 unfold qcP;rw[h1,h2]
theorem qmI{l L:List Ent}(h:qax L=true)(hp:l<+:L):qax l=true:=by
 obtain⟨h1,h2⟩:=qc6 h;have hl:=hp.length_le;refine qma (by omega) fun i hi=>?_;have h3:=h2 i (by omega);have e1:L[i]?=l[i]?:=by obtain⟨r,rfl⟩:=hp;rw[List.getElem?_append_left hi]
 unfold qhG at *;rw[e1,zY hi] at h3;rw[zY hi];simp only at h3⊢;rw[qpu hp hi];exact h3
theorem qd7{l:List Ent}{b:Int}(h:qaY l b=true)(hb:b≠-1):0<l.length∧qax l=true∧qca l=b:=by
 unfold qaY at h;rw[if_neg hb] at h;simpa using h
theorem qvg{l L:List Ent}{b:Int}(hp:l<+:L)(h1:qaY l b=true)(h2:qaY L b=true)(hb:b≠-1):∀e∈L.drop l.length,e.v=b∧e.o≠0:=by
 intro e he;obtain⟨a1,a2,a3⟩:=qd7 h1 hb;obtain⟨b1,b2,b3⟩:=qd7 h2 hb;obtain⟨j,hj⟩:=List.mem_iff_getElem?.1 he;rw[List.getElem?_drop] at hj;obtain⟨hjl,hje⟩:=zZ hj;have hv:e.v=b:=by
  have h3:=qjH h2 (zX hj);obtain⟨k,hk⟩:∃k,l.length=k+1:=⟨l.length - 1,by omega⟩;have h4:=qfL hk (zY (by omega:k<l.length));have h5:=qid b2 (l.length+j) k hjl (by omega);have h6:L[k]=l[k]:=by obtain⟨r,rfl⟩:=hp;rw[List.getElem_append_left]
  rw[h6,hje] at h5;omega
 have hpv:qev L (l.length+j)=b:=by
  unfold qev;have hlt:l.length+j - 1<L.length:=by omega
  rw[zY hlt];simp only;have h3:=qjH h2 (List.getElem_mem hlt);obtain⟨k,hk⟩:∃k,l.length=k+1:=⟨l.length - 1,by omega⟩;have h4:=qfL hk (zY (by omega:k<l.length));have h5:=qid b2 (l.length+j - 1) k hlt (by omega);have h6:L[k]=l[k]:=by obtain⟨r,rfl⟩:=hp;rw[List.getElem_append_left]
  rw[h6] at h5;omega
 have hok:=(qc6 b2).2 _ hjl;rw[qcK hj] at hok;unfold qcP at hok;rw[if_neg (by rw[hpv];omega)] at hok;simp only[zB] at hok;exact⟨hv,own_ne hok.1⟩
theorem qmp{α:Type}{P:List α→Prop}(h0:P [])(h1:∀l a,P l→P (l++[a]))(l:List α):P l:=by
 rw[←List.reverse_reverse l];induction l.reverse with
 | nil=>exact h0
 | cons a l ih=>rw[List.reverse_cons];exact h1 _ _ ih
theorem qqV{l:List Ent}{o:Int}:0<qar l o→∃j e,l[j]?=some e∧e.o=o∧qar (l.take j) o+1=qar l o:=by
 refine qmp (P:=fun l=>0<qar l o→∃j e,l[j]?=some e∧e.o=o∧qar (l.take j) o+1=qar l o) (fun h=>by simp[qar] at h) (fun l a ih h=>?_) l
 ·by_cases he:a.o=o
  ·exact⟨l.length,a,by simp,he,by rw[List.take_left',qmk he];rfl⟩
  ·have h1:qar (l++[a]) o=qar l o:=by rw[qbI];unfold qar;simp[he]
   rw[h1] at h;obtain⟨j,e,j1,j2,j3⟩:=ih h;have hj:=(zZ j1).1;exact⟨j,e,by rw[List.getElem?_append_left hj];exact j1,j2,by rw[List.take_append_of_le_length (by omega),j3,h1]⟩
theorem qqN{l:List Ent}{v0:Int}:qax l=true→(∀e∈l,v0≤e.v)→l≠[]→(qar l 0:Int)≤qca l - v0+1:=by
 refine qmp (P:=fun l=>qax l=true→(∀e∈l,v0≤e.v)→l≠[]→(qar l 0:Int)≤qca l - v0+1) (fun _ _ hn=>absurd rfl hn) (fun l a ih h h0 _=>?_) l
 ·skip
  have hL:qca (l++[a])=a.v:=qfL (j:=l.length) (by simp) (by simp);have hok:=(qc6 h).2 l.length (by simp);rw[qcK (show (l++[a])[l.length]?=some a by simp)] at hok;have hva:=h0 a (by simp);rcases Nat.eq_zero_or_pos l.length with hz|hz
  ·have h1:=qmj (l++[a]) 0;rw[hL];simp only[zA,zK,List.length_nil] at h1;omega
  ·have hne:l≠[]:=List.ne_nil_of_length_pos hz;have hi:=ih (qmI h (List.prefix_append _ _)) (fun e he=>h0 e (List.mem_append.2 (.inl he))) hne;have hpv:qev (l++[a]) l.length=qca l:=by
    rw[qfU (zR _) hz];obtain⟨k,hk⟩:∃k,l.length=k+1:=⟨l.length - 1,by omega⟩;obtain⟨x,hg⟩:∃x,l[k]?=some x:=⟨_,zY (by omega:k<l.length)⟩;rw[qfL hk hg];unfold qev;rw[hk,Nat.add_sub_cancel,hg]
   rw[hL,qbI];unfold qcP at hok;by_cases hv:a.v=qca l
   ·rw[if_neg (by rw[hpv];omega)] at hok;simp only[zB] at hok;have h1:=own_ne hok.1;have h2:qar [a] 0=0:=by unfold qar;simp[h1]
    omega
   ·rw[if_pos (by rw[hpv];exact .inr hv)] at hok;simp only[zB,Bool.or_eq_true,zE] at hok;have h1:=hok.1;rw[hpv] at h1;have h2:=qmj [a] 0;simp only[zK,List.length_nil] at h2;omega
theorem qlW{α:Type}{f g:α→Nat}:∀{l:List α},(∀x∈l,f x≤g x)→(l.map f).sum≤(l.map g).sum
 | [],_=>zR _
 | x::l,h=>by
  have h1:=h x (by simp);have h2:=qlW (l:=l) (fun y hy=>h y (by simp[hy]));simp only[List.map_cons,List.sum_cons];omega
theorem qp4{α:Type}{f g:α→Nat}:∀{l:List α},(l.map fun x=>f x+g x).sum=(l.map f).sum+(l.map g).sum
 | []=>rfl
 | x::l=>by
  have h2:=qp4 (f:=f) (g:=g) (l:=l);simp only[List.map_cons,List.sum_cons] at *;omega
theorem qk6{α:Type}{f:α→Nat}{x:α}:∀{l:List α},x∈l→f x≤(l.map f).sum
 | y::l,h=>by
  simp only[List.map_cons,List.sum_cons];rcases zC.1 h with rfl|h
  ·omega
  ·have:=qk6 (f:=f) h;omega
theorem qoz{O:List Int}:∀{l:List Ent},(∀e∈l,e.o=0∨e.o∈O)→l.length≤qar l 0+(O.map fun o=>qar l o).sum
 | [],_=>zO _
 | e::l,h=>by
  have h1:=qoz (O:=O) (l:=l) (fun x hx=>h x (by simp[hx]));have hc:∀o,qar (e::l) o=qar [e] o+qar l o:=fun o=>qbI [e] l o;have h2:(O.map fun o=>qar (e::l) o).sum=(O.map fun o=>qar [e] o).sum+(O.map fun o=>qar l o).sum:=by
   rw[←qp4];congr 1;exact List.map_congr_left fun o _=>hc o
  rw[h2,hc 0,zK];rcases h e (by simp) with h3|h3
  ·have:qar [e] 0=1:=by unfold qar;simp[h3]
   omega
  ·have h4:qar [e] e.o≤(O.map fun o=>qar [e] o).sum:=qk6 (f:=fun o=>qar [e] o) h3;have:qar [e] e.o=1:=by unfold qar;simp
   omega
section
variable {vs:List Vw} {mem:List St} {H:qc8} {S:qdT} {s:St}
theorem Core.base_ne(c:Core vs mem H S){p b:Int}(h:H p b≠[]):b≠-1∧qaY (H p b) b=true:=⟨(c.log p b h).2.1,(c.log p b h).1⟩
theorem Core.own_sub(c:Core vs mem H S)(p b o:Int)(ho:o≠0):qar (H p b) o≤(S o).length:=by
 rcases Nat.eq_zero_or_pos (qar (H p b) o) with h0|h0
 ·omega
 ·obtain⟨j,e,j1,j2,j3⟩:=qqV h0;have hne:H p b≠[]:=fun e'=>by rw[e'] at j1;simp at j1
  obtain⟨_,b2,_⟩:=qd7 (c.base_ne hne).2 (c.base_ne hne).1;have hjl:=(zZ j1).1;have hok:=(qc6 b2).2 j hjl;rw[qcK j1] at hok;unfold qcP at hok;split at hok
  ·simp only[zB] at hok;have h2:=hok.2;unfold qcq at h2;simp only[zB,zE] at h2;have h3:=congrArg Ent.o h2.2.2;exact absurd (j2.symm.trans h3) ho
  ·simp only[zB,zE] at hok;have hq:=hok.2.2;rcases c.good p b e (zX j1) with ⟨h1,_⟩|⟨_,⟨q1,q2⟩,_⟩
   ·exact absurd (j2.symm.trans h1) ho
   ·have:=(zZ q2).1;rw[j2] at this hq;omega
theorem Core.own_sent(c:Core vs mem H S)(hs:s∈mem)(p b:Int):(qar (H p b) s.self:Int)≤s.sent:=by
 have h1:=c.own_sub p b s.self (own_ne (c.ok s hs).1.self);have h2:=(c.pend s hs).1;omega
theorem Core.len_log(c:Core vs mem H S)(p b:Int):(H p b).length≤vs.length+(mem.map fun t=>(S t.self).length).sum:=by
 by_cases hne:H p b=[]
 ·rw[hne];exact zO _
 obtain⟨hb,hB⟩:=c.base_ne hne;obtain⟨b1,b2,b3⟩:=qd7 hB hb;have h1:=qoz (O:=mem.map St.self) (l:=H p b) (fun e he=>by
  rcases c.good p b e he with ⟨h,_⟩|⟨_,⟨_,h⟩,_⟩
  ·exact .inl h
  ·right;apply Classical.byContradiction;intro hn;have:=(c.out e.o (fun t ht he'=>hn (List.mem_map.2 ⟨t,ht,he'⟩))).2;rw[this] at h;simp at h)
 obtain⟨_,_,x,hx,_⟩:=c.log p b hne;obtain⟨hx1,hx2⟩:=qbb hx;obtain⟨_,_,_,_,i,hi,_,hxi⟩:=qb4 c.vld hx1;have h2:=qqN (v0:=(qbu vs 0).1) b2 (fun e he=>by
  rcases c.good p b e he with ⟨_,y,hy,rfl⟩|⟨_,_,y,hy,h⟩
  ·exact(qb4 c.vld hy).1
  ·rw[h];exact(qb4 c.vld hy).1) hne
 rw[b3] at h2;have h3:((mem.map St.self).map fun o=>qar (H p b) o).sum≤(mem.map fun t=>(S t.self).length).sum:=by
  rw[List.map_map];exact qlW fun t ht=>c.own_sub p b t.self (own_ne (c.ok t ht).1.self)
 omega
end
section
variable {s:St} {fr:Int} {m:Msg}
theorem qty(hv:VS s)(ho:qan s=true)(hl:qas s=true)(hm:fr∈(qad s.views).2)(hk:m.kind=13)(hf:m.first≤s.log.length):∃a,qb0 (qao ⟨s,[],[]⟩ fr m).s.marks fr=some a∧m.first≤a:=by
 unfold qao;simp only;rw[if_neg (by rw[hk];simp),if_neg (by rw[hk];simp),if_pos ⟨hk,ho,hl,qbq.2 hm⟩];unfold qco;simp only;rw[if_neg (by omega),(qaK _).2.1];obtain⟨⟨n',i1,i2,_⟩,_⟩:=qjk (fr:=fr) (n:=m.first) hv.mka.1;exact⟨n',i1,i2⟩
theorem qnf(ho:qan s=true)(hl:qas s=true)(hm:fr∈(qad s.views).2)(hk:m.kind=11)(hlen:s.log.length<2000)(hq:m.first≤qar s.log fr+1):m.first≤qar (qao ⟨s,[],[]⟩ fr m).s.log fr:=by
 unfold qao;simp only;rw[if_pos ⟨hk,ho,hl,qbq.2 hm⟩];unfold qa5;split
 ·have h9:=qmk (l:=s.log) (e:=⟨s.base,fr,m.first,m.pay⟩) (o:=fr) rfl;show m.first≤qar (s.log++[⟨s.base,fr,m.first,m.pay⟩]) fr;omega
 ·next hc=>
  have h2:¬m.first=qar s.log fr+1:=fun e=>hc ⟨e,hlen⟩;show m.first≤qar s.log fr;omega
theorem qjN(hq:m.first≤qar s.log fr)(hk:m.kind=11):(qao ⟨s,[],[]⟩ fr m).s=s:=by
 unfold qao;simp only;split
 ·unfold qa5;rw[if_neg (by intro h;have:=h.1;simp only at this;omega)]
 ·rw[if_neg (by rw[hk];simp),if_neg (by rw[hk];simp),if_neg (by rw[hk];simp),if_neg (by rw[hk];simp)]
theorem qmK{α:Type}{l L:List α}{k:Nat}(hp:l<+:L)(hk:k≤l.length):l.take k=L.take k:=by obtain⟨r,rfl⟩:=hp;rw[List.take_append_of_le_length hk]
theorem qmU{L:List Ent}(hv:VS s)(ho:qan s=true)(hl:qas s=false)(hfr:fr=qa1 (qad s.views))(hk:m.kind=12)(hL:s.log<+:L)(hLb:qaY L s.base=true)(hown:(qar L s.self:Int)≤s.sent)
  (hf:0≤m.first∧m.first≤s.log.length) (he:m.ents<+:L.drop m.first.toNat) :
  m.first+m.ents.length≤(qao ⟨s,[],[]⟩ fr m).s.log.length∧min m.stable (qao ⟨s,[],[]⟩ fr m).s.log.length≤(qao ⟨s,[],[]⟩ fr m).s.stable:=by
 have hb:=(hv.open_base ho).2;have hB:qcH ⟨s,[],[]⟩ m=min (s.log.length - m.first.toNat) m.ents.length:=rfl;have hnew:s.log++m.ents.drop (qcH ⟨s,[],[]⟩ m)<+:L:=qiM hL he (by omega) rfl;have hlat:=qvg hL hv.based hLb hb;unfold qao;simp only;rw[if_neg (by rw[hk];simp),if_pos ⟨hk,ho,hl,hfr⟩];unfold qaS;simp only;rw[if_neg (by omega),if_neg ?_,if_neg ?_,if_neg ?_]
 ·have hlen:m.first+m.ents.length≤((s.log++m.ents.drop (qcH ⟨s,[],[]⟩ m)).length:Int):=by
   rw[zA,zD,hB];omega
  rw[(qdj _ _).1];refine⟨hlen,?_⟩;unfold raiseF;split
  ·next h=>simpa using h
  ·simp
 ·intro h;rcases h with h|h
  ·rw[qmI (qd7 hLb hb).2.1 hnew] at h;cases h
  ·have h1:=qbI;obtain⟨r,hr⟩:=hnew;rw[←hr,qbI] at hown;omega
 ·intro h;rw[List.any_eq_true] at h;obtain⟨e,he1,he2⟩:=h;have:e∈L.drop s.log.length:=by
   obtain⟨r,hr⟩:=hnew;rw[←hr,List.append_assoc,List.drop_left']
   ·exact List.mem_append.2 (.inl he1)
   ·rfl
  obtain⟨h1,h2⟩:=hlat e this;simp[h1,h2] at he2
 ·intro h;apply h;have e1:(s.log.drop m.first.toNat)<+:L.drop m.first.toNat:=by
   obtain⟨r,rfl⟩:=hL;rw[List.drop_append_of_le_length (by omega)];exact List.prefix_append _ _
  rw[qmK e1 (by rw[hB,zD];omega),qmK he (by rw[hB];omega)]
theorem qlx(hv:VS s)(ho:qan s=false)(hl:qas s=false)(hfr:fr=qa1 (qad s.views))(hself:s.self∈(qad s.views).2)(hk:m.kind=15)(hn:m.num=(qad s.views).1)
  (he:qaY m.ents m.num=true) (hp:s.log.take s.stable.toNat<+:m.ents) (hown:(qar m.ents s.self:Int)≤s.sent):qan (qao ⟨s,[],[]⟩ fr m).s=true:=by
 have hb:m.num≠-1:=by have:=qaV hv.last;omega
 unfold qao;simp only;rw[if_neg (by rw[hk];simp),if_neg (by rw[hk];simp),if_neg (by rw[hk];simp),if_neg (by rw[hk];simp),if_pos ⟨hk,ho,hl,hfr,qbq.2 hself⟩];unfold qbp;have hbe:qgs m.ents (s.log.take s.stable.toNat)=true:=by
  unfold qgs;obtain⟨r,hr⟩:=hp;rw[←hr,List.take_left' rfl];simp
 rw[if_pos ⟨(qd7 he hb).1,he,hbe,hown⟩];unfold qan;simpa using hn
end
open Go.RowKit
structure Arr{α:Type}(E:Elem α)(w:World)(B:Nat)(col:Nat→Nat)(c:Nat)(v:Value)(l:List α):Prop where
 own:E.Own w B v l
 cv:ColV col c v
 inn:∀a∈l,E.ok a∧∀r∈E.inn a,Row w r.1 r.2∧ColR col 0 r.1 r.2
section
variable {α:Type} {E:Elem α} {w w':World} {B c:Nat} {col col':Nat→Nat} {cs:List Nat} {v v':Value} {l news:List α}
theorem Arr.keep(h:Arr E w B col c v l)(s:Stp B cs col w col' w')(hc:c∉cs)(h0:0∉cs):Arr E w' B col' c v l:=
 ⟨s.own h.own h.cv hc,s.colV h.own h.cv,fun a ha=>⟨(h.inn a ha).1,fun r hr=>⟨s.row ((h.inn a ha).2 r hr).1 ((h.inn a ha).2 r hr).2 h0,s.colR ((h.inn a ha).2 r hr).1 ((h.inn a ha).2 r hr).2⟩⟩⟩
theorem Arr.ob(h:Arr E w B col c v l)(hc:c≠0):E.OB w B v l:=
 ⟨h.own,fun a ha=>⟨(h.inn a ha).1,fun r hr=>⟨((h.inn a ha).2 r hr).1,fun p q hne hp hq e=>by
  have h1:=((h.inn a ha).2 r hr).2 p hne hp;have h2:=h.cv q hq;rw[e,h1] at h2;exact hc h2.symm⟩⟩⟩
theorem Arr.good(h:Arr E w B col c v l)(hc:c≠0)(hn:∀a∈news,E.ok a∧∀r∈E.inn a,Row w r.1 r.2∧ColR col 0 r.1 r.2):∀q∈news,E.ok q∧∀r∈E.inn q,Row w r.1 r.2∧Apt v r:=
 fun a ha=>⟨(hn a ha).1,fun r hr=>⟨((hn a ha).2 r hr).1,fun p q hne hp hq e=>by
  have h1:=((hn a ha).2 r hr).2 p hne hp;have h2:=h.cv q hq;rw[e,h1] at h2;exact hc h2.symm⟩⟩
theorem Arr.slice(h:Arr E w B col c v l):∃A n,v=.slice A l.length n∧l.length≤n∧n≤maxLen∧Row w A (E.cells l):=h.own.slice
theorem Arr.row{A:Option Addr}{n m:Nat}(h:Arr E w B col c (.slice A n m) l):Row w A (E.cells l):=h.own.row
theorem Arr.nil(w:World)(B:Nat)(col:Nat→Nat)(c:Nat):Arr E w B col c Zq []:=⟨Elem.Own.nil _ _,fun q hq=>by simp[Value.ownBlock] at hq,fun a ha=>by cases ha⟩
def qbs(col:Nat→Nat)(n n' c:Nat):Nat→Nat:=fun k=>if k<n then col k else if k<n' then c else 0
theorem qiR{n n' k:Nat}(h:k<n):qbs col n n' c k=col k:=by unfold qbs;rw[if_pos h]
theorem qq8{n n':Nat}(h:n≤n'):∀k,n'≤k→qbs col n n' c k=0:=fun k hk=>by unfold qbs;rw[if_neg (by omega),if_neg (by omega)]
theorem qnI{n n' k:Nat}(h:n≤k)(h':k<n'):qbs col n n' c k=c:=by unfold qbs;rw[if_neg (by omega),if_pos h']
theorem Arr.pushed(h:Arr E w B col c v l)(hn:∀a∈news,E.ok a∧∀r∈E.inn a,Row w r.1 r.2∧ColR col 0 r.1 r.2)(ho:E.OB w' B v' (l++news))(g:Grew w w' v)(hs:Stems w v v')(hB:B≤w.heap.size) :
  Stp B [c] col w (qbs col w.heap.size w'.heap.size c) w'∧Arr E w' B (qbs col w.heap.size w'.heap.size c) c v' (l++news)∧∀k,w'.heap.size≤k→qbs col w.heap.size w'.heap.size c k=0:=by
 have s:Stp B [c] col w (qbs col w.heap.size w'.heap.size c) w':=(Stp.grew g hB (fun k hk=>(h.own.lt k hk).1) h.cv (by simp)).recol (fun k hk=>qiR hk);refine⟨s,⟨ho.1,fun q hq=>?_,fun a ha=>⟨(ho.2 a ha).1,fun r hr=>⟨((ho.2 a ha).2 r hr).1,?_⟩⟩⟩,qq8 g.size⟩
 ·have hlt:=ho.1.lt q hq;rcases hs with hs|⟨k,hk,hle⟩
  ·rw[hs] at hq;rw[qiR (h.own.lt q hq).2];exact h.cv q hq
  ·rw[hk] at hq;cases hq;exact qnI hle hlt.2
 ·rcases List.mem_append.1 ha with ha|ha
  ·exact s.colR ((h.inn a ha).2 r hr).1 ((h.inn a ha).2 r hr).2
  ·exact s.colR ((hn a ha).2 r hr).1 ((hn a ha).2 r hr).2
def qe7(w:World)(g:Nat):Nat→List Value→World
 | _,[]=>w
 | o,u::us=>qe7 (w.setCell ⟨g,o,none⟩ u) g (o+1) us
def qhm(l:List Value):Nat→List Value→List Value
 | _,[]=>l
 | o,u::us=>qhm (l.set o u) (o+1) us
def qmS(l:Array Value):Nat→List Value→Array Value
 | _,[]=>l
 | o,u::us=>qmS (l.setIfInBounds o u) (o+1) us
theorem qiH(g:Nat):∀(us:List Value) (o:Nat) (w:World),Wrote g w (qe7 w g o us)
 | [],_,_=>Wrote.refl _ _
 | u::us,o,w=>(Wrote.set g o w u).trans (qiH g us (o+1) _)
theorem qjZ{g:Nat}{t:TypeId}:∀(us:List Value) (o:Nat) (w:World) (cur:Array Value),w.heap[g]?=some (.cells cur t (0,0))→(qe7 w g o us).heap[g]?=some (.cells (qmS cur o us) t (0,0))
 | [],_,_,_,h=>h
 | _::us,o,_,_,h=>qjZ us (o+1) _ _ (heap_setCell_same _ _ _ _ _ _ h)
theorem qgm:∀(us:List Value) (o n:Nat) (cur:Array Value),(qmS cur o us).toList.take n=qhm (cur.toList.take n) o us∧(qmS cur o us).size=cur.size
 | [],_,_,_=>⟨rfl,rfl⟩
 | u::us,o,n,cur=>by
  obtain⟨h1,h2⟩:=qgm us (o+1) n (cur.setIfInBounds o u);unfold qmS qhm;rw[h1,h2];refine⟨?_,by simp⟩;rw[Array.toList_setIfInBounds,List.take_set]
theorem qgC(x:Value):∀(us:List Value) (o:Nat) (l:List Value),qhm (x::l) (o+1) us=x::qhm l o us
 | [],_,_=>rfl
 | u::us,o,l=>by unfold qhm;rw[List.set_cons_succ,qgC x us (o+1)]
theorem qkj:∀(xs us l:List Value) (o:Nat),qhm (xs++l) (xs.length+o) us=xs++qhm l o us
 | [],us,l,o=>by simp
 | x::xs,us,l,o=>by
  rw[List.cons_append,zK,show xs.length+1+o=xs.length+o+1 by omega,qgC,qkj xs us l o];rfl
theorem qkB:∀(us xs l:List Value),xs.length=us.length→qhm (xs++l) 0 us=us++l
 | [],xs,l,h=>by have:xs=[]:=List.eq_nil_of_length_eq_zero h;subst this;rfl
 | u::us,[],l,h=>by simp at h
 | u::us,x::xs,l,h=>by
  unfold qhm;rw[List.cons_append,List.set_cons_zero,qgC,qkB us xs l (by simpa using h)];rfl
theorem Elem.cells_put(E:Elem α):∀(l:List α) (i:Nat) (a:α),i<l.length→E.cells (l.set i a)=qhm (E.cells l) (i*E.k) (E.f a)
 | [],_,_,h=>by simp at h
 | x::l,0,a,_=>by
  rw[List.set_cons_zero,E.cells_cons,E.cells_cons,Nat.zero_mul,qkB _ _ _ (by rw[E.len,E.len])]
 | x::l,i+1,a,h=>by
  rw[List.set_cons_succ,E.cells_cons,E.cells_cons,E.cells_put l i a (by simpa using h),Nat.succ_mul];have:=qkj (E.f x) (E.f a) (E.cells l) (i*E.k);rw[E.len] at this;rw[Nat.add_comm (i*E.k) E.k,this]
theorem Arr.addr(h:Arr E w B col c v l)(hl:0<l.length):∃g n,v=.slice (some (Pq g 0)) l.length n∧l.length≤n∧n≤maxLen∧B≤g∧g<w.heap.size∧col g=c∧∀i,w.frozen? (Pq g i)=false:=by
 have h':=h.own;have hcv:=h.cv;obtain⟨_,h2⟩:=h.own;rcases h2 with ⟨_,h3⟩|⟨g,cap,cur,hv,h3,hh,h4,h5,h6,h7⟩
 ·omega
 ·subst hv;exact⟨g,cap,rfl,h4,h5,h3,(h'.lt g rfl).2,hcv g rfl,fun i=>(show BIs w g cur _ from hh).free i⟩
theorem Arr.cell{g n i:Nat}(h:Arr E w B col c (.slice (some (Pq g 0)) l.length n) l){a:α}(ha:l[i]?=some a){j:Nat}{u:Value}(hu:(E.f a)[j]?=some u):w.cell? (Pq g (i*E.k+j))=some u:=by
 have hj:j<E.k:=by have:=(zZ hu).1;rwa [E.len] at this
 have hi:=(zZ ha).1;have hc:=E.cells_at ha j hj;rw[hu] at hc;obtain⟨b,off,h1,h2,h3⟩:=h.row (fun e=>by rw[e] at hc;simp at hc);cases h1;have:=h3 _ u hc;rwa [Nat.zero_add] at this
theorem Arr.put{g n i:Nat}(h:Arr E w B col c (.slice (some (Pq g 0)) l.length n) l)(hi:i<l.length){a:α}(ha:E.ok a∧∀r∈E.inn a,Row w r.1 r.2∧ColR col 0 r.1 r.2)(hB:B≤w.heap.size)(hc:c≠0) :
  Stp B [c] col w col (qe7 w g (i*E.k) (E.f a))∧Arr E (qe7 w g (i*E.k) (E.f a)) B col c (.slice (some (Pq g 0)) (l.set i a).length n) (l.set i a):=by
 have hg:col g=c:=h.cv g rfl;have hBg:=(h.own.lt g rfl).1;have s:Stp B [c] col w col (qe7 w g (i*E.k) (E.f a)):=Stp.wrote (qiH g _ _ _) hBg hB (by rw[hg];simp);refine⟨s,⟨?_,h.cv,fun x hx=>?_⟩⟩
 ·obtain⟨h1,h2⟩:=h.own;refine⟨by rw[E.cells_len],.inr ?_⟩;rcases h2 with ⟨h2,_⟩|⟨g',cap,cur,hv,h3,hh,h4,h5,h6,h7⟩
  ·cases h2
  ·simp only[Value.slice.injEq,zJ,Addr.mk.injEq,and_true,true_and] at hv;obtain⟨rfl,rfl⟩:=hv;refine⟨g,n,qmS cur (i*E.k) (E.f a),by rw[List.length_set],h3,qjZ _ _ _ _ hh,by rw[List.length_set];exact h4,h5,by rw[(qgm _ _ 0 _).2];exact h6,?_⟩;rw[List.length_set,(qgm _ _ _ _).1,h7,E.cells_put l i a hi]
 ·have hr:∀r:Option Addr×List Value,(Row w r.1 r.2∧ColR col 0 r.1 r.2)→Row (qe7 w g (i*E.k) (E.f a)) r.1 r.2∧ColR col 0 r.1 r.2:=fun r hr=>⟨s.row hr.1 hr.2 (by simp;exact fun e=>hc e.symm),hr.2⟩;rcases List.mem_or_eq_of_mem_set hx with hx|rfl
  ·exact⟨(h.inn x hx).1,fun r hr'=>hr r ((h.inn x hx).2 r hr')⟩
  ·exact⟨ha.1,fun r hr'=>hr r (ha.2 r hr')⟩
end
structure TlM where
 A:Option Addr
 c:Nat
 l:List Ent
structure SnM where
 A:Option Addr
 c:Nat
 l:List (List UInt8)
structure FyM where
 fr:Int
 to_:Int
 A:Option Addr
 c:Nat
 bs:List UInt8
def FyM.v(f:FyM):Fly:=(f.fr,f.to_,f.bs)
theorem qvc{a b:Value}(h1:a.oneCell'=true)(h2:b.oneCell'=true):∀u∈[a,b],u.oneCell'=true:=by
 intro u hu;simp only[zC,zN,or_false] at hu;rcases hu with rfl|rfl<;>assumption
def qbY:Elem BM where
 f b:=b.cells.toList
 k:=9
 ty:=28
 st:=53
 z:=.agg #[.int .i64 0,.slice none 0 0,.int .i64 0,.slice none 0 0,.int .i64 0,.int .i64 0,.slice none 0 0,.slice none 0 0,.slice none 0 0]
 bytes:=152
 inn b:=(b.Av,qaC.cells b.vs)::(b.Al,qaH.cells b.log)::(b.Ap,qdC.cells b.pend)::(b.Am,qat.cells b.marks)::(b.Af,flE.cells b.fls)::(b.vs.map (fun v=>(v.A,qaq v.xs))++b.fls.map (fun f=>(f.A,qaH.cells f.log)))
 ok b:=b.Fits∧(∀v∈b.vs,qaC.ok v)∧(∀f∈b.fls,flE.ok f)
 len _:=rfl
 one a:=by intro u hu;simp only[zC,zN,or_false] at hu;rcases hu with rfl|rfl|rfl|rfl|rfl|rfl|rfl|rfl|rfl<;>rfl
 pos:=by decide
 und:=Tryz.underlying53
 info:=by kernel_rfl
 zk:=rfl
 small:=by decide
def qem:Elem Bool where
 f x:=[.bool x]
 k:=1
 ty:=4
 st:=54
 z:=.bool false
 bytes:=1
 inn _:=[]
 ok _:=True
 len _:=rfl
 one a:=by intro u hu;simp only[zC,zN,or_false] at hu;rcases hu with rfl;rfl
 pos:=by decide
 und:=Tryz.underlying54
 info:=by kernel_rfl
 zk:=rfl
 small:=by decide
def tlE:Elem TlM where
 f t:=[.slice t.A t.l.length t.c]
 k:=1
 ty:=23
 st:=55
 z:=.slice none 0 0
 bytes:=24
 inn _:=[]
 ok _:=True
 len _:=rfl
 one a:=by intro u hu;simp only[zC,zN,or_false] at hu;rcases hu with rfl;rfl
 pos:=by decide
 und:=Tryz.underlying55
 info:=by kernel_rfl
 zk:=rfl
 small:=by decide
def snE:Elem SnM where
 f t:=[.slice t.A t.l.length t.c]
 k:=1
 ty:=24
 st:=56
 z:=.slice none 0 0
 bytes:=24
 inn _:=[]
 ok _:=True
 len _:=rfl
 one a:=by intro u hu;simp only[zC,zN,or_false] at hu;rcases hu with rfl;rfl
 pos:=by decide
 und:=Tryz.underlying56
 info:=by kernel_rfl
 zk:=rfl
 small:=by decide
def qhv:Elem FyM where
 f v:=[.int .i64 v.fr,.int .i64 v.to_,.slice v.A v.bs.length v.c]
 k:=3
 ty:=137
 st:=57
 z:=.agg #[.int .i64 0,.int .i64 0,.slice none 0 0]
 bytes:=40
 inn v:=[(v.A,qac v.bs)]
 ok v:=v.bs.length≤v.c∧v.c≤maxLen
 len _:=rfl
 one a:=by intro u hu;simp only[zC,zN,or_false] at hu;rcases hu with rfl|rfl|rfl<;>rfl
 pos:=by decide
 und:=Tryz.underlying57
 info:=by kernel_rfl
 zk:=rfl
 small:=by decide
theorem qoK{w:World}{b:BM}(h:qbY.ok b∧∀r∈qbY.inn b,Row w r.1 r.2):b.Reads w:=by
 obtain⟨⟨h1,h2,h3⟩,h4⟩:=h;simp only[qbY,zC,List.mem_append,List.mem_map] at h4;exact⟨⟨h4 _ (.inl rfl),fun v hv=>⟨h2 v hv,fun r hr=>by simp only[qaC,zC,zN,or_false] at hr;subst hr;exact h4 _ (.inr (.inr (.inr (.inr (.inr (.inl ⟨v,hv,rfl⟩))))))⟩⟩,h4 _ (.inr (.inl rfl)),h4 _ (.inr (.inr (.inl rfl))),h4 _ (.inr (.inr (.inr (.inl rfl)))),
  ⟨h4 _ (.inr (.inr (.inr (.inr (.inl rfl))))),fun f hf=>⟨h3 f hf,fun r hr=>by simp only[flE,zC,zN,or_false] at hr;subst hr;exact h4 _ (.inr (.inr (.inr (.inr (.inr (.inr ⟨f,hf,rfl⟩))))))⟩⟩⟩
theorem qmM{w:World}{b:BM}(h:b.Reads w)(hf:b.Fits):qbY.ok b∧∀r∈qbY.inn b,Row w r.1 r.2:=by
 refine⟨⟨hf,fun v hv=>(h.vs.2 v hv).1,fun f hf=>(h.fls.2 f hf).1⟩,fun r hr=>?_⟩;simp only[qbY,zC,List.mem_append,List.mem_map] at hr;rcases hr with rfl|rfl|rfl|rfl|rfl|⟨v,hv,rfl⟩|⟨f,hf,rfl⟩
 ·exact h.vs.1
 ·exact h.log
 ·exact h.pend
 ·exact h.marks
 ·exact h.fls.1
 ·exact(h.vs.2 v hv).2 _ (by simp[qaC])
 ·exact(h.fls.2 f hf).2 _ (by simp[flE])
theorem qtb{b:BM}{n:Nat}(h:b.New n):∀r∈qbY.inn b,NewAt n r.1 r.2:=fun r hr=>by
 simp only[qbY,zC,List.mem_append,List.mem_map] at hr;rcases hr with rfl|rfl|rfl|rfl|rfl|⟨v,hv,rfl⟩|⟨f,hf,rfl⟩
 ·exact h.vs
 ·exact h.log
 ·exact h.pend
 ·exact h.marks
 ·exact h.fls
 ·exact h.vi v hv
 ·exact h.fi f hf
theorem NewAt.col{n:Nat}{A:Option Addr}{xs:List Value}{col:Nat→Nat}(h:NewAt n A xs)(hz:∀k,n≤k→col k=0):ColR col 0 A xs:=fun p hx hp=>hz _ (h p hx hp)
theorem qgZ{w:World}{b:BM}{n:Nat}{col:Nat→Nat}(h:b.Reads w)(hf:b.Fits)(hn:b.New n)(hz:∀k,n≤k→col k=0):qbY.ok b∧∀r∈qbY.inn b,Row w r.1 r.2∧ColR col 0 r.1 r.2:=
 ⟨(qmM h hf).1,fun r hr=>⟨(qmM h hf).2 r hr,(qtb hn r hr).col hz⟩⟩
structure WM where
 Av:Option Addr
 cv:Nat
 vs:List VwM
 Am:Option Addr
 cm:Nat
 mem:List BM
 Ad:Option Addr
 cd:Nat
 down:List Bool
 At:Option Addr
 ct:Nat
 told:List TlM
 As:Option Addr
 cs:Nat
 sent:List SnM
 Af:Option Addr
 cf:Nat
 fly:List FyM
abbrev WM.cells(m:WM):Array Value:=#[.slice m.Av m.vs.length m.cv,.slice m.Am m.mem.length m.cm,.slice m.Ad m.down.length m.cd,.slice m.At m.told.length m.ct,.slice m.As m.sent.length m.cs,.slice m.Af m.fly.length m.cf]
def WM.wd(m:WM):Wd:=⟨vws m.vs,m.mem.map BM.st,m.down,m.told.map TlM.l,m.sent.map SnM.l,m.fly.map FyM.v⟩
def ToldI(w:World)(B:Nat)(col:Nat→Nat)(l:List TlM):Prop:=∀i t,l[i]?=some t→qaH.Own w B (.slice t.A t.l.length t.c) t.l∧ColV col (10+2*i) (.slice t.A t.l.length t.c)
def SentI(w:World)(B:Nat)(col:Nat→Nat)(l:List SnM):Prop:=∀i t,l[i]?=some t→qdC.Own w B (.slice t.A t.l.length t.c) t.l∧ColV col (11+2*i) (.slice t.A t.l.length t.c)
structure WS(w:World)(B:Nat)(col:Nat→Nat)(p:Nat)(m:WM):Prop where
 box:BIs w p m.cells 59
 pc:col p=1
 bp:B≤p
 z:∀k,w.heap.size≤k→col k=0
 vs:Arr qaC w B col 2 (.slice m.Av m.vs.length m.cv) m.vs
 mem:Arr qbY w B col 3 (.slice m.Am m.mem.length m.cm) m.mem
 down:Arr qem w B col 4 (.slice m.Ad m.down.length m.cd) m.down
 told:Arr tlE w B col 5 (.slice m.At m.told.length m.ct) m.told
 sent:Arr snE w B col 6 (.slice m.As m.sent.length m.cs) m.sent
 fly:Arr qhv w B col 7 (.slice m.Af m.fly.length m.cf) m.fly
 ti:ToldI w B col m.told
 si:SentI w B col m.sent
section
variable {w w':World} {B p:Nat} {col col':Nat→Nat} {cs:List Nat} {m:WM}
theorem ToldI.keep{l:List TlM}(h:ToldI w B col l)(s:Stp B cs col w col' w')(hc:∀c∈cs,c<10):ToldI w' B col' l:=fun i t ht=>
 ⟨s.own (h i t ht).1 (h i t ht).2 (fun hm=>by have:=hc _ hm;omega),s.colV (h i t ht).1 (h i t ht).2⟩
theorem SentI.keep{l:List SnM}(h:SentI w B col l)(s:Stp B cs col w col' w')(hc:∀c∈cs,c<10):SentI w' B col' l:=fun i t ht=>
 ⟨s.own (h i t ht).1 (h i t ht).2 (fun hm=>by have:=hc _ hm;omega),s.colV (h i t ht).1 (h i t ht).2⟩
theorem WS.lt(h:WS w B col p m):p<w.heap.size:=h.box.lt
theorem WS.Bsz(h:WS w B col p m):B≤w.heap.size:=zL h.bp (Nat.le_of_lt h.lt)
theorem WS.ext(h:WS w B col p m)(e:Ext w w'):WS w' B col p m:=by
 have s:Stp B [] col w col w':=Stp.ext' h.Bsz e;exact⟨s.bis h.box (by simp),h.pc,h.bp,fun k hk=>h.z k (zL e.size hk),h.vs.keep s (by simp) (by simp),h.mem.keep s (by simp) (by simp),h.down.keep s (by simp) (by simp),h.told.keep s (by simp) (by simp),h.sent.keep s (by simp) (by simp),h.fly.keep s (by simp) (by simp),h.ti.keep s (by simp),h.si.keep s (by simp)⟩
theorem WS.reads(h:WS w B col p m){i:Nat}{b:BM}(hb:m.mem[i]?=some b):b.Reads w∧b.Fits:=
 have h1:=h.mem.inn b (zX hb)
 ⟨qoK ⟨h1.1,fun r hr=>(h1.2 r hr).1⟩,h1.1.1⟩
theorem qaE(h:WS w B col p m):w.cell? (Pq p 0)=some (.slice m.Av m.vs.length m.cv)∧w.cell? (Pq p 1)=some (.slice m.Am m.mem.length m.cm)∧w.cell? (Pq p 2)=some (.slice m.Ad m.down.length m.cd)∧w.cell? (Pq p 3)=some (.slice m.At m.told.length m.ct)∧w.cell? (Pq p 4)=some (.slice m.As m.sent.length m.cs)∧w.cell? (Pq p 5)=some (.slice m.Af m.fly.length m.cf):=
 ⟨h.box.cell 0,h.box.cell 1,h.box.cell 2,h.box.cell 3,h.box.cell 4,h.box.cell 5⟩
theorem WS.field(h:WS w B col p m)(i:Nat)(u:Value):Stp B [1] col w col (w.setCell (Pq p i) u):=Stp.wrote (Wrote.set _ _ _ _) h.bp h.Bsz (by rw[h.pc];simp)
end
theorem qtz{self:Int}{l:List St}{k:Nat}{s:St}(h:l[k]?=some s)(he:s.self=self):qnj self (l.drop k) k=(k:Int):=by
 obtain⟨hk,rfl⟩:=zZ h;rw[List.drop_eq_getElem_cons hk,qnj,if_pos he]
theorem qq7{self:Int}{l:List St}{k:Nat}{s:St}(h:l[k]?=some s)(he:¬s.self=self):qnj self (l.drop k) k=qnj self (l.drop (k+1)) (k+1):=by
 obtain⟨hk,rfl⟩:=zZ h;rw[List.drop_eq_getElem_cons hk,qnj,if_neg he]
theorem qsM{self:Int}{l:List St}{k:Nat}(h:¬k<l.length):qnj self (l.drop k) k = -1:=by
 rw[List.drop_of_length_le (by omega)];rfl
theorem qhE{w:World}{B c:Nat}{col:Nat→Nat}{A:Option Addr}{n:Nat}{l:List BM}{i:Nat}(h:Arr qbY w B col c (.slice A l.length n) l)(hi:i<l.length):∃g b,A=some (Pq g 0)∧B≤g∧g<w.heap.size∧Hid (col g=c)∧l[i]?=some b∧w.cell? (Pq g (i*9))=some (Jq b.self)∧w.cell? (Pq g (i*9+1))=some (.slice b.Av b.vs.length b.cv)∧w.cell? (Pq g (i*9+2))=some (Jq b.base)∧w.cell? (Pq g (i*9+3))=some (.slice b.Al b.log.length b.cl)∧w.cell? (Pq g (i*9+4))=some (Jq b.stable)∧w.cell? (Pq g (i*9+5))=some (Jq b.sent)∧w.cell? (Pq g (i*9+6))=some (.slice b.Ap b.pend.length b.cp)∧w.cell? (Pq g (i*9+7))=some (.slice b.Am b.marks.length b.cm)∧w.cell? (Pq g (i*9+8))=some (.slice b.Af b.fls.length b.cf):=by
 obtain⟨g,m,hv,_,_,h3,h4,h5,_⟩:=h.addr (by omega);simp only[Value.slice.injEq,true_and] at hv;obtain⟨rfl,rfl⟩:=hv;have hb:=zY hi;exact⟨g,_,rfl,h3,h4,hJ h5,hb,h.cell hb (j:=0) rfl,h.cell hb (j:=1) rfl,h.cell hb (j:=2) rfl,h.cell hb (j:=3) rfl,h.cell hb (j:=4) rfl,h.cell hb (j:=5) rfl,h.cell hb (j:=6) rfl,h.cell hb (j:=7) rfl,h.cell hb (j:=8) rfl⟩
theorem qh4(m:WM)(B:Nat)(col:Nat→Nat)(p:Nat)(self:Int)(w:World)(h:WS w B col p m)(hn:m.mem.length≤1000000) :
  Calls Tryz.prog 33 #[.pointer (some (Pq p 0)),Jq self] w fun en w'=>en=.returned (Jq (qfw m.wd self))∧w=w':=by
 have H:=hJ h;have q1:=(qaE h).2.1;have HW:Hid (qfw m.wd self=qnj self (m.mem.map BM.st) 0):=hJ rfl;clear h;go_enter Tryz.func33,Tryz.ntmps33;go_wp2;go_loop [5] (fun i=>∃k:Nat,k≤m.mem.length∧i=Jq k∧Hid (qfw m.wd self=qnj self ((m.mem.map BM.st).drop k) k)) (fun i=>m.mem.length - (intOf i).toNat)
 case atStart=>exact⟨0,zO _,rfl,HW⟩
 case round=>
  obtain⟨k,hk,rfl,HI⟩:=hrel;by_cases hlt:k<m.mem.length
  ·obtain⟨g,b,hA,_,hg,_,hb,c0,_⟩:=qhE H.out.mem hlt;rw[hA] at q1;have HB:Hid ((m.mem.map BM.st)[k]?=some b.st):=hJ (by rw[zM,hb];rfl);clear hb;cases he:b.self == self
   ·have hne:¬b.self=self:=by simpa using he
    have HE:=hJ (qq7 HB.out hne);clear hne;go_wp2;go_round
    case rel=>exact⟨k+1,by omega,by go_num,hJ (HI.out.trans HE.out)⟩
    case measure=>simp[intOf];omega
   ·have hes:b.st.self=self:=(show b.self=self by simpa using he);have HE:=hJ (qtz HB.out hes);clear hes;go_wp2;go_ret;exact⟨by rw[HI.out,HE.out];rfl,rfl⟩
  ·have HE:=hJ (qsM (self:=self) (l:=m.mem.map BM.st) (k:=k) (by simpa using hlt));go_wp2;go_ret;exact⟨by rw[HI.out,HE.out];rfl,rfl⟩
end Go.Proofs.YtponbabbabnaeaaGreat
