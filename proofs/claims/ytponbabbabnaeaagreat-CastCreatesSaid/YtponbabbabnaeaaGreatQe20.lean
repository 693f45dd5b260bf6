/- Part 20 of the proof: contracts of functions that the statement reaches. Conditions: as each theorem says. -/
import Derived.Test.YtponbabbabnaeaaGreatQe01
import Derived.Test.YtponbabbabnaeaaGreatQe12
import Derived.Test.YtponbabbabnaeaaGreatQe19
import Derived.Test.YtponbabbabnaeaaGreatQe13
import Derived.Test.YtponbabbabnaeaaGreatQe16
set_option maxRecDepth 100000
namespace Go.Proofs.YtponbabbabnaeaaGreat
structure Sys(v0:Int)(k:Nat)(w:Wd)(H:qeP)(S:qf6):Prop where
 core:Core w.views w.mem H S
 first:(qbB w.views 0).1=v0
 vk:w.views.length≤1+k
 ml:1≤w.mem.length∧w.mem.length≤5+k
 dl:w.down.length=w.mem.length
 tl:w.told.length=w.mem.length
 sl:w.sent.length=w.mem.length
 told:∀(i:Nat) (s:St),w.mem[i]?=some s→w.told[i]?=some (s.log.take s.stable.toNat)
 sent:∀(i:Nat) (s:St),w.mem[i]?=some s→w.sent[i]?=some (S s.self)
 fly:∀f∈w.fly,(∃s∈w.mem,s.self=f.1)∧f.1≠f.2.1∧f.2.2.length≤1000000∧∃m,qa3 f.2.2=some m∧qci w.views w.mem H S f.1 m
 flen:w.fly.length≤400
 two:∀o,∀p∈S o,p.length≤2
theorem qe8(k:Nat)(body:List UInt8):(qa2 k body).length≤body.length+30:=by
 unfold qa2
 split
 ·next h=>
  unfold qd2 le4
  simp only[List.length_append,List.length_cons,List.length_nil]
  have:=qat (v:=body.length) (by unfold U64;omega)
  omega
 ·simp
theorem qfO{l:List Ent}(h:∀e∈l,e.p.length≤200):(qbd l).length≤300*l.length+11:=by
 have h1:(l.flatMap qgQ).length≤300*l.length:=by
  induction l with
  | nil=>simp
  | cons e l ih=>
   have he:=h e (by simp)
   have:=ih (fun x hx=>h x (by simp[hx]))
   rw[List.flatMap_cons,List.length_append,List.length_cons]
   have h2:=qaD [e.v,e.o,e.q]
   have h3:=qat (v:=e.p.length) (by unfold U64;omega)
   have h4:(qgQ e).length=(qav [e.v,e.o,e.q]).length+((qaS e.p.length).length+e.p.length):=by unfold qgQ qd5;simp only[List.length_append]
   simp only[List.length_cons,List.length_nil] at h2
   omega
 have h2:=qaD [(l.length:Int)]
 unfold qbd
 simp only[List.length_append]
 simp only[List.length_cons,List.length_nil] at h2
 omega
theorem qmu{s:St}(hv:VS s)(hp:∀e∈(qbM s).s.log,e.p.length≤200)(hl:(qbM s).s.log.length≤2000):∀x∈(qbM s).pk,x.2.length≤1000000:=by
 unfold qbM at hp hl⊢
 rw[if_neg (by rw[qb1.2 hv];simp)] at hp hl⊢
 unfold qeo at hp hl⊢
 cases ho:qaL s with
 | true=>
  simp only[ho,if_true] at hp hl⊢
  cases hld:qaN s with
  | true=>
   simp only[hld,if_true] at hp hl⊢
   unfold qhm at hp hl⊢
   simp only at hp hl⊢
   obtain⟨k1,_,_⟩:=qcP (qaf (qap {(⟨s,[],[]⟩:Cs) with s:=qbY s}).s.views).2 (qap {(⟨s,[],[]⟩:Cs) with s:=qbY s})
   rw[k1] at hp hl
   intro x hx
   rcases qkW _ _ x hx with h|⟨_,h|⟨m,_,h⟩⟩
   ·rw[(qbi _).2.2.2.2.2.2.1] at h;cases h
   ·rw[h]
    generalize hc:qap {(⟨s,[],[]⟩:Cs) with s:=qbY s}=c at *
    have h1:=qe8 15 (qav [c.s.base]++qbd c.s.log)
    have h2:=qaD [c.s.base]
    have h3:=qfO hp
    simp only[List.length_append,List.length_cons,List.length_nil] at h1 h2
    omega
   ·rw[h]
    generalize hc:qap {(⟨s,[],[]⟩:Cs) with s:=qbY s}=c at *
    have hcl:(qdC c.s.log m.2 (min (m.2+16) c.s.log.length)).length≤c.s.log.length:=by unfold qdC;simp;omega
    have h1:=qe8 12 (qav [c.s.base,m.2,c.s.stable]++qbd (qdC c.s.log m.2 (min (m.2+16) c.s.log.length)))
    have h2:=qaD [c.s.base,m.2,c.s.stable]
    have h3:=qfO (l:=qdC c.s.log m.2 (min (m.2+16) c.s.log.length)) (fun e he=>hp e (List.mem_of_mem_take (List.mem_of_mem_drop he)))
    simp only[List.length_append,List.length_cons,List.length_nil] at h1 h2
    omega
  | false=>
   simp only[hld,Bool.false_eq_true,if_false] at hp hl⊢
   unfold qdu
   intro x hx
   rcases qjr _ _ x hx with h|⟨j,hj,rfl⟩
   ·simp only[qb3,List.nil_append,List.mem_cons,List.not_mem_nil,or_false] at h
    subst h
    have h1:=qe8 13 (qav [s.base,(s.log.length:Int)])
    have h2:=qaD [s.base,(s.log.length:Int)]
    simp only[List.length_cons,List.length_nil] at h1 h2⊢
    omega
   ·have h1:=qe8 11 (qav [s.base,(qay s.log s.self:Int)+1+j]++qd5 (qcc s ((qay s.log s.self:Int)+1+j)))
    have h2:=qaD [s.base,(qay s.log s.self:Int)+1+j]
    have h3:=qg4 hv.pp ((qay s.log s.self:Int)+1+j)
    have h4:=qat (v:=(qcc s ((qay s.log s.self:Int)+1+j)).length) (by unfold U64;omega)
    unfold qd5 at h1
    simp only[List.length_append,List.length_cons,List.length_nil] at h1 h2
    refine Nat.le_trans h1 ?_
    omega
 | false=>
  simp only[ho,Bool.false_eq_true,if_false] at hp hl⊢
  cases hld:qaN s with
  | true=>simp only[if_true];intro x hx;cases hx
  | false=>
   simp only[hld,Bool.false_eq_true,if_false] at hp hl⊢
   intro x hx
   simp only[qb3,List.nil_append,List.mem_cons,List.not_mem_nil,or_false] at hx
   subst hx
   have hlast:=qa5 hv.last
   have hb:s.base≤tgt s:=hv.base_le
   have hb2 : -1≤s.base:=by
    rcases hv.known with hk|⟨v,hk,_⟩
    ·omega
    ·have:=(qb7 hv.vs (qa8 hk).1).2.2.2.1;have:=(qa8 hk).2;omega
   have h0:=qlh (qaf s.views).1 s.base (by unfold I64;unfold tgt at hb;omega)
   have h1:=qe8 14 (qav [(qaf s.views).1]++qaS (zig s.base)++qbd s.log)
   have h3:=qfO (l:=s.log) hp
   have hl':s.log.length≤2000:=hl
   simp only[List.length_append] at h0 h1⊢
   omega
theorem Core.short{vs:List Vw}{mem:List St}{H:qeP}{S:qf6}(c:Core vs mem H S)(h2:∀o,∀p∈S o,p.length≤2){p b:Int}{e:Ent}(he:e∈H p b):e.p.length≤200:=by
 rcases c.good p b e he with ⟨_,x,_,h⟩|⟨_,⟨_,h⟩,_⟩
 ·rw[h];exact qeC x.1 x.2
 ·have:=h2 _ _ (List.mem_of_getElem? h);omega
theorem qfX(s:St):(qaZ s).self=s.self:=by
 unfold qaZ
 split
 ·rfl
 ·split
  ·rfl
  ·split<;>rfl
theorem qnk{s:St}(hv:VS s):(qbM s).s.self=s.self:=by
 unfold qbM
 rw[if_neg (by rw[qb1.2 hv];simp)]
 unfold qeo
 split
 ·split
  ·unfold qhm
   simp only
   rw[(qcP _ _).1,(qbi _).2.2.2.2.1];rfl
  ·unfold qdu
   rw[(qe0 _ _).1];rfl
 ·split
  ·simp only
   rw[qfX]
   split<;>rfl
  ·rfl
theorem qjN(s:St)(fr:Int)(m:Msg):(qaP ⟨s,[],[]⟩ fr m).s.self=s.self:=by
 unfold qaP
 split
 ·unfold qa4;split<;>rfl
 ·split
  ·unfold qaM
   split
   ·rfl
   ·split
    ·rfl
    ·split
     ·rfl
     ·split
      ·rfl
      ·exact(qex _ _).2.2.2.2.1
  ·split
   ·unfold qcC
    split
    ·rfl
    ·exact(qbi _).2.2.2.2.1
   ·split
    ·split
     ·exact qfX _
     ·rfl
    ·split
     ·unfold qbt;split<;>rfl
     ·rfl
section
variable {v0:Int} {k:Nat} {w w':Wd} {H H':qeP} {S S':qf6}
theorem Sys.more_k(h:Sys v0 k w H S):Sys v0 (k+1) w H S:=⟨h.core,h.first,by have:=h.vk;omega,by have:=h.ml;omega,h.dl,h.tl,h.sl,h.told,h.sent,h.fly,h.flen,h.two⟩
theorem Sys.upd(h:Sys v0 k w H S){i:Nat}{s s':St}(hi:w.mem[i]?=some s)(c':Core w.views (w.mem.set i s') H' S')(ah:∀a m,qci w.views w.mem H S a m→qci w.views (w.mem.set i s') H' S' a m)(hself:s'.self=s.self)
  (e1:w'.views=w.views) (e2:w'.mem=w.mem.set i s') (e3:w'.down=w.down) (e4:w'.told=w.told.set i (s'.log.take s'.stable.toNat)) (e5:w'.sent.length=w.sent.length∧∀(j:Nat) (t:St),w.mem[j]?=some t→w'.sent[j]?=some (S' t.self))
  (e6:∀f∈w'.fly,f∈w.fly∨(f.1=s.self∧f.1≠f.2.1∧f.2.2.length≤1000000∧∃m,qa3 f.2.2=some m∧qci w.views (w.mem.set i s') H' S' f.1 m)) (e7:w'.fly.length≤400) (e8:∀o,∀p∈S' o,p.length≤2):Sys v0 k w' H' S':=by
 have hl:=(List.getElem?_eq_some_iff.1 hi).1
 have hmem:∀p,(∃s∈w.mem,s.self=p)→∃s∈w.mem.set i s',s.self=p:=fun p ⟨t,ht,he⟩=>by
  rcases qc8 (s':=s') hi ht with rfl|h
  ·exact⟨s',List.mem_set hl _,hself.trans he⟩
  ·exact⟨t,h,he⟩
 refine⟨by rw[e1,e2];exact c',by rw[e1];exact h.first,by rw[e1];exact h.vk,by rw[e2,List.length_set];exact h.ml,by rw[e2,e3,List.length_set];exact h.dl,by rw[e2,e4,List.length_set,List.length_set];exact h.tl,by rw[e2,e5.1,List.length_set];exact h.sl,fun j t hj=>?_,fun j t hj=>?_,fun f hf=>?_,e7,e8⟩
 ·rw[e2] at hj
  rw[e4]
  by_cases hij:i=j
  ·subst hij
   rw[List.getElem?_set_self hl] at hj
   rw[List.getElem?_set_self (by rw[h.tl];exact hl)]
   cases hj;rfl
  ·rw[List.getElem?_set_ne hij] at hj⊢;exact h.told j t hj
 ·rw[e2] at hj
  by_cases hij:i=j
  ·subst hij
   rw[List.getElem?_set_self hl] at hj
   cases hj
   rw[hself];exact e5.2 i s hi
  ·rw[List.getElem?_set_ne hij] at hj;exact e5.2 j t hj
 ·rw[e1,e2]
  rcases e6 f hf with h1|⟨h1,h2,h3,h4⟩
  ·obtain⟨f1,f2,f3,m,f4,f5⟩:=h.fly f h1
   exact⟨hmem _ f1,f2,f3,m,f4,ah _ _ f5⟩
  ·exact⟨hmem _ ⟨s,List.mem_of_getElem? hi,h1.symm⟩,h2,h3,h4⟩
theorem Sys.drop(h:Sys v0 k w H S)(j:Nat):Sys v0 k (qhA w j) H S:=by
 refine⟨h.core,h.first,h.vk,h.ml,h.dl,h.tl,h.sl,h.told,h.sent,fun f hf=>h.fly f ?_,?_,h.two⟩
 ·rcases List.mem_append.1 hf with hf|hf
  ·exact List.mem_of_mem_take hf
  ·exact List.mem_of_mem_drop hf
 ·have:=h.flen
  show (w.fly.take j++w.fly.drop (j+1)).length≤400
  simp only[List.length_append,List.length_take,List.length_drop];omega
theorem qgH{w:Wd}{i:Nat}{s:St}(h:w.mem[i]?=some s):qeM w i=s:=by unfold qeM;rw[h];rfl
theorem qkJ{α:Type}{l:List α}{i:Nat}{a:α}(h:l[i]?=some a):l.set i a=l:=by
 obtain⟨hl,hs⟩:=List.getElem?_eq_some_iff.1 h
 rw[←hs];exact List.set_getElem_self _
theorem Sys.submit(h:Sys v0 k w H S){a:Nat}(ha:a<w.mem.length){p:List UInt8}(hp:p.length≤2):∃H' S',Sys v0 k (qdT w a p) H' S':=by
 have hi:=List.getElem?_eq_getElem ha
 unfold qdT
 simp only
 split
 ·next hc=>
  rw[qgH hi] at hc⊢
  obtain⟨H',c',ah⟩:=h.core.submit hi hc.2
  have hVS:=(h.core.here hi).2.1
  have hself:(qaY w.mem[a] p).1.self=(w.mem[a]).self∧(qaY w.mem[a] p).1.log.take (qaY w.mem[a] p).1.stable.toNat=(w.mem[a]).log.take (w.mem[a]).stable.toNat:=by
   have hst:=hVS.st;have hst0:=hVS.st0
   have he:=hc.2
   unfold qaY at he⊢
   rw[if_neg (by rw[qb1.2 hVS];simp)] at he⊢
   split at he
   ·cases he
   ·next hc2=>
    rw[if_neg hc2]
    simp only
    split
    ·refine⟨rfl,?_⟩
     show (qa0 {w.mem[a] with sent:=(w.mem[a]).sent+1,pend:=(w.mem[a]).pend++[p]} _).take (w.mem[a]).stable.toNat=_
     unfold qa0
     exact List.take_append_of_le_length (by simp only;omega)
    ·exact⟨rfl,rfl⟩
  refine⟨H',qmx S (w.mem[a]).self p,h.upd hi c' ah hself.1 rfl rfl rfl ?_ ⟨by simp,fun j t hj=>?_⟩ (fun f hf=>.inl hf) h.flen (fun o q hq=>?_)⟩
  ·show w.told=_
   rw[hself.2,qkJ (h.told a _ hi)]
  ·show (w.sent.set a _)[j]?=_
   by_cases haj:a=j
   ·subst haj
    rw[hi] at hj;cases hj
    rw[List.getElem?_set_self (by rw[h.sl];exact ha),h.sent a _ hi]
    unfold qmx
    simp
   ·rw[List.getElem?_set_ne haj,h.sent j t hj]
    unfold qmx
    rw[if_neg]
    intro he
    have hj':=(List.getElem?_eq_some_iff.1 hj)
    have:=qjp h.core.ids (i:=a) (j:=j) (by simpa using ha) (by simpa using hj'.1) (by simp only[List.getElem_map];rw[hj'.2];exact he.symm)
    exact haj this
  ·unfold qmx at hq
   split at hq
   ·rcases List.mem_append.1 hq with hq|hq
    ·exact h.two o q hq
    ·simp only[List.mem_cons,List.not_mem_nil,or_false] at hq
     subst hq;exact hp
   ·exact h.two o q hq
 ·exact⟨H,S,h⟩
theorem qoS{a:Int}{n:Nat}{p:List (Int×List UInt8)}{f:Fly}(h:f∈qpB a n p):∃x∈p,f=(a,x.1,x.2):=by
 unfold qpB at h
 obtain⟨x,hx,rfl⟩:=List.mem_map.1 h
 exact⟨x,List.mem_of_mem_take hx,rfl⟩
theorem qpf(a:Int)(n:Nat)(p:List (Int×List UInt8))(hn:n≤400):n+(qpB a n p).length≤400:=by
 unfold qpB
 simp only[List.length_map,List.length_take];omega
theorem Sys.tick(h:Sys v0 k w H S){a:Nat}(ha:a<w.mem.length):∃H' S',Sys v0 k (qkr w a) H' S':=by
 have hi:=List.getElem?_eq_getElem ha
 have hVS:=(h.core.here hi).2.1
 obtain⟨H',c',ah,hpk⟩:=h.core.tick hi
 have g:=qg5 hVS
 have hself:(qbM w.mem[a]).s.self=(w.mem[a]).self:=qnk hVS
 have hin:(qbM w.mem[a]).s∈w.mem.set a (qbM w.mem[a]).s:=List.mem_set ha _
 have hshort:∀x∈(qbM w.mem[a]).pk,x.2.length≤1000000:=qmu hVS (fun e he=>c'.short h.two (p:=(qbM w.mem[a]).s.self) (b:=(qbM w.mem[a]).s.base) (by rw[(c'.cur _ hin).1];exact he)) (c'.logE hin).1
 unfold qkr
 simp only
 rw[qgH hi]
 refine⟨H',S,h.upd hi c' ah hself rfl rfl rfl ?_ ⟨rfl,fun j t hj=>h.sent j t hj⟩ (fun f hf=>?_) ?_ h.two⟩
 ·show w.told.set a ((w.told[a]?).getD []++_)=_
  rw[h.told a _ hi,g.told];rfl
 ·have hsl:(qeM (qiI w a (qbM w.mem[a]).s) a).self=(w.mem[a]).self:=by
   unfold qeM qiI
   simp only
   rw[List.getElem?_set_self ha];exact hself
  rcases List.mem_append.1 hf with hf|hf
  ·exact .inl hf
  ·obtain⟨x,hx,rfl⟩:=qoS hf
   obtain⟨x1,m,x2,x3⟩:=hpk x hx
   refine .inr ⟨hsl,?_,hshort x hx,m,x2,?_⟩
   ·show (qeM (qiI w a (qbM w.mem[a]).s) a).self≠x.1
    rw[hsl];exact fun e=>x1 e.symm
   ·show qci _ _ _ _ (qeM (qiI w a (qbM w.mem[a]).s) a).self m
    rw[hsl];exact x3
 ·show (w.fly++qpB _ w.fly.length _).length≤400
  rw[List.length_append]
  exact qpf _ _ _ h.flen
theorem Sys.hand(h:Sys v0 k w H S){f:Fly}(hf:f∈w.fly):(qc6 w f).2=true∧(∃H' S',Sys v0 k (qc6 w f).1 H' S')∧(qc6 w f).1.fly=w.fly:=by
 unfold qc6
 simp only
 split
 ·exact⟨rfl,⟨H,S,h⟩,rfl⟩
 ·next hc=>
  rcases qgt f.2.1 w.mem 0 with ⟨h1,_⟩|⟨i,s,h1,hi,hself⟩
  ·exact absurd (.inl (by unfold qhH;rw[h1];decide)) hc
  ·have ht:(qhH w f.2.1).toNat=i:=by unfold qhH;rw[h1];omega
   rw[ht,qgH hi]
   obtain⟨⟨t,ht1,ht2⟩,f2,_,m,f4,f5⟩:=h.fly f hf
   have hid:qb2 f.1=true:=by rw[←ht2];exact(h.core.ok t ht1).1.self
   obtain⟨r1,⟨H',c',ah⟩,r3⟩:=h.core.receive hi hid (by rw[hself];exact f2) f4 f5
   have hVS:=(h.core.here hi).2.1
   have g:Good s (qal s f.1 f.2.2).1:=by
    rcases qeJ hVS f.1 f.2.2 with hx|hx
    ·exact absurd r1 hx.1
    ·exact hx.2
   have hl:=(List.getElem?_eq_some_iff.1 hi).1
   rw[if_neg (by rw[r1];simp)]
   have hsl:(qal s f.1 f.2.2).1.s.self=s.self:=by
    have hm:=(c'.ids)
    have he:qal s f.1 f.2.2=(if m.num=(qaf s.views).1 then qaP ⟨s,[],[]⟩ f.1 m else ⟨s,[],[]⟩,0):=by
     unfold qal
     rw[if_neg (by rw[qb1.2 hVS,hid];simp;rw[hself];exact f2),f4]
    rw[he]
    simp only
    split
    ·exact qjN s f.1 m
    ·rfl
   have hfl:(qh7 (qiI w i (qal s f.1 f.2.2).1.s) i (qal s f.1 f.2.2).1.pk (qal s f.1 f.2.2).1.dl).fly=w.fly:=by
    show w.fly++qpB _ _ (qal s f.1 f.2.2).1.pk=w.fly
    rw[r3]
    simp[qpB]
   refine⟨rfl,⟨H',S,h.upd hi c' ah hsl rfl rfl rfl ?_ ⟨rfl,fun j t hj=>h.sent j t hj⟩ (fun f' hf'=>.inl (by rw[hfl] at hf';exact hf')) (by rw[hfl];exact h.flen) h.two⟩,hfl⟩
   show w.told.set i ((w.told[i]?).getD []++_)=_
   rw[h.told i _ hi,g.told];rfl
theorem Sys.learn(h:Sys v0 k w H S){a:Nat}(ha:a<w.mem.length):(qdp w a).2=true∧∃H' S',Sys v0 k (qdp w a).1 H' S':=by
 have hi:=List.getElem?_eq_getElem ha
 obtain⟨hsm,hVS,hpre,_⟩:=h.core.here hi
 have hn:=(qa7 hVS.vs).1
 have hat:qfP w a=(w.mem[a]).views.length:=by
  unfold qfP
  rw[qgH hi,qd9 hpre hn];omega
 unfold qdp
 rw[hat,qgH hi]
 split
 ·exact⟨rfl,H,S,h⟩
 ·next hlt=>
  simp only
  have hv:(w.mem[a]).views++[qbB w.views (w.mem[a]).views.length]<+:w.views:=by
   obtain⟨r,hr⟩:=hpre
   rw[←hr] at hlt⊢
   rcases r with _|⟨x,r⟩
   ·simp at hlt
   ·have:qbB ((w.mem[a]).views++x::r) (w.mem[a]).views.length=x:=by unfold qbB;simp
    rw[this]
    exact⟨r,by simp⟩
  obtain⟨q1,⟨H',c',ah⟩,q3,q4,q5⟩:=h.core.learn hi hv
  rw[Int.toNat_natCast,if_neg (by rw[q1];simp)]
  refine⟨rfl,H',S,h.upd hi c' ah q3 rfl rfl rfl ?_ ⟨rfl,fun j t hj=>h.sent j t hj⟩ (fun f hf=>.inl hf) h.flen h.two⟩
  show w.told=_
  rw[q4,q5,qkJ (h.told a _ hi)]
theorem Sys.viewed(h:Sys v0 k w H S)(hk:k<1900)(m:Mv):(qbT w m).2=true∧∃H' S',Sys v0 (k+1) (qbT w m).1 H' S':=by
 unfold qbT
 simp only
 split
 ·exact⟨rfl,H,S,h.more_k⟩
 ·next hok=>
  obtain⟨n,ys,er⟩:∃n ys er,qcr (qaf w.views).1 (qaf w.views).2 (qg1 w m)=(n,ys,er):=⟨_,_,_,rfl⟩
  obtain⟨⟨n,ys,er⟩,hv⟩:∃d,qcr (qaf w.views).1 (qaf w.views).2 (qg1 w m)=d:=⟨_,rfl⟩
  rw[hv] at hok⊢
  simp only[ne_eq,Decidable.not_not] at hok
  subst hok
  have hlen:=h.vk
  have hnew:qaq (w.views++[(n,ys)])=true:=qiM h.core.vld (by omega) (qkw hv)
  obtain⟨c1,a1⟩:=h.core.more hnew
  have hfirst:(qbB (w.views++[(n,ys)]) 0).1=v0:=by
   rw[qd9 (List.prefix_append _ _) (qa7 h.core.vld).1];exact h.first
  have hvk:(w.views++[(n,ys)]).length≤1+(k+1):=by simp;omega
  simp only
  split
  ·next hj=>
   simp only[Bool.and_eq_true,decide_eq_true_eq] at hj
   have hjo:qcu (w.views++[(n,ys)]) (qcD m)=(⟨qcD m,w.views++[(n,ys)],-1,[],0,0,[],[],[]⟩,0):=by
    unfold qcu
    rw[hnew,qmf,hj.1];rfl
   rw[hjo]
   have hfresh:∀s∈w.mem,s.self≠qcD m:=by
    rcases qgt (qcD m) w.mem 0 with ⟨_,h2⟩|⟨i,s,h1,_,_⟩
    ·exact h2
    ·have:=hj.2;unfold qhH at this;rw[h1] at this;omega
   have hid:qb2 (qcD m)=true:=by unfold qb2 qcD;simp;omega
   obtain⟨c2,a2⟩:=c1.join hid hfresh
   refine⟨by simp,H,S,c2,hfirst,hvk,?_,?_,?_,?_,fun i s hi=>?_,fun i s hi=>?_,fun f hf=>?_,h.flen,h.two⟩
   ·have:=h.ml
    show 1≤(w.mem++[_]).length∧(w.mem++[_]).length≤5+(k+1)
    simp only[List.length_append,List.length_cons,List.length_nil];omega
   ·show (w.down++[false]).length=(w.mem++[_]).length
    simp only[List.length_append,List.length_cons,List.length_nil,h.dl]
   ·show (w.told++[[]]).length=(w.mem++[_]).length
    simp only[List.length_append,List.length_cons,List.length_nil,h.tl]
   ·show (w.sent++[[]]).length=(w.mem++[_]).length
    simp only[List.length_append,List.length_cons,List.length_nil,h.sl]
   ·show (w.told++[[]])[i]?=_
    have hi':(w.mem++[(⟨qcD m,w.views++[(n,ys)],-1,[],0,0,[],[],[]⟩:St)])[i]?=some s:=hi
    rw[List.getElem?_append] at hi'⊢
    rw[h.tl]
    split at hi'
    ·next hlt=>rw[if_pos hlt];exact h.told i s hi'
    ·next hlt=>
     rw[if_neg hlt]
     have:i - w.mem.length=0:=by have:=(List.getElem?_eq_some_iff.1 hi').1;simp at this;omega
     rw[this] at hi'⊢
     simp only[List.getElem?_cons_zero,Option.some.injEq] at hi'⊢
     rw[←hi'];simp
   ·show (w.sent++[[]])[i]?=_
    have hi':(w.mem++[(⟨qcD m,w.views++[(n,ys)],-1,[],0,0,[],[],[]⟩:St)])[i]?=some s:=hi
    rw[List.getElem?_append] at hi'⊢
    rw[h.sl]
    split at hi'
    ·next hlt=>rw[if_pos hlt];exact h.sent i s hi'
    ·next hlt=>
     rw[if_neg hlt]
     have:i - w.mem.length=0:=by have:=(List.getElem?_eq_some_iff.1 hi').1;simp at this;omega
     rw[this] at hi'⊢
     simp only[List.getElem?_cons_zero,Option.some.injEq] at hi'⊢
     rw[←hi']
     exact(h.core.out (qcD m) hfresh).2.symm
   ·obtain⟨⟨t,t1,t2⟩,f2,f3,mm,f4,f5⟩:=h.fly f hf
    exact⟨⟨t,List.mem_append.2 (.inl t1),t2⟩,f2,f3,mm,f4,a2 _ _ (a1 _ _ f5)⟩
  ·refine⟨rfl,H,S,c1,hfirst,hvk,by have:=h.ml;simp only;omega,h.dl,h.tl,h.sl,h.told,h.sent,fun f hf=>?_,h.flen,h.two⟩
   obtain⟨f1,f2,f3,mm,f4,f5⟩:=h.fly f hf
   exact⟨f1,f2,f3,mm,f4,a1 _ _ f5⟩
theorem Sys.move(h:Sys v0 k w H S)(hk:k<1900)(m:Mv):(qbE w m).2=true∧∃H' S',Sys v0 (k+1) (qbE w m).1 H' S':=by
 have up:∀w',(∃H' S',Sys v0 k w' H' S')→∃H' S',Sys v0 (k+1) w' H' S':=fun w' ⟨H',S',h'⟩=>⟨H',S',h'.more_k⟩
 have ha:m.a % w.mem.length<w.mem.length:=Nat.mod_lt _ (by have:=h.ml;omega)
 unfold qbE
 simp only
 split
 ·exact⟨rfl,up _ (h.submit ha (by simp[qtn]))⟩
 split
 ·refine⟨rfl,up _ ?_⟩
  split
  ·exact⟨H,S,h.drop _⟩
  ·exact⟨H,S,h⟩
 split
 ·exact h.viewed hk m
 split
 ·split
  ·exact⟨rfl,H,S,h.more_k⟩
  ·obtain⟨q1,q2⟩:=h.learn ha
   exact⟨q1,up _ q2⟩
 split
 ·refine⟨rfl,H,S,h.core,h.first,by have:=h.vk;simp only;omega,by have:=h.ml;simp only;omega,by simp only[List.length_set];exact h.dl,h.tl,h.sl,h.told,h.sent,h.fly,h.flen,h.two⟩
 split
 ·refine⟨rfl,up _ ?_⟩
  split
  ·exact⟨H,S,h⟩
  ·exact h.tick ha
 split
 ·next hpos=>
  have hin:qcw w (m.n % w.fly.length)∈w.fly:=by
   have hlt:m.n % w.fly.length<w.fly.length:=Nat.mod_lt _ hpos
   unfold qcw
   rw[List.getElem?_eq_getElem hlt]
   exact List.getElem_mem _
  obtain⟨q1,⟨H',S',q2⟩,q3⟩:=h.hand hin
  refine⟨q1,up _ ?_⟩
  split
  ·exact⟨H',S',q2.drop _⟩
  ·exact⟨H',S',q2⟩
 ·exact⟨rfl,H,S,h.more_k⟩
theorem Sys.run:∀(l:List Mv) {k:Nat} {w:Wd} {H:qeP} {S:qf6},Sys v0 k w H S→k+l.length≤1900→(qiN w l).2=true∧∃H' S',Sys v0 (k+l.length) (qiN w l).1 H' S'
 | [],k,w,H,S,h,_=>⟨rfl,H,S,h⟩
 | m::l,k,w,H,S,h,hk=>by
  rw[List.length_cons] at hk
  obtain⟨q1,H',S',q2⟩:=h.move (by omega) m
  have:=Sys.run l q2 (by omega)
  unfold qiN
  simp only
  rw[if_pos q1,List.length_cons,show k+(l.length+1)=k+1+l.length by omega]
  exact this
theorem qpN{v:Vw}(hv:qan v.1 v.2=true):qge v=⟨[v],v.2.map (qho v),v.2.map (fun _=>false),v.2.map (fun _=>[]),v.2.map (fun _=>[]),[]⟩:=by
 have go:∀(l:List Int),(∀p∈l,qbr v.2 p=true)→∀w:Wd,l.foldl (fun w m=>qmy w (qba v m).1) w=⟨w.views,w.mem++l.map (qho v),w.down++l.map (fun _=>false),w.told++l.map (fun _=>[]),w.sent++l.map (fun _=>[]),w.fly⟩:=by
  intro l
  induction l with
  | nil=>intro _ w;simp
  | cons p l ih=>
   intro hl w
   rw[List.foldl_cons,ih (fun q hq=>hl q (by simp[hq]))]
   have:(qba v p).1=qho v p:=by
    unfold qba
    rw[hv,hl p (by simp)];rfl
   rw[this]
   simp[qmy]
 unfold qge
 rw[go v.2 (fun p hp=>qb4.2 hp)]
 simp
theorem Sys.begin{v:Vw}(hv:qan v.1 v.2=true)(h5:v.2.length≤5):Sys v.1 0 (qge v) (qhr v) (fun _=>[]):=by
 have hl:=(qaH hv).1
 rw[qpN hv]
 refine⟨Core.begin hv,rfl,by simp,by simp only[List.length_map];omega,by simp,by simp,by simp,fun i s hi=>?_,fun i s hi=>?_,(fun f hf=>by cases hf),by simp,(fun o p hp=>by cases hp)⟩
 ·rw[List.getElem?_map] at hi⊢
  obtain⟨p,hp,rfl⟩:=Option.map_eq_some_iff.1 hi
  rw[hp];simp[qho]
 ·rw[List.getElem?_map] at hi⊢
  obtain⟨p,hp,rfl⟩:=Option.map_eq_some_iff.1 hi
  rw[hp];rfl
end
section
variable {v0:Int} {k:Nat} {w:Wd} {H:qeP} {S:qf6}
theorem Sys.told_of(h:Sys v0 k w H S){i:Nat}{t:List Ent}(ht:w.told[i]?=some t):∃s,w.mem[i]?=some s∧t=s.log.take s.stable.toNat:=by
 have hi:i<w.mem.length:=by have:=(List.getElem?_eq_some_iff.1 ht).1;rwa [h.tl] at this
 have hs:=List.getElem?_eq_getElem hi
 have:=h.told i _ hs
 rw[ht] at this
 exact⟨_,hs,Option.some.inj this⟩
theorem Sys.creates(h:Sys v0 k w H S){i:Nat}{t:List Ent}(ht:w.told[i]?=some t){j:Nat}{e:Ent}(he:t[j]?=some e) :
  (e.o=0→∃n,n<w.views.length∧e.v=v0+n∧e=qab (qbB w.views n).1 (qbB w.views n).2)∧
  (e.o≠0→∃(o:Nat) (s:St) (l:List (List UInt8)),qhH w e.o=(o:Int)∧w.mem[o]?=some s∧s.self=e.o∧w.sent[o]?=some l∧e.q=(qay (t.take j) e.o:Int)+1∧l[qay (t.take j) e.o]?=some e.p):=by
 obtain⟨s,hs,rfl⟩:=h.told_of ht
 obtain⟨hsm,hv,hpre,_⟩:=h.core.here hs
 have hj:j<(s.log.take s.stable.toNat).length:=(List.getElem?_eq_some_iff.1 he).1
 have hjl:s.log[j]?=some e:=by
  rw[List.getElem?_take] at he
  split at he
  ·exact he
  ·cases he
 have hg:=h.core.good s.self s.base e (by rw[(h.core.cur s hsm).1];exact List.mem_of_getElem? hjl)
 have hbase:s.base≠-1:=fun e'=>by
  have:=hv.based
  unfold qaX at this
  rw[if_pos e'] at this
  simp only[decide_eq_true_eq] at this
  have:=(List.getElem?_eq_some_iff.1 hjl).1
  omega
 have hok:=(qe3 (hv.log hbase).2.1).2 j (List.getElem?_eq_some_iff.1 hjl).1
 rw[qdS hjl] at hok
 refine⟨fun h0=>?_,fun h0=>?_⟩
 ·rcases hg with ⟨_,x,hx,hxe⟩|⟨h1,_⟩
  ·obtain⟨_,_,_,_,n,hn,hxn,hxv⟩:=qb7 h.core.vld hx
   rw[h.first] at hxv
   exact⟨n,hn,by rw[hxe];exact hxv,by rw[hxe,hxn]⟩
  ·exact absurd h0 h1
 ·rcases hg with ⟨h1,_⟩|⟨_,⟨q1,q2⟩,_⟩
  ·exact absurd h1 h0
  ·have hq:e.q=(qay (s.log.take j) e.o:Int)+1:=by
    unfold qdN at hok
    split at hok
    ·simp only[Bool.and_eq_true] at hok
     have h2:=hok.2
     unfold qcg at h2
     simp only[Bool.and_eq_true,decide_eq_true_eq] at h2
     have h3:=congrArg Ent.o h2.2.2
     exact absurd h3 h0
    ·simp only[Bool.and_eq_true,decide_eq_true_eq] at hok
     exact hok.2.2
   have htk:(s.log.take s.stable.toNat).take j=s.log.take j:=by
    rw[List.take_take,Nat.min_eq_left (by simp only[List.length_take] at hj;omega)]
   rw[htk]
   have hne:S e.o≠[]:=fun e'=>by rw[e'] at q2;simp at q2
   rcases qgt e.o w.mem 0 with ⟨_,h2⟩|⟨o,r,h1,h2,h3⟩
   ·exact absurd (h.core.out e.o h2).2 hne
   ·refine⟨o,r,S r.self,by unfold qhH;rw[h1];simp,h2,h3,h.sent o r h2,hq,?_⟩
    rw[h3]
    have:(e.q - 1).toNat=qay (s.log.take j) e.o:=by omega
    rw[←this];exact q2
end
open Go.RowKit
structure Arr{α:Type}(E:Elem α)(w:World)(B:Nat)(col:Nat→Nat)(c:Nat)(v:Value)(l:List α):Prop where
 own:E.Own w B v l
 cv:ColV col c v
 inn:∀a∈l,E.ok a∧∀r∈E.inn a,Row w r.1 r.2∧ColR col 0 r.1 r.2
section
variable {α:Type} {E:Elem α} {w w':World} {B c:Nat} {col col':Nat→Nat} {cs:List Nat} {v v':Value} {l news:List α}
theorem Arr.keep(h:Arr E w B col c v l)(s:Stp B cs col w col' w')(hc:c∉cs)(h0:0∉cs):Arr E w' B col' c v l:=
 ⟨s.own h.own h.cv hc,s.colV h.own h.cv,fun a ha=>⟨(h.inn a ha).1,fun r hr=>⟨s.row ((h.inn a ha).2 r hr).1 ((h.inn a ha).2 r hr).2 h0,s.colR ((h.inn a ha).2 r hr).1 ((h.inn a ha).2 r hr).2⟩⟩⟩
theorem Arr.ob(h:Arr E w B col c v l)(hc:c≠0):E.OB w B v l:=
 ⟨h.own,fun a ha=>⟨(h.inn a ha).1,fun r hr=>⟨((h.inn a ha).2 r hr).1,fun p q hne hp hq e=>by
  have h1:=((h.inn a ha).2 r hr).2 p hne hp
  have h2:=h.cv q hq
  rw[e,h1] at h2
  exact hc h2.symm⟩⟩⟩
theorem Arr.good(h:Arr E w B col c v l)(hc:c≠0)(hn:∀a∈news,E.ok a∧∀r∈E.inn a,Row w r.1 r.2∧ColR col 0 r.1 r.2):∀q∈news,E.ok q∧∀r∈E.inn q,Row w r.1 r.2∧Apt v r:=
 fun a ha=>⟨(hn a ha).1,fun r hr=>⟨((hn a ha).2 r hr).1,fun p q hne hp hq e=>by
  have h1:=((hn a ha).2 r hr).2 p hne hp
  have h2:=h.cv q hq
  rw[e,h1] at h2
  exact hc h2.symm⟩⟩
theorem Arr.slice(h:Arr E w B col c v l):∃A n,v=.slice A l.length n∧l.length≤n∧n≤maxLen∧Row w A (E.cells l):=h.own.slice
theorem Arr.row{A:Option Addr}{n m:Nat}(h:Arr E w B col c (.slice A n m) l):Row w A (E.cells l):=h.own.row
theorem Arr.nil(w:World)(B:Nat)(col:Nat→Nat)(c:Nat):Arr E w B col c Zq []:=⟨Elem.Own.nil _ _,fun q hq=>by simp[Value.ownBlock] at hq,fun a ha=>by cases ha⟩
def qbf(col:Nat→Nat)(n n' c:Nat):Nat→Nat:=fun k=>if k<n then col k else if k<n' then c else 0
theorem qhK{n n' k:Nat}(h:k<n):qbf col n n' c k=col k:=by unfold qbf;rw[if_pos h]
theorem qpq{n n':Nat}(h:n≤n'):∀k,n'≤k→qbf col n n' c k=0:=fun k hk=>by unfold qbf;rw[if_neg (by omega),if_neg (by omega)]
theorem qlW{n n' k:Nat}(h:n≤k)(h':k<n'):qbf col n n' c k=c:=by unfold qbf;rw[if_neg (by omega),if_pos h']
theorem Arr.pushed(h:Arr E w B col c v l)(hn:∀a∈news,E.ok a∧∀r∈E.inn a,Row w r.1 r.2∧ColR col 0 r.1 r.2)(ho:E.OB w' B v' (l++news))(g:Grew w w' v)(hs:Stems w v v')(hB:B≤w.heap.size) :
  Stp B [c] col w (qbf col w.heap.size w'.heap.size c) w'∧Arr E w' B (qbf col w.heap.size w'.heap.size c) c v' (l++news)∧∀k,w'.heap.size≤k→qbf col w.heap.size w'.heap.size c k=0:=by
 have s:Stp B [c] col w (qbf col w.heap.size w'.heap.size c) w':=(Stp.grew g hB (fun k hk=>(h.own.lt k hk).1) h.cv (by simp)).recol (fun k hk=>qhK hk)
 refine⟨s,⟨ho.1,fun q hq=>?_,fun a ha=>⟨(ho.2 a ha).1,fun r hr=>⟨((ho.2 a ha).2 r hr).1,?_⟩⟩⟩,qpq g.size⟩
 ·have hlt:=ho.1.lt q hq
  rcases hs with hs|⟨k,hk,hle⟩
  ·rw[hs] at hq
   rw[qhK (h.own.lt q hq).2];exact h.cv q hq
  ·rw[hk] at hq;cases hq
   exact qlW hle hlt.2
 ·rcases List.mem_append.1 ha with ha|ha
  ·exact s.colR ((h.inn a ha).2 r hr).1 ((h.inn a ha).2 r hr).2
  ·exact s.colR ((hn a ha).2 r hr).1 ((hn a ha).2 r hr).2
def qfS(w:World)(g:Nat):Nat→List Value→World
 | _,[]=>w
 | o,u::us=>qfS (w.setCell ⟨g,o,none⟩ u) g (o+1) us
def qgT(l:List Value):Nat→List Value→List Value
 | _,[]=>l
 | o,u::us=>qgT (l.set o u) (o+1) us
def qmd(l:Array Value):Nat→List Value→Array Value
 | _,[]=>l
 | o,u::us=>qmd (l.setIfInBounds o u) (o+1) us
theorem qhL(g:Nat):∀(us:List Value) (o:Nat) (w:World),Wrote g w (qfS w g o us)
 | [],_,_=>Wrote.refl _ _
 | u::us,o,w=>(Wrote.set g o w u).trans (qhL g us (o+1) _)
theorem qiV{g:Nat}{t:TypeId}:∀(us:List Value) (o:Nat) (w:World) (cur:Array Value),w.heap[g]?=some (.cells cur t (0,0))→(qfS w g o us).heap[g]?=some (.cells (qmd cur o us) t (0,0))
 | [],_,_,_,h=>h
 | _::us,o,_,_,h=>qiV us (o+1) _ _ (heap_setCell_same _ _ _ _ _ _ h)
theorem qfw:∀(us:List Value) (o n:Nat) (cur:Array Value),(qmd cur o us).toList.take n=qgT (cur.toList.take n) o us∧(qmd cur o us).size=cur.size
 | [],_,_,_=>⟨rfl,rfl⟩
 | u::us,o,n,cur=>by
  obtain⟨h1,h2⟩:=qfw us (o+1) n (cur.setIfInBounds o u)
  unfold qmd qgT
  rw[h1,h2]
  refine⟨?_,by simp⟩
  rw[Array.toList_setIfInBounds,List.take_set]
theorem qfB(x:Value):∀(us:List Value) (o:Nat) (l:List Value),qgT (x::l) (o+1) us=x::qgT l o us
 | [],_,_=>rfl
 | u::us,o,l=>by unfold qgT;rw[List.set_cons_succ,qfB x us (o+1)]
theorem qjd:∀(xs us l:List Value) (o:Nat),qgT (xs++l) (xs.length+o) us=xs++qgT l o us
 | [],us,l,o=>by simp
 | x::xs,us,l,o=>by
  rw[List.cons_append,List.length_cons,show xs.length+1+o=xs.length+o+1 by omega,qfB,qjd xs us l o];rfl
theorem qjC:∀(us xs l:List Value),xs.length=us.length→qgT (xs++l) 0 us=us++l
 | [],xs,l,h=>by have:xs=[]:=List.eq_nil_of_length_eq_zero h;subst this;rfl
 | u::us,[],l,h=>by simp at h
 | u::us,x::xs,l,h=>by
  unfold qgT
  rw[List.cons_append,List.set_cons_zero,qfB,qjC us xs l (by simpa using h)];rfl
theorem Elem.cells_put(E:Elem α):∀(l:List α) (i:Nat) (a:α),i<l.length→E.cells (l.set i a)=qgT (E.cells l) (i*E.k) (E.f a)
 | [],_,_,h=>by simp at h
 | x::l,0,a,_=>by
  rw[List.set_cons_zero,E.cells_cons,E.cells_cons,Nat.zero_mul,qjC _ _ _ (by rw[E.len,E.len])]
 | x::l,i+1,a,h=>by
  rw[List.set_cons_succ,E.cells_cons,E.cells_cons,E.cells_put l i a (by simpa using h),Nat.succ_mul]
  have:=qjd (E.f x) (E.f a) (E.cells l) (i*E.k)
  rw[E.len] at this
  rw[Nat.add_comm (i*E.k) E.k,this]
theorem Arr.addr(h:Arr E w B col c v l)(hl:0<l.length):∃g n,v=.slice (some (Pq g 0)) l.length n∧l.length≤n∧n≤maxLen∧B≤g∧g<w.heap.size∧col g=c∧∀i,w.frozen? (Pq g i)=false:=by
 have h':=h.own
 have hcv:=h.cv
 obtain⟨_,h2⟩:=h.own
 rcases h2 with ⟨_,h3⟩|⟨g,cap,cur,hv,h3,hh,h4,h5,h6,h7⟩
 ·omega
 ·subst hv
  exact⟨g,cap,rfl,h4,h5,h3,(h'.lt g rfl).2,hcv g rfl,fun i=>(show BIs w g cur _ from hh).free i⟩
theorem Arr.cell{g n i:Nat}(h:Arr E w B col c (.slice (some (Pq g 0)) l.length n) l){a:α}(ha:l[i]?=some a){j:Nat}{u:Value}(hu:(E.f a)[j]?=some u):w.cell? (Pq g (i*E.k+j))=some u:=by
 have hj:j<E.k:=by have:=(List.getElem?_eq_some_iff.1 hu).1;rwa [E.len] at this
 have hi:=(List.getElem?_eq_some_iff.1 ha).1
 have hc:=E.cells_at ha j hj
 rw[hu] at hc
 obtain⟨b,off,h1,h2,h3⟩:=h.row (fun e=>by rw[e] at hc;simp at hc)
 cases h1
 have:=h3 _ u hc
 rwa [Nat.zero_add] at this
theorem Arr.put{g n i:Nat}(h:Arr E w B col c (.slice (some (Pq g 0)) l.length n) l)(hi:i<l.length){a:α}(ha:E.ok a∧∀r∈E.inn a,Row w r.1 r.2∧ColR col 0 r.1 r.2)(hB:B≤w.heap.size)(hc:c≠0) :
  Stp B [c] col w col (qfS w g (i*E.k) (E.f a))∧Arr E (qfS w g (i*E.k) (E.f a)) B col c (.slice (some (Pq g 0)) (l.set i a).length n) (l.set i a):=by
 have hg:col g=c:=h.cv g rfl
 have hBg:=(h.own.lt g rfl).1
 have s:Stp B [c] col w col (qfS w g (i*E.k) (E.f a)):=Stp.wrote (qhL g _ _ _) hBg hB (by rw[hg];simp)
 refine⟨s,⟨?_,h.cv,fun x hx=>?_⟩⟩
 ·obtain⟨h1,h2⟩:=h.own
  refine⟨by rw[E.cells_len],.inr ?_⟩
  rcases h2 with ⟨h2,_⟩|⟨g',cap,cur,hv,h3,hh,h4,h5,h6,h7⟩
  ·cases h2
  ·simp only[Value.slice.injEq,Option.some.injEq,Addr.mk.injEq,and_true,true_and] at hv
   obtain⟨rfl,rfl⟩:=hv
   refine⟨g,n,qmd cur (i*E.k) (E.f a),by rw[List.length_set],h3,qiV _ _ _ _ hh,by rw[List.length_set];exact h4,h5,by rw[(qfw _ _ 0 _).2];exact h6,?_⟩
   rw[List.length_set,(qfw _ _ _ _).1,h7,E.cells_put l i a hi]
 ·have hr:∀r:Option Addr×List Value,(Row w r.1 r.2∧ColR col 0 r.1 r.2)→Row (qfS w g (i*E.k) (E.f a)) r.1 r.2∧ColR col 0 r.1 r.2:=fun r hr=>⟨s.row hr.1 hr.2 (by simp;exact fun e=>hc e.symm),hr.2⟩
  rcases List.mem_or_eq_of_mem_set hx with hx|rfl
  ·exact⟨(h.inn x hx).1,fun r hr'=>hr r ((h.inn x hx).2 r hr')⟩
  ·exact⟨ha.1,fun r hr'=>hr r (ha.2 r hr')⟩
end
structure TlM where
 A:Option Addr
 c:Nat
 l:List Ent
structure SnM where
 A:Option Addr
 c:Nat
 l:List (List UInt8)
structure FyM where
 fr:Int
 to_:Int
 A:Option Addr
 c:Nat
 bs:List UInt8
def FyM.v(f:FyM):Fly:=(f.fr,f.to_,f.bs)
theorem qtr{a b:Value}(h1:a.oneCell'=true)(h2:b.oneCell'=true):∀u∈[a,b],u.oneCell'=true:=by
 intro u hu;simp only[List.mem_cons,List.not_mem_nil,or_false] at hu;rcases hu with rfl|rfl<;>assumption
def qb8:Elem BM where
 f b:=b.cells.toList
 k:=9
 ty:=28
 st:=53
 z:=.agg #[.int .i64 0,.slice none 0 0,.int .i64 0,.slice none 0 0,.int .i64 0,.int .i64 0,.slice none 0 0,.slice none 0 0,.slice none 0 0]
 bytes:=152
 inn b:=(b.Av,qas.cells b.vs)::(b.Al,qaz.cells b.log)::(b.Ap,qda.cells b.pend)::(b.Am,qao.cells b.marks)::(b.Af,flE.cells b.fls)::(b.vs.map (fun v=>(v.A,qam v.xs))++b.fls.map (fun f=>(f.A,qaz.cells f.log)))
 ok b:=b.Fits∧(∀v∈b.vs,qas.ok v)∧(∀f∈b.fls,flE.ok f)
 len _:=rfl
 one a:=by intro u hu;simp only[List.mem_cons,List.not_mem_nil,or_false] at hu;rcases hu with rfl|rfl|rfl|rfl|rfl|rfl|rfl|rfl|rfl<;>rfl
 pos:=by decide
 und:=Tryz.underlying53
 info:=by kernel_rfl
 zk:=rfl
 small:=by decide
def qcX:Elem Bool where
 f x:=[.bool x]
 k:=1
 ty:=4
 st:=54
 z:=.bool false
 bytes:=1
 inn _:=[]
 ok _:=True
 len _:=rfl
 one a:=by intro u hu;simp only[List.mem_cons,List.not_mem_nil,or_false] at hu;rcases hu with rfl;rfl
 pos:=by decide
 und:=Tryz.underlying54
 info:=by kernel_rfl
 zk:=rfl
 small:=by decide
def tlE:Elem TlM where
 f t:=[.slice t.A t.l.length t.c]
 k:=1
 ty:=23
 st:=55
 z:=.slice none 0 0
 bytes:=24
 inn _:=[]
 ok _:=True
 len _:=rfl
 one a:=by intro u hu;simp only[List.mem_cons,List.not_mem_nil,or_false] at hu;rcases hu with rfl;rfl
 pos:=by decide
 und:=Tryz.underlying55
 info:=by kernel_rfl
 zk:=rfl
 small:=by decide
def snE:Elem SnM where
 f t:=[.slice t.A t.l.length t.c]
 k:=1
 ty:=24
 st:=56
 z:=.slice none 0 0
 bytes:=24
 inn _:=[]
 ok _:=True
 len _:=rfl
 one a:=by intro u hu;simp only[List.mem_cons,List.not_mem_nil,or_false] at hu;rcases hu with rfl;rfl
 pos:=by decide
 und:=Tryz.underlying56
 info:=by kernel_rfl
 zk:=rfl
 small:=by decide
def qgj:Elem FyM where
 f v:=[.int .i64 v.fr,.int .i64 v.to_,.slice v.A v.bs.length v.c]
 k:=3
 ty:=137
 st:=57
 z:=.agg #[.int .i64 0,.int .i64 0,.slice none 0 0]
 bytes:=40
 inn v:=[(v.A,qad v.bs)]
 ok v:=v.bs.length≤v.c∧v.c≤maxLen
 len _:=rfl
 one a:=by intro u hu;simp only[List.mem_cons,List.not_mem_nil,or_false] at hu;rcases hu with rfl|rfl|rfl<;>rfl
 pos:=by decide
 und:=Tryz.underlying57
 info:=by kernel_rfl
 zk:=rfl
 small:=by decide
theorem qn1{w:World}{b:BM}(h:qb8.ok b∧∀r∈qb8.inn b,Row w r.1 r.2):b.Reads w:=by
 obtain⟨⟨h1,h2,h3⟩,h4⟩:=h
 simp only[qb8,List.mem_cons,List.mem_append,List.mem_map] at h4
 exact⟨⟨h4 _ (.inl rfl),fun v hv=>⟨h2 v hv,fun r hr=>by simp only[qas,List.mem_cons,List.not_mem_nil,or_false] at hr;subst hr;exact h4 _ (.inr (.inr (.inr (.inr (.inr (.inl ⟨v,hv,rfl⟩))))))⟩⟩,h4 _ (.inr (.inl rfl)),h4 _ (.inr (.inr (.inl rfl))),h4 _ (.inr (.inr (.inr (.inl rfl)))),
  ⟨h4 _ (.inr (.inr (.inr (.inr (.inl rfl))))),fun f hf=>⟨h3 f hf,fun r hr=>by simp only[flE,List.mem_cons,List.not_mem_nil,or_false] at hr;subst hr;exact h4 _ (.inr (.inr (.inr (.inr (.inr (.inr ⟨f,hf,rfl⟩))))))⟩⟩⟩
theorem qly{w:World}{b:BM}(h:b.Reads w)(hf:b.Fits):qb8.ok b∧∀r∈qb8.inn b,Row w r.1 r.2:=by
 refine⟨⟨hf,fun v hv=>(h.vs.2 v hv).1,fun f hf=>(h.fls.2 f hf).1⟩,fun r hr=>?_⟩
 simp only[qb8,List.mem_cons,List.mem_append,List.mem_map] at hr
 rcases hr with rfl|rfl|rfl|rfl|rfl|⟨v,hv,rfl⟩|⟨f,hf,rfl⟩
 ·exact h.vs.1
 ·exact h.log
 ·exact h.pend
 ·exact h.marks
 ·exact h.fls.1
 ·exact(h.vs.2 v hv).2 _ (by simp[qas])
 ·exact(h.fls.2 f hf).2 _ (by simp[flE])
theorem qsd{b:BM}{n:Nat}(h:b.New n):∀r∈qb8.inn b,NewAt n r.1 r.2:=fun r hr=>by
 simp only[qb8,List.mem_cons,List.mem_append,List.mem_map] at hr
 rcases hr with rfl|rfl|rfl|rfl|rfl|⟨v,hv,rfl⟩|⟨f,hf,rfl⟩
 ·exact h.vs
 ·exact h.log
 ·exact h.pend
 ·exact h.marks
 ·exact h.fls
 ·exact h.vi v hv
 ·exact h.fi f hf
theorem NewAt.col{n:Nat}{A:Option Addr}{xs:List Value}{col:Nat→Nat}(h:NewAt n A xs)(hz:∀k,n≤k→col k=0):ColR col 0 A xs:=fun p hx hp=>hz _ (h p hx hp)
theorem qgA{w:World}{b:BM}{n:Nat}{col:Nat→Nat}(h:b.Reads w)(hf:b.Fits)(hn:b.New n)(hz:∀k,n≤k→col k=0):qb8.ok b∧∀r∈qb8.inn b,Row w r.1 r.2∧ColR col 0 r.1 r.2:=
 ⟨(qly h hf).1,fun r hr=>⟨(qly h hf).2 r hr,(qsd hn r hr).col hz⟩⟩
structure WM where
 Av:Option Addr
 cv:Nat
 vs:List VwM
 Am:Option Addr
 cm:Nat
 mem:List BM
 Ad:Option Addr
 cd:Nat
 down:List Bool
 At:Option Addr
 ct:Nat
 told:List TlM
 As:Option Addr
 cs:Nat
 sent:List SnM
 Af:Option Addr
 cf:Nat
 fly:List FyM
abbrev WM.cells(m:WM):Array Value:=#[.slice m.Av m.vs.length m.cv,.slice m.Am m.mem.length m.cm,.slice m.Ad m.down.length m.cd,.slice m.At m.told.length m.ct,.slice m.As m.sent.length m.cs,.slice m.Af m.fly.length m.cf]
def WM.wd(m:WM):Wd:=⟨vws m.vs,m.mem.map BM.st,m.down,m.told.map TlM.l,m.sent.map SnM.l,m.fly.map FyM.v⟩
def ToldI(w:World)(B:Nat)(col:Nat→Nat)(l:List TlM):Prop:=∀i t,l[i]?=some t→qaz.Own w B (.slice t.A t.l.length t.c) t.l∧ColV col (10+2*i) (.slice t.A t.l.length t.c)
def SentI(w:World)(B:Nat)(col:Nat→Nat)(l:List SnM):Prop:=∀i t,l[i]?=some t→qda.Own w B (.slice t.A t.l.length t.c) t.l∧ColV col (11+2*i) (.slice t.A t.l.length t.c)
structure WS(w:World)(B:Nat)(col:Nat→Nat)(p:Nat)(m:WM):Prop where
 box:BIs w p m.cells 59
 pc:col p=1
 bp:B≤p
 z:∀k,w.heap.size≤k→col k=0
 vs:Arr qas w B col 2 (.slice m.Av m.vs.length m.cv) m.vs
 mem:Arr qb8 w B col 3 (.slice m.Am m.mem.length m.cm) m.mem
 down:Arr qcX w B col 4 (.slice m.Ad m.down.length m.cd) m.down
 told:Arr tlE w B col 5 (.slice m.At m.told.length m.ct) m.told
 sent:Arr snE w B col 6 (.slice m.As m.sent.length m.cs) m.sent
 fly:Arr qgj w B col 7 (.slice m.Af m.fly.length m.cf) m.fly
 ti:ToldI w B col m.told
 si:SentI w B col m.sent
section
variable {w w':World} {B p:Nat} {col col':Nat→Nat} {cs:List Nat} {m:WM}
theorem ToldI.keep{l:List TlM}(h:ToldI w B col l)(s:Stp B cs col w col' w')(hc:∀c∈cs,c<10):ToldI w' B col' l:=fun i t ht=>
 ⟨s.own (h i t ht).1 (h i t ht).2 (fun hm=>by have:=hc _ hm;omega),s.colV (h i t ht).1 (h i t ht).2⟩
theorem SentI.keep{l:List SnM}(h:SentI w B col l)(s:Stp B cs col w col' w')(hc:∀c∈cs,c<10):SentI w' B col' l:=fun i t ht=>
 ⟨s.own (h i t ht).1 (h i t ht).2 (fun hm=>by have:=hc _ hm;omega),s.colV (h i t ht).1 (h i t ht).2⟩
theorem WS.lt(h:WS w B col p m):p<w.heap.size:=h.box.lt
theorem WS.Bsz(h:WS w B col p m):B≤w.heap.size:=Nat.le_trans h.bp (Nat.le_of_lt h.lt)
theorem WS.ext(h:WS w B col p m)(e:Ext w w'):WS w' B col p m:=by
 have s:Stp B [] col w col w':=Stp.ext' h.Bsz e
 exact⟨s.bis h.box (by simp),h.pc,h.bp,fun k hk=>h.z k (Nat.le_trans e.size hk),h.vs.keep s (by simp) (by simp),h.mem.keep s (by simp) (by simp),h.down.keep s (by simp) (by simp),h.told.keep s (by simp) (by simp),h.sent.keep s (by simp) (by simp),h.fly.keep s (by simp) (by simp),h.ti.keep s (by simp),h.si.keep s (by simp)⟩
theorem WS.reads(h:WS w B col p m){i:Nat}{b:BM}(hb:m.mem[i]?=some b):b.Reads w∧b.Fits:=
 have h1:=h.mem.inn b (List.mem_of_getElem? hb)
 ⟨qn1 ⟨h1.1,fun r hr=>(h1.2 r hr).1⟩,h1.1.1⟩
theorem qaB(h:WS w B col p m):w.cell? (Pq p 0)=some (.slice m.Av m.vs.length m.cv)∧w.cell? (Pq p 1)=some (.slice m.Am m.mem.length m.cm)∧w.cell? (Pq p 2)=some (.slice m.Ad m.down.length m.cd)∧w.cell? (Pq p 3)=some (.slice m.At m.told.length m.ct)∧w.cell? (Pq p 4)=some (.slice m.As m.sent.length m.cs)∧w.cell? (Pq p 5)=some (.slice m.Af m.fly.length m.cf):=
 ⟨h.box.cell 0,h.box.cell 1,h.box.cell 2,h.box.cell 3,h.box.cell 4,h.box.cell 5⟩
end
def qjK(B p:Nat)(w:World)(v:Value)(r:Wd)(en:Ending)(w':World):Prop:=∃m col,en=.returned v∧WS w' B col p m∧m.wd=r∧Below B w w'
theorem qr8{self:Int}{l:List St}{k:Nat}{s:St}(h:l[k]?=some s)(he:s.self=self):qmn self (l.drop k) k=(k:Int):=by
 obtain⟨hk,rfl⟩:=List.getElem?_eq_some_iff.1 h
 rw[List.drop_eq_getElem_cons hk,qmn,if_pos he]
theorem qpS{self:Int}{l:List St}{k:Nat}{s:St}(h:l[k]?=some s)(he:¬s.self=self):qmn self (l.drop k) k=qmn self (l.drop (k+1)) (k+1):=by
 obtain⟨hk,rfl⟩:=List.getElem?_eq_some_iff.1 h
 rw[List.drop_eq_getElem_cons hk,qmn,if_neg he]
theorem qrH{self:Int}{l:List St}{k:Nat}(h:¬k<l.length):qmn self (l.drop k) k = -1:=by
 rw[List.drop_of_length_le (by omega)];rfl
theorem qf3{w:World}{B c:Nat}{col:Nat→Nat}{A:Option Addr}{n:Nat}{l:List BM}{i:Nat}(h:Arr qb8 w B col c (.slice A l.length n) l)(hi:i<l.length):∃g b,A=some (Pq g 0)∧B≤g∧g<w.heap.size∧Hid (col g=c)∧l[i]?=some b∧w.cell? (Pq g (i*9))=some (Jq b.self)∧w.cell? (Pq g (i*9+1))=some (.slice b.Av b.vs.length b.cv)∧w.cell? (Pq g (i*9+2))=some (Jq b.base)∧w.cell? (Pq g (i*9+3))=some (.slice b.Al b.log.length b.cl)∧w.cell? (Pq g (i*9+4))=some (Jq b.stable)∧w.cell? (Pq g (i*9+5))=some (Jq b.sent)∧w.cell? (Pq g (i*9+6))=some (.slice b.Ap b.pend.length b.cp)∧w.cell? (Pq g (i*9+7))=some (.slice b.Am b.marks.length b.cm)∧w.cell? (Pq g (i*9+8))=some (.slice b.Af b.fls.length b.cf):=by
 obtain⟨g,m,hv,_,_,h3,h4,h5,_⟩:=h.addr (by omega)
 simp only[Value.slice.injEq,true_and] at hv
 obtain⟨rfl,rfl⟩:=hv
 have hb:=List.getElem?_eq_getElem hi
 exact⟨g,_,rfl,h3,h4,hJ h5,hb,h.cell hb (j:=0) rfl,h.cell hb (j:=1) rfl,h.cell hb (j:=2) rfl,h.cell hb (j:=3) rfl,h.cell hb (j:=4) rfl,h.cell hb (j:=5) rfl,h.cell hb (j:=6) rfl,h.cell hb (j:=7) rfl,h.cell hb (j:=8) rfl⟩
theorem qcs(m:WM)(B:Nat)(col:Nat→Nat)(p:Nat)(self:Int)(w:World)(h:WS w B col p m)(hn:m.mem.length≤1000000) :
  Calls Tryz.prog 33 #[.pointer (some (Pq p 0)),Jq self] w fun en w'=>en=.returned (Jq (qhH m.wd self))∧w=w':=by
 have H:=hJ h
 have q1:=(qaB h).2.1
 have HW:Hid (qhH m.wd self=qmn self (m.mem.map BM.st) 0):=hJ rfl
 clear h;go_enter Tryz.func33,Tryz.ntmps33
 go_wp2;go_loop [5] (fun i=>∃k:Nat,k≤m.mem.length∧i=Jq k∧Hid (qhH m.wd self=qmn self ((m.mem.map BM.st).drop k) k)) (fun i=>m.mem.length - (intOf i).toNat)
 case atStart=>exact⟨0,Nat.zero_le _,rfl,HW⟩
 case round=>
  obtain⟨k,hk,rfl,HI⟩:=hrel
  by_cases hlt:k<m.mem.length
  ·obtain⟨g,b,hA,_,hg,_,hb,c0,_⟩:=qf3 H.out.mem hlt
   rw[hA] at q1
   have HB:Hid ((m.mem.map BM.st)[k]?=some b.st):=hJ (by rw[List.getElem?_map,hb];rfl)
   clear hb;cases he:b.self == self
   ·have hne:¬b.self=self:=by simpa using he
    have HE:=hJ (qpS HB.out hne)
    clear hne;go_wp2;go_round
    case rel=>exact⟨k+1,by omega,by go_num,hJ (HI.out.trans HE.out)⟩
    case measure=>simp[intOf];omega
   ·have hes:b.st.self=self:=(show b.self=self by simpa using he)
    have HE:=hJ (qr8 HB.out hes)
    clear hes;go_wp2;go_ret
    exact⟨by rw[HI.out,HE.out];rfl,rfl⟩
  ·have HE:=hJ (qrH (self:=self) (l:=m.mem.map BM.st) (k:=k) (by simpa using hlt))
   go_wp2;go_ret
   exact⟨by rw[HI.out,HE.out];rfl,rfl⟩
theorem qqo {P : Prop} (h : P := by
 rcases Nat.lt_or_ge i l.length with hi|hi
 ·rw[List.getElem?_append_left hi] at ht;exact h i t ht
 ·rw[List.getElem?_append_right hi] at ht
  have:=List.mem_of_getElem? ht
  simp only[List.mem_cons,List.not_mem_nil,or_false] at this
  subst this;subst hb
  exact⟨Elem.Own.nil _ _,fun q hq=>by simp[Value.ownBlock] at hq⟩) : P := h
theorem qqO {P : Prop} (h : P := by
 have:=s.bis h.box (by rw[h.pc];decide)
 unfold WM.cells at this⊢
 rw[List.length_set];exact this) : P := h
theorem ToldI.snoc{w:World}{B:Nat}{col:Nat→Nat}{l:List TlM}{b:TlM}(h:ToldI w B col l)(hb:b=⟨none,0,[]⟩):ToldI w B col (l++[b]):=fun i t ht=>by
 exact qqo
theorem SentI.snoc{w:World}{B:Nat}{col:Nat→Nat}{l:List SnM}{b:SnM}(h:SentI w B col l)(hb:b=⟨none,0,[]⟩):SentI w B col (l++[b]):=fun i t ht=>by
 exact qqo
section
variable {u w':World} {B p:Nat} {col:Nat→Nat} {m:WM}
theorem WS.push_vs{v:Value}{b:VwM}(h:WS u B col p m)(hb:qas.ok b∧∀r∈qas.inn b,Row u r.1 r.2∧ColR col 0 r.1 r.2){l':List VwM}(hl:l'=m.vs++[b])(ho:qas.OB w' B v l')(g:Grew u w' (.slice m.Av m.vs.length m.cv))(hs:Stems u (.slice m.Av m.vs.length m.cv) v) :
  ∃A c col',v=.slice A l'.length c∧BIs w' p m.cells 59∧WS (w'.setCell (Pq p 0) v) B col' p {m with Av:=A,cv:=c,vs:=l'}∧Stp B [1,2] col u col' (w'.setCell (Pq p 0) v):=by
 subst hl
 obtain⟨s,a,z⟩:=h.vs.pushed (news:=[b]) (fun x hx=>by simp only[List.mem_cons,List.not_mem_nil,or_false] at hx;subst hx;exact hb) ho g hs h.Bsz
 obtain⟨A,c,rfl,_⟩:=a.slice
 have bx:=s.bis h.box (by rw[h.pc];decide)
 have pc':=(s.hue p h.lt).trans h.pc
 have s2:Stp B [1] (qbf col u.heap.size w'.heap.size 2) w' (qbf col u.heap.size w'.heap.size 2) (w'.setCell (Pq p 0) (.slice A (m.vs++[b]).length c)):=Stp.wrote (Wrote.set _ _ _ _) h.bp (Nat.le_trans h.Bsz s.size) (by rw[pc'];simp)
 have s12:Stp B [1,2] col u (qbf col u.heap.size w'.heap.size 2) (w'.setCell (Pq p 0) (.slice A (m.vs++[b]).length c)):=(s.mono (by simp)).trans (s2.mono (by simp))
 exact⟨A,c,_,rfl,bx,⟨bx.set 0 _,pc',h.bp,fun k hk=>z k (Nat.le_trans s2.size hk),a.keep s2 (by decide) (by decide),h.mem.keep s12 (by decide) (by decide),h.down.keep s12 (by decide) (by decide),h.told.keep s12 (by decide) (by decide),h.sent.keep s12 (by decide) (by decide),h.fly.keep s12 (by decide) (by decide),h.ti.keep s12 (by decide),h.si.keep s12 (by decide)⟩,s12⟩
theorem WS.push_mem{v:Value}{b:BM}(h:WS u B col p m)(hb:qb8.ok b∧∀r∈qb8.inn b,Row u r.1 r.2∧ColR col 0 r.1 r.2){l':List BM}(hl:l'=m.mem++[b])(ho:qb8.OB w' B v l')(g:Grew u w' (.slice m.Am m.mem.length m.cm))(hs:Stems u (.slice m.Am m.mem.length m.cm) v) :
  ∃A c col',v=.slice A l'.length c∧BIs w' p m.cells 59∧WS (w'.setCell (Pq p 1) v) B col' p {m with Am:=A,cm:=c,mem:=l'}∧Stp B [1,3] col u col' (w'.setCell (Pq p 1) v):=by
 subst hl
 obtain⟨s,a,z⟩:=h.mem.pushed (news:=[b]) (fun x hx=>by simp only[List.mem_cons,List.not_mem_nil,or_false] at hx;subst hx;exact hb) ho g hs h.Bsz
 obtain⟨A,c,rfl,_⟩:=a.slice
 have bx:=s.bis h.box (by rw[h.pc];decide)
 have pc':=(s.hue p h.lt).trans h.pc
 have s2:Stp B [1] (qbf col u.heap.size w'.heap.size 3) w' (qbf col u.heap.size w'.heap.size 3) (w'.setCell (Pq p 1) (.slice A (m.mem++[b]).length c)):=Stp.wrote (Wrote.set _ _ _ _) h.bp (Nat.le_trans h.Bsz s.size) (by rw[pc'];simp)
 have s12:Stp B [1,3] col u (qbf col u.heap.size w'.heap.size 3) (w'.setCell (Pq p 1) (.slice A (m.mem++[b]).length c)):=(s.mono (by simp)).trans (s2.mono (by simp))
 exact⟨A,c,_,rfl,bx,⟨bx.set 1 _,pc',h.bp,fun k hk=>z k (Nat.le_trans s2.size hk),h.vs.keep s12 (by decide) (by decide),a.keep s2 (by decide) (by decide),h.down.keep s12 (by decide) (by decide),h.told.keep s12 (by decide) (by decide),h.sent.keep s12 (by decide) (by decide),h.fly.keep s12 (by decide) (by decide),h.ti.keep s12 (by decide),h.si.keep s12 (by decide)⟩,s12⟩
theorem WS.push_down{v:Value}{b:Bool}(h:WS u B col p m)(hb:qcX.ok b∧∀r∈qcX.inn b,Row u r.1 r.2∧ColR col 0 r.1 r.2){l':List Bool}(hl:l'=m.down++[b])(ho:qcX.OB w' B v l')(g:Grew u w' (.slice m.Ad m.down.length m.cd))(hs:Stems u (.slice m.Ad m.down.length m.cd) v) :
  ∃A c col',v=.slice A l'.length c∧BIs w' p m.cells 59∧WS (w'.setCell (Pq p 2) v) B col' p {m with Ad:=A,cd:=c,down:=l'}∧Stp B [1,4] col u col' (w'.setCell (Pq p 2) v):=by
 subst hl
 obtain⟨s,a,z⟩:=h.down.pushed (news:=[b]) (fun x hx=>by simp only[List.mem_cons,List.not_mem_nil,or_false] at hx;subst hx;exact hb) ho g hs h.Bsz
 obtain⟨A,c,rfl,_⟩:=a.slice
 have bx:=s.bis h.box (by rw[h.pc];decide)
 have pc':=(s.hue p h.lt).trans h.pc
 have s2:Stp B [1] (qbf col u.heap.size w'.heap.size 4) w' (qbf col u.heap.size w'.heap.size 4) (w'.setCell (Pq p 2) (.slice A (m.down++[b]).length c)):=Stp.wrote (Wrote.set _ _ _ _) h.bp (Nat.le_trans h.Bsz s.size) (by rw[pc'];simp)
 have s12:Stp B [1,4] col u (qbf col u.heap.size w'.heap.size 4) (w'.setCell (Pq p 2) (.slice A (m.down++[b]).length c)):=(s.mono (by simp)).trans (s2.mono (by simp))
 exact⟨A,c,_,rfl,bx,⟨bx.set 2 _,pc',h.bp,fun k hk=>z k (Nat.le_trans s2.size hk),h.vs.keep s12 (by decide) (by decide),h.mem.keep s12 (by decide) (by decide),a.keep s2 (by decide) (by decide),h.told.keep s12 (by decide) (by decide),h.sent.keep s12 (by decide) (by decide),h.fly.keep s12 (by decide) (by decide),h.ti.keep s12 (by decide),h.si.keep s12 (by decide)⟩,s12⟩
theorem WS.push_told{v:Value}{b:TlM}(h:WS u B col p m)(hb:tlE.ok b∧∀r∈tlE.inn b,Row u r.1 r.2∧ColR col 0 r.1 r.2)(hn:b=⟨none,0,[]⟩){l':List TlM}(hl:l'=m.told++[b])(ho:tlE.OB w' B v l')(g:Grew u w' (.slice m.At m.told.length m.ct))(hs:Stems u (.slice m.At m.told.length m.ct) v) :
  ∃A c col',v=.slice A l'.length c∧BIs w' p m.cells 59∧WS (w'.setCell (Pq p 3) v) B col' p {m with At:=A,ct:=c,told:=l'}∧Stp B [1,5] col u col' (w'.setCell (Pq p 3) v):=by
 subst hl
 obtain⟨s,a,z⟩:=h.told.pushed (news:=[b]) (fun x hx=>by simp only[List.mem_cons,List.not_mem_nil,or_false] at hx;subst hx;exact hb) ho g hs h.Bsz
 obtain⟨A,c,rfl,_⟩:=a.slice
 have bx:=s.bis h.box (by rw[h.pc];decide)
 have pc':=(s.hue p h.lt).trans h.pc
 have s2:Stp B [1] (qbf col u.heap.size w'.heap.size 5) w' (qbf col u.heap.size w'.heap.size 5) (w'.setCell (Pq p 3) (.slice A (m.told++[b]).length c)):=Stp.wrote (Wrote.set _ _ _ _) h.bp (Nat.le_trans h.Bsz s.size) (by rw[pc'];simp)
 have s12:Stp B [1,5] col u (qbf col u.heap.size w'.heap.size 5) (w'.setCell (Pq p 3) (.slice A (m.told++[b]).length c)):=(s.mono (by simp)).trans (s2.mono (by simp))
 exact⟨A,c,_,rfl,bx,⟨bx.set 3 _,pc',h.bp,fun k hk=>z k (Nat.le_trans s2.size hk),h.vs.keep s12 (by decide) (by decide),h.mem.keep s12 (by decide) (by decide),h.down.keep s12 (by decide) (by decide),a.keep s2 (by decide) (by decide),h.sent.keep s12 (by decide) (by decide),h.fly.keep s12 (by decide) (by decide),ToldI.snoc (h.ti.keep s12 (by decide)) hn,h.si.keep s12 (by decide)⟩,s12⟩
theorem WS.push_sent{v:Value}{b:SnM}(h:WS u B col p m)(hb:snE.ok b∧∀r∈snE.inn b,Row u r.1 r.2∧ColR col 0 r.1 r.2)(hn:b=⟨none,0,[]⟩){l':List SnM}(hl:l'=m.sent++[b])(ho:snE.OB w' B v l')(g:Grew u w' (.slice m.As m.sent.length m.cs))(hs:Stems u (.slice m.As m.sent.length m.cs) v) :
  ∃A c col',v=.slice A l'.length c∧BIs w' p m.cells 59∧WS (w'.setCell (Pq p 4) v) B col' p {m with As:=A,cs:=c,sent:=l'}∧Stp B [1,6] col u col' (w'.setCell (Pq p 4) v):=by
 subst hl
 obtain⟨s,a,z⟩:=h.sent.pushed (news:=[b]) (fun x hx=>by simp only[List.mem_cons,List.not_mem_nil,or_false] at hx;subst hx;exact hb) ho g hs h.Bsz
 obtain⟨A,c,rfl,_⟩:=a.slice
 have bx:=s.bis h.box (by rw[h.pc];decide)
 have pc':=(s.hue p h.lt).trans h.pc
 have s2:Stp B [1] (qbf col u.heap.size w'.heap.size 6) w' (qbf col u.heap.size w'.heap.size 6) (w'.setCell (Pq p 4) (.slice A (m.sent++[b]).length c)):=Stp.wrote (Wrote.set _ _ _ _) h.bp (Nat.le_trans h.Bsz s.size) (by rw[pc'];simp)
 have s12:Stp B [1,6] col u (qbf col u.heap.size w'.heap.size 6) (w'.setCell (Pq p 4) (.slice A (m.sent++[b]).length c)):=(s.mono (by simp)).trans (s2.mono (by simp))
 exact⟨A,c,_,rfl,bx,⟨bx.set 4 _,pc',h.bp,fun k hk=>z k (Nat.le_trans s2.size hk),h.vs.keep s12 (by decide) (by decide),h.mem.keep s12 (by decide) (by decide),h.down.keep s12 (by decide) (by decide),h.told.keep s12 (by decide) (by decide),a.keep s2 (by decide) (by decide),h.fly.keep s12 (by decide) (by decide),h.ti.keep s12 (by decide),SentI.snoc (h.si.keep s12 (by decide)) hn⟩,s12⟩
theorem WS.push_fly{v:Value}{b:FyM}(h:WS u B col p m)(hb:qgj.ok b∧∀r∈qgj.inn b,Row u r.1 r.2∧ColR col 0 r.1 r.2){l':List FyM}(hl:l'=m.fly++[b])(ho:qgj.OB w' B v l')(g:Grew u w' (.slice m.Af m.fly.length m.cf))(hs:Stems u (.slice m.Af m.fly.length m.cf) v) :
  ∃A c col',v=.slice A l'.length c∧BIs w' p m.cells 59∧WS (w'.setCell (Pq p 5) v) B col' p {m with Af:=A,cf:=c,fly:=l'}∧Stp B [1,7] col u col' (w'.setCell (Pq p 5) v):=by
 subst hl
 obtain⟨s,a,z⟩:=h.fly.pushed (news:=[b]) (fun x hx=>by simp only[List.mem_cons,List.not_mem_nil,or_false] at hx;subst hx;exact hb) ho g hs h.Bsz
 obtain⟨A,c,rfl,_⟩:=a.slice
 have bx:=s.bis h.box (by rw[h.pc];decide)
 have pc':=(s.hue p h.lt).trans h.pc
 have s2:Stp B [1] (qbf col u.heap.size w'.heap.size 7) w' (qbf col u.heap.size w'.heap.size 7) (w'.setCell (Pq p 5) (.slice A (m.fly++[b]).length c)):=Stp.wrote (Wrote.set _ _ _ _) h.bp (Nat.le_trans h.Bsz s.size) (by rw[pc'];simp)
 have s12:Stp B [1,7] col u (qbf col u.heap.size w'.heap.size 7) (w'.setCell (Pq p 5) (.slice A (m.fly++[b]).length c)):=(s.mono (by simp)).trans (s2.mono (by simp))
 exact⟨A,c,_,rfl,bx,⟨bx.set 5 _,pc',h.bp,fun k hk=>z k (Nat.le_trans s2.size hk),h.vs.keep s12 (by decide) (by decide),h.mem.keep s12 (by decide) (by decide),h.down.keep s12 (by decide) (by decide),h.told.keep s12 (by decide) (by decide),h.sent.keep s12 (by decide) (by decide),a.keep s2 (by decide) (by decide),h.ti.keep s12 (by decide),h.si.keep s12 (by decide)⟩,s12⟩
theorem WS.put_mem{g i:Nat}{b:BM}(h:WS u B col p m)(hA:m.Am=some (Pq g 0))(hi:i<m.mem.length)(hb:qb8.ok b∧∀r∈qb8.inn b,Row u r.1 r.2∧ColR col 0 r.1 r.2) :
  WS (qfS u g (i*qb8.k) (qb8.f b)) B col p {m with mem:=m.mem.set i b}∧Stp B [3] col u col (qfS u g (i*qb8.k) (qb8.f b)):=by
 have hm:=h.mem
 rw[hA] at hm
 obtain⟨s,a⟩:=hm.put hi hb h.Bsz (by decide)
 refine⟨⟨?_,h.pc,h.bp,fun k hk=>h.z k (Nat.le_trans s.size hk),h.vs.keep s (by decide) (by decide),?_,h.down.keep s (by decide) (by decide),h.told.keep s (by decide) (by decide),h.sent.keep s (by decide) (by decide),h.fly.keep s (by decide) (by decide),h.ti.keep s (by decide),h.si.keep s (by decide)⟩,s⟩
 ·exact qqO
 ·rw[hA];exact a
theorem WS.put_down{g i:Nat}{b:Bool}(h:WS u B col p m)(hA:m.Ad=some (Pq g 0))(hi:i<m.down.length)(hb:qcX.ok b∧∀r∈qcX.inn b,Row u r.1 r.2∧ColR col 0 r.1 r.2) :
  WS (qfS u g (i*qcX.k) (qcX.f b)) B col p {m with down:=m.down.set i b}∧Stp B [4] col u col (qfS u g (i*qcX.k) (qcX.f b)):=by
 have hm:=h.down
 rw[hA] at hm
 obtain⟨s,a⟩:=hm.put hi hb h.Bsz (by decide)
 refine⟨⟨?_,h.pc,h.bp,fun k hk=>h.z k (Nat.le_trans s.size hk),h.vs.keep s (by decide) (by decide),h.mem.keep s (by decide) (by decide),?_,h.told.keep s (by decide) (by decide),h.sent.keep s (by decide) (by decide),h.fly.keep s (by decide) (by decide),h.ti.keep s (by decide),h.si.keep s (by decide)⟩,s⟩
 ·exact qqO
 ·rw[hA];exact a
end
theorem qqC {P : Prop} (h : P := by
 subst hij
 rw[List.getElem?_set_self hi] at hx
 cases hx
 exact⟨s2.own a.own a.cv (by simp only[List.mem_cons,List.not_mem_nil,or_false];omega),s2.colV a.own a.cv⟩) : P := h
theorem qqF {P : Prop} (h : P := by
 have:=s12.bis h.box (by rw[h.pc];simp only[List.mem_cons,List.not_mem_nil,or_false];omega)
 unfold WM.cells at this⊢
 rw[List.length_set];exact this) : P := h
section
variable {u w':World} {B p:Nat} {col:Nat→Nat} {m:WM}
theorem WS.app_told{g i:Nat}{t:TlM}{v:Value}{news:List Ent}(h:WS u B col p m)(hA:m.At=some (Pq g 0))(ht:m.told[i]?=some t){l':List Ent}(hl:l'=t.l++news)(ho:qaz.OB w' B v l')(gr:Grew u w' (.slice t.A t.l.length t.c))(hs:Stems u (.slice t.A t.l.length t.c) v) :
  ∃A c col',v=.slice A l'.length c∧BIs w' p m.cells 59∧w'.frozen? (Pq g i)=false∧w'.cell? (Pq g i)=some (.slice t.A t.l.length t.c)∧WS (w'.setCell (Pq g i) v) B col' p {m with told:=m.told.set i ⟨A,c,l'⟩}∧Stp B [5,10+2*i] col u col' (w'.setCell (Pq g i) v):=by
 subst hl
 have hi:=(List.getElem?_eq_some_iff.1 ht).1
 have hin:Arr qaz u B col (10+2*i) (.slice t.A t.l.length t.c) t.l:=⟨(h.ti i t ht).1,(h.ti i t ht).2,fun a _=>⟨trivial,fun r hr=>by simp[qaz] at hr⟩⟩
 obtain⟨s,a,z⟩:=hin.pushed (news:=news) (fun x _=>⟨trivial,fun r hr=>by simp[qaz] at hr⟩) ho gr hs h.Bsz
 generalize qbf col u.heap.size w'.heap.size (10+2*i)=col' at s a z
 obtain⟨A,c,rfl,_⟩:=a.slice
 have tk:=h.told.keep s (by simp only[List.mem_cons,List.not_mem_nil,or_false];omega) (by simp only[List.mem_cons,List.not_mem_nil,or_false];omega)
 rw[hA] at tk
 obtain⟨s2,a2⟩:=tk.put hi (a:=⟨A,c,t.l++news⟩) ⟨trivial,fun r hr=>by simp[tlE] at hr⟩ (Nat.le_trans h.Bsz s.size) (by decide)
 have e:qfS w' g (i*tlE.k) (tlE.f ⟨A,c,t.l++news⟩)=w'.setCell (Pq g i) (.slice A (t.l++news).length c):=by
  show w'.setCell (Pq g (i*1)) _=_
  rw[Nat.mul_one]
 rw[e] at s2 a2
 obtain⟨g',n',hv',_,_,_,_,_,hfr⟩:=tk.addr (by omega)
 simp only[Value.slice.injEq,Option.some.injEq,Addr.mk.injEq,and_true,true_and] at hv'
 obtain⟨hg',_⟩:=hv'
 subst hg'
 have s12:Stp B [5,10+2*i] col u col' (w'.setCell (Pq g i) (.slice A (t.l++news).length c)):=(s.mono (by simp)).trans (s2.mono (by simp))
 refine⟨A,c,col',rfl,s.bis h.box (by rw[h.pc];simp only[List.mem_cons,List.not_mem_nil,or_false];omega),hfr i,by have:=tk.cell ht (j:=0) rfl;simpa[tlE] using this,⟨?_,(s12.hue p h.lt).trans h.pc,h.bp,fun k hk=>z k (Nat.le_trans s2.size hk),h.vs.keep s12 (by simp only[List.mem_cons,List.not_mem_nil,or_false];omega) (by simp only[List.mem_cons,List.not_mem_nil,or_false];omega),h.mem.keep s12 (by simp only[List.mem_cons,List.not_mem_nil,or_false];omega) (by simp only[List.mem_cons,List.not_mem_nil,or_false];omega),h.down.keep s12 (by simp only[List.mem_cons,List.not_mem_nil,or_false];omega) (by simp only[List.mem_cons,List.not_mem_nil,or_false];omega),?_,h.sent.keep s12 (by simp only[List.mem_cons,List.not_mem_nil,or_false];omega) (by simp only[List.mem_cons,List.not_mem_nil,or_false];omega),h.fly.keep s12 (by simp only[List.mem_cons,List.not_mem_nil,or_false];omega) (by simp only[List.mem_cons,List.not_mem_nil,or_false];omega),fun j x hx=>?_,fun j x hx=>⟨s12.own (h.si j x hx).1 (h.si j x hx).2 (by simp only[List.mem_cons,List.not_mem_nil,or_false];omega),s12.colV (h.si j x hx).1 (h.si j x hx).2⟩⟩,s12⟩
 ·exact qqF
 ·rw[hA];exact a2
 ·by_cases hij:i=j
  ·exact qqC
  ·rw[List.getElem?_set_ne hij] at hx
   exact⟨s12.own (h.ti j x hx).1 (h.ti j x hx).2 (by simp only[List.mem_cons,List.not_mem_nil,or_false];omega),s12.colV (h.ti j x hx).1 (h.ti j x hx).2⟩
theorem WS.app_sent{g i:Nat}{t:SnM}{v:Value}{news:List (List UInt8)}(h:WS u B col p m)(hA:m.As=some (Pq g 0))(ht:m.sent[i]?=some t){l':List (List UInt8)}(hl:l'=t.l++news)(ho:qda.OB w' B v l')(gr:Grew u w' (.slice t.A t.l.length t.c))(hs:Stems u (.slice t.A t.l.length t.c) v) :
  ∃A c col',v=.slice A l'.length c∧BIs w' p m.cells 59∧w'.frozen? (Pq g i)=false∧w'.cell? (Pq g i)=some (.slice t.A t.l.length t.c)∧WS (w'.setCell (Pq g i) v) B col' p {m with sent:=m.sent.set i ⟨A,c,l'⟩}∧Stp B [6,11+2*i] col u col' (w'.setCell (Pq g i) v):=by
 subst hl
 have hi:=(List.getElem?_eq_some_iff.1 ht).1
 have hin:Arr qda u B col (11+2*i) (.slice t.A t.l.length t.c) t.l:=⟨(h.si i t ht).1,(h.si i t ht).2,fun a _=>⟨trivial,fun r hr=>by simp[qda] at hr⟩⟩
 obtain⟨s,a,z⟩:=hin.pushed (news:=news) (fun x _=>⟨trivial,fun r hr=>by simp[qda] at hr⟩) ho gr hs h.Bsz
 generalize qbf col u.heap.size w'.heap.size (11+2*i)=col' at s a z
 obtain⟨A,c,rfl,_⟩:=a.slice
 have tk:=h.sent.keep s (by simp only[List.mem_cons,List.not_mem_nil,or_false];omega) (by simp only[List.mem_cons,List.not_mem_nil,or_false];omega)
 rw[hA] at tk
 obtain⟨s2,a2⟩:=tk.put hi (a:=⟨A,c,t.l++news⟩) ⟨trivial,fun r hr=>by simp[snE] at hr⟩ (Nat.le_trans h.Bsz s.size) (by decide)
 have e:qfS w' g (i*snE.k) (snE.f ⟨A,c,t.l++news⟩)=w'.setCell (Pq g i) (.slice A (t.l++news).length c):=by
  show w'.setCell (Pq g (i*1)) _=_
  rw[Nat.mul_one]
 rw[e] at s2 a2
 obtain⟨g',n',hv',_,_,_,_,_,hfr⟩:=tk.addr (by omega)
 simp only[Value.slice.injEq,Option.some.injEq,Addr.mk.injEq,and_true,true_and] at hv'
 obtain⟨hg',_⟩:=hv'
 subst hg'
 have s12:Stp B [6,11+2*i] col u col' (w'.setCell (Pq g i) (.slice A (t.l++news).length c)):=(s.mono (by simp)).trans (s2.mono (by simp))
 refine⟨A,c,col',rfl,s.bis h.box (by rw[h.pc];simp only[List.mem_cons,List.not_mem_nil,or_false];omega),hfr i,by have:=tk.cell ht (j:=0) rfl;simpa[snE] using this,⟨?_,(s12.hue p h.lt).trans h.pc,h.bp,fun k hk=>z k (Nat.le_trans s2.size hk),h.vs.keep s12 (by simp only[List.mem_cons,List.not_mem_nil,or_false];omega) (by simp only[List.mem_cons,List.not_mem_nil,or_false];omega),h.mem.keep s12 (by simp only[List.mem_cons,List.not_mem_nil,or_false];omega) (by simp only[List.mem_cons,List.not_mem_nil,or_false];omega),h.down.keep s12 (by simp only[List.mem_cons,List.not_mem_nil,or_false];omega) (by simp only[List.mem_cons,List.not_mem_nil,or_false];omega),h.told.keep s12 (by simp only[List.mem_cons,List.not_mem_nil,or_false];omega) (by simp only[List.mem_cons,List.not_mem_nil,or_false];omega),?_,h.fly.keep s12 (by simp only[List.mem_cons,List.not_mem_nil,or_false];omega) (by simp only[List.mem_cons,List.not_mem_nil,or_false];omega),fun j x hx=>⟨s12.own (h.ti j x hx).1 (h.ti j x hx).2 (by simp only[List.mem_cons,List.not_mem_nil,or_false];omega),s12.colV (h.ti j x hx).1 (h.ti j x hx).2⟩,fun j x hx=>?_⟩,s12⟩
 ·exact qqF
 ·rw[hA];exact a2
 ·by_cases hij:i=j
  ·exact qqC
  ·rw[List.getElem?_set_ne hij] at hx
   exact⟨s12.own (h.si j x hx).1 (h.si j x hx).2 (by simp only[List.mem_cons,List.not_mem_nil,or_false];omega),s12.colV (h.si j x hx).1 (h.si j x hx).2⟩
end
end Go.Proofs.YtponbabbabnaeaaGreat
