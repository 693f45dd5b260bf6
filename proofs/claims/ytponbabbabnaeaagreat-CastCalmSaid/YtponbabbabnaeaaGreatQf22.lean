/- Part 22 of the proof: contracts of functions that the statement reaches. Conditions: as each theorem says. -/
import Derived.Test.YtponbabbabnaeaaGreatQf01
import Derived.Test.YtponbabbabnaeaaGreatQf21
import Derived.Test.YtponbabbabnaeaaGreatQf02
import Derived.Test.YtponbabbabnaeaaGreatQf19
import Derived.Test.YtponbabbabnaeaaGreatQf20
set_option maxRecDepth 100000
set_option maxHeartbeats 40000000
namespace Go.Proofs.YtponbabbabnaeaaGreat
open Go.RowKit
theorem Own.row'{w:World}{B:Nat}{A:Option Addr}{c:Nat}{xs:List Int}{e:TypeId}(h:Own w B e (.slice A xs.length c) (qaq xs)):Row w A (qaq xs):=by
 have:=h.row;simpa using this
theorem Own.blk{w:World}{B:Nat}{A:Option Addr}{n c:Nat}{xs:List Value}{e:TypeId}(h:Own w B e (.slice A n c) xs)(_:xs≠[]){q:Addr}(hq:A=some q):B≤q.block:=by
 subst hq;exact(h.lt q.block rfl).1
theorem quQ(n:Nat):decide (n % 3=0)=((n:Int) % 3 == 0):=by
 rw[Bool.eq_iff_iff];simp only[zE,beq_iff_eq];omega
theorem qux{c:Nat}(hc:c<256)(k:Nat):((((c:Int) / 2 ^ min k 8).tmod 2) == 1)=qch c k:=by
 unfold qch;have h1:((c:Int) / 2 ^ min k 8)=((c / 2 ^ min k 8:Nat):Int):=by rw[Int.natCast_ediv];norm_cast
 have h2:c / 2 ^ min k 8=c / 2 ^ k:=by
  rcases Nat.le_total k 8 with h|h
  ·rw[Nat.min_eq_left h]
  ·rw[Nat.min_eq_right h,Nat.div_eq_of_lt (by omega),Nat.div_eq_of_lt (Nat.lt_of_lt_of_le hc (by calc 256=2 ^ 8:=rfl
     _≤2 ^ k:=Nat.pow_le_pow_right (by omega) h))]
 rw[h1,h2];generalize c / 2 ^ k=q;rw[Int.tmod_eq_emod_of_nonneg (by omega)];rw[Bool.eq_iff_iff];simp only[beq_iff_eq,zE];omega
theorem qtg{c:Nat}{xs:List Int}{k:Nat}{x:Int}(h:xs[k]?=some x)(hb:qch c k=true):qiu c xs (k+1)=qiu c xs k++[x]:=by
 unfold qiu;rw[List.range_succ,List.filter_append,List.map_append];simp[hb,h]
theorem quA{c:Nat}{xs:List Int}{k:Nat}{x:Int}(_:xs[k]?=some x)(hb:qch c k=false):qiu c xs (k+1)=qiu c xs k:=by
 unfold qiu;rw[List.range_succ,List.filter_append,List.map_append];simp[hb]
theorem qja(c:Nat)(xs:List Int)(k:Nat):(qiu c xs k).length≤k:=by
 unfold qiu;rw[zP];have:=List.length_filter_le (qch c) (List.range k);rw[List.length_range] at this;exact this
structure FineW(w:Wd):Prop where
 ml:1≤w.mem.length∧w.mem.length≤1000
 dl:w.down.length=w.mem.length
 tl:w.told.length=w.mem.length
 sl:w.sent.length=w.mem.length
 vl:0<w.views.length∧w.views.length≤10000
 vx:∀v∈w.views,v.2.length≤16
 first:∀s∈w.mem,(qbu s.views 0).1=(qbu w.views 0).1∧0<s.views.length
 told:∀t∈w.told,t.length≤100000
 sent:∀t∈w.sent,t.length≤100000
 fl:w.fly.length≤400
 fb:∀f∈w.fly,f.2.2.length≤1000000
 val:∀s∈w.mem,qbF s=true
 tick:∀s∈w.mem,(qaM s).pk.length≤100000∧(qaM s).dl.length≤100000
 recv:∀f∈w.fly,∀s∈w.mem,(qak s f.1 f.2.2).1.pk.length≤100000∧(qak s f.1 f.2.2).1.dl.length≤100000
 hand:∀f∈w.fly,(qbm w f).2=true
 handfly:∀f∈w.fly,(qbm w f).1.fly=w.fly
 learn:∀i,i<w.mem.length→(qbZ w i).2=true
 decide:∀m,(qi7 w m).2=true
theorem qtc{w:Wd}(h:1≤w.mem.length)(x:Int):qeo w (qfw w x).toNat∈w.mem:=by
 have go:∀i,i<w.mem.length→qeo w i∈w.mem:=fun i hi=>by
  unfold qeo;rw[zY hi];exact List.getElem_mem hi
 rcases qey x w.mem 0 with ⟨h1,_⟩|⟨i,s,h1,h2,_⟩
 ·unfold qfw;rw[h1];exact go _ (by show (-1:Int).toNat<_;simp;omega)
 ·unfold qfw;rw[h1];exact go _ (by have:=(zZ h2).1;simpa using this)
section
variable {w w':World} {B p c:Nat} {col col':Nat→Nat} {cs:List Nat} {m:WM}
def quN(B:Nat)(A:Option Addr)(xs:List Value):Prop:=∀p,xs≠[]→A=some p→p.block<B
theorem Row.below{A:Option Addr}{xs:List Value}(h:Row w A xs)(ho:quN B A xs)(b:Below B w w'):Row w' A xs:=by
 intro hx;obtain⟨g,off,h1,h2,h3⟩:=h hx;refine⟨g,off,h1,Nat.lt_of_lt_of_le h2 b.size,fun j u hj=>?_⟩;have hb:w'.heap[g]?=w.heap[g]?:=b.block g (ho _ hx h1);exact(World.cell?_of_block (a:=⟨g,off+j,none⟩) hb).trans (h3 j u hj)
section
variable {w:Wd} {m:Mv} {a q:Nat}
end
theorem qbM{r:Nat}{x y:UInt8}{t:TypeId}{a b:Int}(h:BIs w r #[.int .u8 a,.int .u8 b] t)(ha:a=(x.toNat:Int))(hb:b=(y.toNat:Int)):Row w (some (Pq r 0)) (qac [x,y]):=by
 subst ha;subst hb;intro _;refine⟨r,0,rfl,h.lt,fun j q hj=>?_⟩;rw[h.cell]
 match j,hj with
 | 0,hj=>simpa[qac] using hj
 | 1,hj=>simpa[qac] using hj
theorem qpD{g i:Nat}{d:Bool}{Av Am At As Af:Option Addr}{cv cm cd ct cs cf:Nat}{vs:List VwM}{mem:List BM}{down:List Bool}{told:List TlM}{sent:List SnM}{fly:List FyM}(h:WS w B col p ⟨Av,cv,vs,Am,cm,mem,some (Pq g 0),cd,down,At,ct,told,As,cs,sent,Af,cf,fly⟩)(hd:down[i]?=some d):w.cell? (Pq g i)=some (.bool d)∧w.frozen? (Pq g i)=false:=by
 obtain⟨g',d',h1,h2,h3,h4⟩:=qhT h.down (i:=i) (zZ hd).1;simp only[zJ,Addr.mk.injEq,and_true] at h1;subst h1;rw[hd] at h2;cases h2;exact⟨h3,h4⟩
end
theorem qtQ{s:St}(h:VS s):(qaM s).pk.length≤100:=by
 have OK:=qf0 (qb2.2 h);unfold qaM;rw[if_neg (by rw[qb2.2 h];simp)];unfold qdw;have h16:=(qeK OK).2.1;split
 ·split
  ·unfold qfR;simp only;have h1:=(qcj (qad (qam {(⟨s,[],[]⟩:Cs) with s:=qbo s}).s.views).2 (qam {(⟨s,[],[]⟩:Cs) with s:=qbo s})).2.2;obtain⟨_,_,k3,_,_,_,k7,_⟩:=qaK {(⟨s,[],[]⟩:Cs) with s:=qbo s};rw[k7,k3] at h1;have h2:(qbo s).views=s.views:=rfl;simp only[h2,List.length_nil] at h1;rw[k3];simp only[h2];omega
  ·unfold qcV;rw[(qgX _ _).2.2];have h1:=h.pd;have h2:=h.pl;have h3:qar (s.log.take s.stable.toNat) s.self≤qar s.log s.self:=qcp _ _ _;unfold qcm qbK;simp only[List.nil_append,zK,List.length_nil];omega
 ·split
  ·simp
  ·simp[qcm]
theorem qp9(c:Cs)(fr:Int)(m:Msg):(qao c fr m).pk=c.pk:=by
 unfold qao qa5 qaS qco qbp
 repeat' split
 all_goals first|rfl|exact(qdj _ _).2.2.2.2.2.2.1|exact(qaK _).2.2.2.2.2.2.1
theorem qiG(s:St)(fr:Int)(b:List UInt8):(qak s fr b).1.pk=[]:=by
 unfold qak;split
 ·rfl
 ·split
  ·rfl
  ·split
   ·exact qp9 _ _ _
   ·rfl
theorem qpi{s:St}{c:Cs}(g:Good s c):c.dl.length≤2000:=by
 have h1:=g.gr.st;have h2:=g.vs.st;have h3:=qdh g.vs.based;have h4:=g.z;omega
theorem Sys.fine{v0:Int}{k:Nat}{w:Wd}{H:qc8}{S:qdT}(h:Sys v0 k w H S)(hk:k≤900):FineW w:=by
 have hv:=qa8 h.core.vld;have hin:∀s∈w.mem,VS s∧s.views<+:w.views:=h.core.ok;have hto:∀t∈w.told,∃s∈w.mem,t=s.log.take s.stable.toNat:=fun t ht=>by
  obtain⟨i,hi,rfl⟩:=List.mem_iff_getElem.1 ht;obtain⟨s,h1,h2⟩:=h.told_of (zY hi);exact⟨s,zX h1,h2⟩
 refine⟨⟨h.ml.1,by have:=h.ml;omega⟩,h.dl,h.tl,h.sl,⟨by omega,by have:=h.vk;omega⟩,fun v hx=>(qaU (qb4 h.core.vld hx).2.2.1).2,fun s hs=>?_,fun t ht=>?_,fun t ht=>?_,h.flen,fun f hf=>(h.fly f hf).2.2.1,fun s hs=>qb2.2 (hin s hs).1,fun s hs=>?_,fun f hf s hs=>?_,fun f hf=>(h.hand hf).1,fun f hf=>(h.hand hf).2.2,fun i hi=>(h.learn hi).1,fun m=>(h.viewed (by omega) m).1⟩
 ·have h1:=(qa8 (hin s hs).1.vs).1;exact⟨by rw[qdn (hin s hs).2 h1],by omega⟩
 ·obtain⟨s,hs,rfl⟩:=hto t ht;have:=qdh (hin s hs).1.based;simp only[zT];omega
 ·obtain⟨i,hi,rfl⟩:=List.mem_iff_getElem.1 ht;have hi':i<w.mem.length:=by rw[←h.sl];exact hi
  have hs:=List.getElem_mem hi';have h1:=h.sent i _ (zY hi');rw[zY hi] at h1;rw[Option.some.inj h1];have h2:=(h.core.pend _ hs).1;have h3:=(hin _ hs).1.pd;have h4:=(hin _ hs).1.pl;have h5:=qdh (hin _ hs).1.based;have h6:qar ((w.mem[i]).log.take (w.mem[i]).stable.toNat) (w.mem[i]).self≤((w.mem[i]).log.take (w.mem[i]).stable.toNat).length:=by unfold qar;exact List.countP_le_length
  simp only[zT] at h6;omega
 ·have h1:=qtQ (hin s hs).1;have h2:=qpi (qhO (hin s hs).1);omega
 ·rw[qiG];refine⟨by simp,?_⟩;rcases qfl (hin s hs).1 f.1 f.2.2 with ⟨_,h1⟩|⟨_,h1⟩
  ·rw[h1];simp
  ·have:=qpi h1;omega
theorem qpY {P : Prop} (h : P := by
 have hl1:=zZ hi;have hl2:=zZ hj;exact qei h.core.ids (i:=i) (j:=j) (by simpa using hl1.1) (by simpa using hl2.1) (by simp only[List.getElem_map];rw[hl1.2,hl2.2,hs,hself])) : P := h
def qaf:List Fly→Wd→Wd×Bool
 | [],w=>(w,true)
 | f::l,w=>if (qbm w f).2 then qaf l (qbm w f).1 else ((qbm w f).1,false)
theorem qcA{f:Fly}{l:List Fly}{w:Wd}(h:(qbm w f).2=true):qaf (f::l) w=qaf l (qbm w f).1:=by
 show (if (qbm w f).2=true then _ else _)=_;rw[if_pos h]
theorem qnv{f:Fly}{l:List Fly}{w:Wd}(h:¬(qbm w f).2=true):(qaf (f::l) w).2=false:=by
 show (if (qbm w f).2=true then qaf l (qbm w f).1 else ((qbm w f).1,false)).2=_;rw[if_neg h]
def qb7(w:Wd)(i:Nat):Wd×Bool:=
 if qaB w i then (w,true) else if (qbZ w i).2 then (qnr (qbZ w i).1 i,true) else ((qbZ w i).1,false)
def qbd:List Nat→Wd→Wd×Bool
 | [],w=>(w,true)
 | i::l,w=>if (qb7 w i).2 then qbd l (qb7 w i).1 else ((qb7 w i).1,false)
def qaR(w:Wd):Wd:={w with fly:=[]}
def qaG(w:Wd):Wd×Bool:=
 if (qaf w.fly (qaR w)).2 then qbd (List.range w.mem.length) (qaf w.fly (qaR w)).1 else ((qaf w.fly (qaR w)).1,false)
structure Dlv(w w':Wd):Prop where
 views:w'.views=w.views
 down:w'.down=w.down
 sent:w'.sent=w.sent
 fly:w'.fly=w.fly
 len:w'.mem.length=w.mem.length
 up:∀(i:Nat) (s:St),w.mem[i]?=some s→∃s',w'.mem[i]?=some s'∧Up s s'∧(qaB w i=true→s'=s)
theorem Dlv.refl(w:Wd):Dlv w w:=⟨rfl,rfl,rfl,rfl,rfl,fun _ s h=>⟨s,h,Up.refl s,fun _=>rfl⟩⟩
theorem Dlv.dn{w w':Wd}(d:Dlv w w')(i:Nat):qaB w' i=qaB w i:=by unfold qaB;rw[d.down]
theorem Dlv.trans{w w' w2:Wd}(d:Dlv w w')(g:Dlv w' w2):Dlv w w2:=
 ⟨g.views.trans d.views,g.down.trans d.down,g.sent.trans d.sent,g.fly.trans d.fly,g.len.trans d.len,fun i s h=>by
  obtain⟨s1,h1,u1,n1⟩:=d.up i s h;obtain⟨s2,h2,u2,n2⟩:=g.up i s1 h1;exact⟨s2,h2,u1.trans u2,fun hd=>by rw[n2 (by rw[d.dn];exact hd),n1 hd]⟩⟩
section
variable {v0:Int} {k:Nat} {w:Wd} {H:qc8} {S:qdT}
theorem qiP(w:Wd)(x:List Fly)(f:Fly):qbm {w with fly:=x} f=({(qbm w f).1 with fly:=x},(qbm w f).2):=by
 unfold qbm;simp only;have e1:qfw {w with fly:=x} f.2.1=qfw w f.2.1:=rfl;have e2:∀i,qaB {w with fly:=x} i=qaB w i:=fun _=>rfl;have e3:∀i,qeo {w with fly:=x} i=qeo w i:=fun _=>rfl;rw[e1,e2,e3];split
 ·rfl
 ·split
  ·rfl
  ·rw[qiG];simp[qg9,qfv,qm3]
theorem qez:∀(l:List Fly) (w:Wd) (x:List Fly),qaf l {w with fly:=x}=({(qaf l w).1 with fly:=x},(qaf l w).2)
 | [],w,x=>rfl
 | f::l,w,x=>by
  unfold qaf;rw[qiP w x f];simp only;split
  ·rw[qez l _ x]
  ·rfl
theorem Sys.hand1(h:Sys v0 k w H S){f:Fly}(hf:f∈w.fly):(qbm w f).2=true∧(∃H' S',Sys v0 k (qbm w f).1 H' S')∧Dlv w (qbm w f).1∧
  ∀(i:Nat) (s:St),w.mem[i]?=some s→s.self=f.2.1→qaB w i=false→∃m,qa7 f.2.2=some m∧qcv w.views w.mem H S f.1 m∧(qbm w f).1.mem[i]?=some (if m.num=(qad s.views).1 then (qao ⟨s,[],[]⟩ f.1 m).s else s):=by
 obtain⟨h1,h2,h3⟩:=h.hand hf;refine⟨h1,h2,?_⟩;obtain⟨⟨t,ht1,ht2⟩,f2,_,m,f4,f5⟩:=h.fly f hf;have hid:qcl f.1=true:=by rw[←ht2];exact(h.core.ok t ht1).1.self
 unfold qbm at h1 h3⊢;simp only at h1 h3⊢;split
 ·next hc=>
  refine⟨Dlv.refl w,fun i s hi hs hd=>?_⟩;exfalso;rcases qey f.2.1 w.mem 0 with ⟨_,g2⟩|⟨j,r,g1,hj,hself⟩
  ·exact g2 s (zX hi) hs
  ·have hjt:(qfw w f.2.1).toNat=j:=by unfold qfw;rw[g1];omega
   have hij:i=j:=by
    exact qpY
   rcases hc with hc|hc
   ·unfold qfw at hc;rw[g1] at hc;omega
   ·rw[hjt,←hij,hd] at hc;cases hc
 ·next hc=>
  rw[if_neg hc] at h1 h3;rcases qey f.2.1 w.mem 0 with ⟨g1,_⟩|⟨j,r,g1,hj,hself⟩
  ·exact absurd (.inl (by unfold qfw;rw[g1];decide)) hc
  ·have hjt:(qfw w f.2.1).toNat=j:=by unfold qfw;rw[g1];omega
   rw[hjt,qcz hj] at h1 h3⊢;have hVS:=(h.core.here hj).2.1;have hl:=(zZ hj).1;have he:qak r f.1 f.2.2=(if m.num=(qad r.views).1 then qao ⟨r,[],[]⟩ f.1 m else ⟨r,[],[]⟩,0):=by
    unfold qak;rw[if_neg (by rw[qb2.2 hVS,hid];simp;rw[hself];exact f2),f4]
   have hst:(qak r f.1 f.2.2).1.s=if m.num=(qad r.views).1 then (qao ⟨r,[],[]⟩ f.1 m).s else r:=by
    rw[he];simp only;split<;>rfl
   rw[if_neg (by rw[he];simp)] at h3⊢;have hUp:Up r (qak r f.1 f.2.2).1.s:=by
    rw[hst];split
    ·next hn=>exact Up.handle hVS f.1 m hn
    ·exact Up.refl r
   refine⟨⟨rfl,rfl,rfl,h3,by simp[qg9,qfv],fun i s hi=>?_⟩,fun i s hi hs hd=>⟨m,f4,f5,?_⟩⟩
   ·show ∃s',(w.mem.set j _)[i]?=some s'∧_;by_cases hij:j=i
    ·subst hij;rw[hj] at hi;cases hi;exact⟨_,List.getElem?_set_self hl,hUp,fun hd=>by exact absurd (.inr (by rw[hjt];exact hd)) hc⟩
    ·exact⟨s,by rw[List.getElem?_set_ne hij];exact hi,Up.refl s,fun _=>rfl⟩
   ·show (w.mem.set j _)[i]?=_;have hij:i=j:=by
     exact qpY
    subst hij;rw[hj] at hi;cases hi;rw[List.getElem?_set_self hl,hst]
theorem Sys.hands:∀(l:List Fly) {w:Wd} {H:qc8} {S:qdT},Sys v0 k w H S→(∀f∈l,f∈w.fly)→(qaf l w).2=true∧(∃H' S',Sys v0 k (qaf l w).1 H' S')∧Dlv w (qaf l w).1
 | [],w,H,S,h,_=>⟨rfl,⟨H,S,h⟩,Dlv.refl w⟩
 | f::l,w,H,S,h,hf=>by
  obtain⟨h1,⟨H1,S1,h2⟩,h3,_⟩:=h.hand1 (hf f (by simp));obtain⟨g1,g2,g3⟩:=Sys.hands l h2 (fun x hx=>by rw[h3.fly];exact hf x (by simp[hx]));rw[qcA h1];exact⟨g1,g2,h3.trans g3⟩
theorem qds:∀(l l':List Fly) (w:Wd),(qaf l w).2=true→qaf (l++l') w=qaf l' (qaf l w).1
 | [],l',w,_=>rfl
 | f::l,l',w,h=>by
  rw[List.cons_append];by_cases hc:(qbm w f).2=true
  ·rw[qcA hc] at h⊢;rw[qcA hc];exact qds l l' _ h
  ·rw[qnv hc] at h;cases h
theorem Sys.event(h:Sys v0 k w H S){l l1 l2:List Fly}{f:Fly}(hl:l=l1++f::l2)(hf:∀f∈l,f∈w.fly):∃w1 H1 S1,Sys v0 k w1 H1 S1∧Dlv w w1∧Dlv (qbm w1 f).1 (qaf l w).1∧f∈w1.fly∧w1=(qaf l1 w).1:=by
 subst hl;obtain⟨h1,⟨H1,S1,h2⟩,h3⟩:=Sys.hands l1 h (fun x hx=>hf x (by simp[hx]));have hin:f∈(qaf l1 w).1.fly:=by rw[h3.fly];exact hf f (by simp)
 obtain⟨g1,⟨H2,S2,g2⟩,g3,_⟩:=h2.hand1 hin;refine⟨_,H1,S1,h2,h3,?_,hin,rfl⟩;rw[qds _ _ _ h1,qcA g1];exact(Sys.hands l2 g2 (fun x hx=>by rw[g3.fly,h3.fly];exact hf x (by simp[hx]))).2.2
def lrn(w:Wd)(s:St):St:=if w.views.length≤s.views.length then s else (qaT s (qbu w.views s.views.length)).1
theorem qqj{i:Nat}{s:St}(h:w.mem[i]?=some s):qfv w i s=w:=by unfold qfv;rw[qfc h]
theorem Sys.learn_eq(h:Sys v0 k w H S){i:Nat}{s:St}(hi:w.mem[i]?=some s):qbZ w i=(qfv w i (lrn w s),true):=by
 obtain⟨hsm,hVS,hpre,hl⟩:=h.core.here hi;have hn:=(qa8 hVS.vs).1;have hat:qe0 w i=s.views.length:=by
  unfold qe0;rw[qcz hi,qdn hpre hn];omega
 obtain⟨h1,_⟩:=h.learn hl;unfold qbZ at h1⊢;rw[hat,qcz hi] at h1⊢;by_cases hc:w.views.length≤s.views.length
 ·rw[if_pos (by omega),show lrn w s=s by unfold lrn;rw[if_pos hc],qqj hi]
 ·rw[if_neg (by omega)] at h1⊢;rw[show lrn w s=(qaT s (qbu w.views s.views.length)).1 by unfold lrn;rw[if_neg hc]];simp only[Int.toNat_natCast] at h1⊢;by_cases hx:(qaT s (qbu w.views s.views.length)).2≠0
  ·rw[if_pos hx] at h1;cases h1
  ·rw[if_neg hx]
def pkF(a:Int)(pk:List (Int×List UInt8)):List Fly:=pk.map fun x=>(a,x.1,x.2)
theorem qrk{a:Int}{n:Nat}{pk:List (Int×List UInt8)}(h:n+pk.length≤400):qm3 a n pk=pkF a pk:=by unfold qm3 pkF;rw[List.take_of_length_le (by omega)]
theorem qdQ(h:Sys v0 k w H S){i:Nat}{s:St}(hi:w.mem[i]?=some s):VS (lrn w s)∧(lrn w s).self=s.self:=by
 obtain⟨hsm,hVS,hpre,hl⟩:=h.core.here hi;obtain⟨_,H',S',h2⟩:=h.learn hl;rw[h.learn_eq hi] at h2;have h3:(qfv w i (lrn w s)).mem[i]?=some (lrn w s):=List.getElem?_set_self hl;refine⟨(h2.core.here h3).2.1,?_⟩;unfold lrn;split
 ·rfl
 ·next hc=>
  have hv:s.views++[qbu w.views s.views.length]<+:w.views:=by
   obtain⟨r,hr⟩:=hpre;rw[←hr] at hc⊢;rcases r with _|⟨x,r⟩
   ·simp at hc
   ·have:qbu (s.views++x::r) s.views.length=x:=by unfold qbu;simp
    rw[this];exact⟨r,by simp⟩
  exact(h.core.learn hi hv).2.2.1
theorem Sys.pass1(h:Sys v0 k w H S){i:Nat}{s:St}(hi:w.mem[i]?=some s)(hd:qaB w i=false)(hf:w.fly.length+(qaM (lrn w s)).pk.length≤400) :
  (qb7 w i).2=true∧(∃H' S',Sys v0 k (qb7 w i).1 H' S')∧(qb7 w i).1.views=w.views∧(qb7 w i).1.down=w.down∧(qb7 w i).1.sent=w.sent∧(qb7 w i).1.mem=w.mem.set i (qaM (lrn w s)).s∧(qb7 w i).1.fly=w.fly++pkF s.self (qaM (lrn w s)).pk:=by
 obtain⟨hsm,hVS,hpre,hl⟩:=h.core.here hi;obtain⟨_,H',S',h2⟩:=h.learn hl;obtain⟨hV,hs⟩:=qdQ h hi;rw[h.learn_eq hi] at h2;have h3:(qfv w i (lrn w s)).mem[i]?=some (lrn w s):=List.getElem?_set_self hl;unfold qb7;rw[hd,h.learn_eq hi];simp only[Bool.false_eq_true,if_false,if_true];refine⟨trivial,h2.tick (a:=i) (by simp only[qfv,List.length_set];exact hl),?_⟩;unfold qnr;simp only;rw[qcz h3];refine⟨rfl,rfl,rfl,by simp[qg9,qfv],?_⟩;show w.fly++qm3 _ w.fly.length _=_;have e:(qeo (qfv (qfv w i (lrn w s)) i (qaM (lrn w s)).s) i)=(qaM (lrn w s)).s:=by
  refine qcz ?_;show ((w.mem.set i _).set i _)[i]?=_;rw[List.getElem?_set_self (by simpa using hl)]
 rw[e,qhM hV,hs,qrk hf]
structure Psd(l:List Nat)(w w':Wd):Prop where
 views:w'.views=w.views
 down:w'.down=w.down
 sent:w'.sent=w.sent
 len:w'.mem.length=w.mem.length
 old:∀(i:Nat) (s:St),i∉l∨qaB w i=true→w.mem[i]?=some s→w'.mem[i]?=some s
 new:∀(i:Nat) (s:St),i∈l→qaB w i=false→w.mem[i]?=some s→w'.mem[i]?=some (qaM (lrn w s)).s∧∃A B,w'.fly=A++(pkF s.self (qaM (lrn w s)).pk++B)
 fly:∀f∈w'.fly,f∈w.fly∨∃(i:Nat) (s:St),i∈l∧qaB w i=false∧w.mem[i]?=some s∧∃x∈(qaM (lrn w s)).pk,f=(s.self,x.1,x.2)
 pre:w.fly<+:w'.fly
theorem Sys.passes:∀(l:List Nat) {w:Wd} {H:qc8} {S:qdT},Sys v0 k w H S→l.Nodup→(∀i∈l,i<w.mem.length)→(∀i s,i∈l→qaB w i=false→w.mem[i]?=some s→(qaM (lrn w s)).pk.length≤25)→w.fly.length+25*l.length≤400→
  (qbd l w).2=true∧(∃H' S',Sys v0 k (qbd l w).1 H' S')∧Psd l w (qbd l w).1
 | [],w,H,S,h,_,_,_,_=>⟨rfl,⟨H,S,h⟩,rfl,rfl,rfl,rfl,fun _ _ _ h=>h,fun i s hi=>(by cases hi),fun f hf=>.inl hf,List.prefix_rfl⟩
 | i::l,w,H,S,h,hn,hl,hp,hf=>by
  obtain⟨n1,n2⟩:=List.nodup_cons.1 hn;have hil:=hl i (by simp);have hi:=zY hil;simp only[zK] at hf;unfold qbd;cases hd:qaB w i with
  | true=>
   have e:qb7 w i=(w,true):=by unfold qb7;rw[hd];rfl
   rw[e];simp only[if_true];obtain⟨g1,g2,g3⟩:=Sys.passes l h n2 (fun j hj=>hl j (by simp[hj])) (fun j s hj=>hp j s (by simp[hj])) (by omega);refine⟨g1,g2,g3.views,g3.down,g3.sent,g3.len,fun j s hj=>g3.old j s ?_,fun j s hj hdj=>?_,fun f hf=>?_,g3.pre⟩
   ·rcases hj with hj|hj
    ·exact .inl fun e=>hj (by simp[e])
    ·exact .inr hj
   ·rcases zC.1 hj with rfl|hj
    ·rw[hd] at hdj;cases hdj
    ·exact g3.new j s hj hdj
   ·rcases g3.fly f hf with h1|⟨j,s,h0,h1,h2⟩
    ·exact .inl h1
    ·exact .inr ⟨j,s,by simp[h0],h1,h2⟩
  | false=>
   have hpk:=hp i _ (by simp) hd hi;obtain⟨q1,⟨H1,S1,q2⟩,q3,q4,q5,q6,q7⟩:=h.pass1 hi hd (by omega);rw[if_pos q1];have hdn:∀j,qaB (qb7 w i).1 j=qaB w j:=fun j=>by unfold qaB;rw[q4]
   have hlr:∀s,lrn (qb7 w i).1 s=lrn w s:=fun s=>by unfold lrn;rw[q3]
   have hfl:(qb7 w i).1.fly.length=w.fly.length+(qaM (lrn w w.mem[i])).pk.length:=by rw[q7,zA];simp[pkF]
   have hne:∀j,j∈l→j≠i:=fun j hj e=>n1 (e▸hj);have hmj:∀j,j≠i→(qb7 w i).1.mem[j]?=w.mem[j]?:=fun j hj=>by rw[q6,List.getElem?_set_ne (fun e=>hj e.symm)]
   obtain⟨g1,g2,g3⟩:=Sys.passes l q2 n2 (fun j hj=>by rw[q6,List.length_set];exact hl j (by simp[hj])) (fun j s hj hdj hs=>by
    rw[hlr];rw[hmj j (hne j hj)] at hs;exact hp j s (by simp[hj]) (by rw[←hdn];exact hdj) hs) (by omega)
   refine⟨g1,g2,g3.views.trans q3,g3.down.trans q4,g3.sent.trans q5,by rw[g3.len,q6,List.length_set],fun j s hj hs=>?_,fun j s hj hdj hs=>?_,fun f hf=>?_,?_⟩
   ·have hji:j≠i:=fun e=>by
     subst e;rcases hj with hj|hj
     ·exact hj (by simp)
     ·rw[hd] at hj;cases hj
    refine g3.old j s ?_ (by rw[hmj j hji];exact hs);rcases hj with hj|hj
    ·exact .inl fun e=>hj (by simp[e])
    ·exact .inr (by rw[hdn];exact hj)
   ·rcases zC.1 hj with rfl|hj
    ·rw[hi] at hs;cases hs;refine⟨g3.old j _ (.inl n1) (by rw[q6,List.getElem?_set_self hil]),?_⟩;obtain⟨r,hr⟩:=g3.pre;exact⟨w.fly,r,by rw[←hr,q7,List.append_assoc]⟩
    ·have:=g3.new j s hj (by rw[hdn];exact hdj) (by rw[hmj j (hne j hj)];exact hs);rwa [hlr] at this
   ·rcases g3.fly f hf with h1|⟨j,s,h0,h1,h2,x,h3,h4⟩
    ·rw[q7] at h1;rcases List.mem_append.1 h1 with h1|h1
     ·exact .inl h1
     ·obtain⟨x,hx,rfl⟩:=List.mem_map.1 h1;exact .inr ⟨i,_,by simp,hd,hi,x,hx,rfl⟩
    ·rw[hmj j (hne j h0)] at h2;rw[hlr] at h3;exact .inr ⟨j,s,by simp[h0],by rw[←hdn];exact h1,h2,x,h3,h4⟩
   ·exact(by rw[q7];exact List.prefix_append _ _:w.fly<+:(qb7 w i).1.fly).trans g3.pre
end
theorem qdy{v:Vw}(h:qap v.1 v.2=true):v.2.Nodup:=by
 have h1:=qbC h;have h2:=qaU h;rw[qha (by omega) (by omega)] at h1;exact List.Pairwise.imp (fun h=>by omega) ((qfJ v.2 0).1 h1).1
theorem qmF{v:Vw}(h:qap v.1 v.2=true):qa1 v∈v.2:=by
 unfold qa1;have h2:=qaU h;rw[if_pos h,zY (by omega)];exact List.getElem_mem _
def qgO(s:St)(q:Int):Int×List UInt8:=match qb0 s.marks q with
 | none=>(q,qa3 15 (qav [s.base]++qbe s.log))
 | some n=>(q,qa3 12 (qav [s.base,n,s.stable]++qbe (qcQ s.log n (min (n+16) s.log.length))))
theorem qhW(c:Cs)(q:Int):(qaP c q).pk=if q=c.s.self then c.pk else c.pk++[qgO c.s q]:=by
 unfold qaP qgO;split
 ·rfl
 ·cases qb0 c.s.marks q<;>rfl
theorem qkL{q:Int}:∀(l:List Int) (c:Cs),(∀x∈c.pk,x∈(l.foldl qaP c).pk)∧(q∈l→q≠c.s.self→qgO c.s q∈(l.foldl qaP c).pk)
 | [],c=>⟨fun x hx=>hx,fun h=>by cases h⟩
 | a::l,c=>by
  obtain⟨h1,h2⟩:=qkL (q:=q) l (qaP c a);have k:=(qh6 c a).1;rw[k] at h2;rw[List.foldl_cons];have hsub:∀x∈c.pk,x∈(qaP c a).pk:=fun x hx=>by
   rw[qhW];split
   ·exact hx
   ·exact List.mem_append.2 (.inl hx)
  refine⟨fun x hx=>h1 x (hsub x hx),fun hq hne=>?_⟩;rcases zC.1 hq with rfl|hq
  ·refine h1 _ ?_;rw[qhW,if_neg hne];simp
  ·exact h2 hq hne
def qc4(s:St)(j:Nat):Int×List UInt8:=(qa1 (qad s.views),qa3 11 (qav [s.base,qar s.log s.self+1+j]++qeH (qcg s (qar s.log s.self+1+j))))
theorem qiW:∀(l:List Nat) (c:Cs),(l.foldl qaZ c).pk=c.pk++l.map (qc4 c.s)
 | [],c=>by simp
 | a::l,c=>by
  rw[List.foldl_cons,qiW l];show (c.pk++[_])++l.map (qc4 c.s)=_;rw[List.append_assoc];rfl
section
variable {s:St}
theorem qhD(h:VS s):qaM s=qdw ⟨s,[],[]⟩:=by unfold qaM;rw[if_neg (by rw[qb2.2 h];simp)]
theorem qeF(h:VS s)(ho:qan s=true)(hl:qas s=true):(qaM s).s=(qam ⟨qbo s,[],[]⟩).s∧∀q∈(qad s.views).2,q≠s.self→qgO (qaM s).s q∈(qaM s).pk:=by
 have e:qaM s=qfR ⟨s,[],[]⟩:=by rw[qhD h];unfold qdw;simp[ho,hl]
 rw[e];unfold qfR;simp only;obtain⟨k1,_,_⟩:=qcj (qad (qam {(⟨s,[],[]⟩:Cs) with s:=qbo s}).s.views).2 (qam {(⟨s,[],[]⟩:Cs) with s:=qbo s});obtain⟨a1,a2,a3,a4,a5,a6,a7,a8⟩:=qaK (⟨qbo s,[],[]⟩:Cs);rw[k1];refine⟨rfl,fun q hq hne=>?_⟩;have e3:(qam ⟨qbo s,[],[]⟩).s.views=s.views:=a3;have e5:(qam ⟨qbo s,[],[]⟩).s.self=s.self:=a5;exact(qkL (q:=q) _ _).2 (by show q∈(qad (qam ⟨qbo s,[],[]⟩).s.views).2;rw[e3];exact hq) (by show q≠(qam ⟨qbo s,[],[]⟩).s.self;rw[e5];exact hne)
theorem qea(h:VS s)(ho:qan s=true)(hl:qas s=false):(qaM s).s=s∧(qaM s).pk=(qa1 (qad s.views),qa3 13 (qav [s.base,s.log.length]))::(List.range (qbK s)).map (qc4 s):=by
 have e:qaM s=qcV ⟨s,[],[]⟩:=by rw[qhD h];unfold qdw;simp[ho,hl]
 rw[e];unfold qcV;simp only;rw[(qew _ _).1,qiW];exact⟨rfl,rfl⟩
theorem qej(h:VS s)(ho:qan s=false)(hl:qas s=false):(qaM s).s=s∧(qaM s).pk=[(qa1 (qad s.views),qa3 14 (qav [(qad s.views).1]++qa4 (zig s.base)++qbe s.log))]:=by
 have e:qaM s=qcm ⟨s,[],[]⟩ (qa1 (qad s.views)) 14 (qav [(qad s.views).1]++qa4 (zig s.base)++qbe s.log):=by rw[qhD h];unfold qdw;simp[ho,hl]
 rw[e];exact⟨rfl,rfl⟩
theorem qfT(h:VS s)(ho:qan s=false)(hl:qas s=true):(qaM s).s=qaD (if qhY s then s else {s with fls:=putF s.fls (s.self,s.base,s.log)})∧(qaM s).pk=[]:=by
 have e:qaM s={(⟨s,[],[]⟩:Cs) with s:=qaD (if qhY s then s else {s with fls:=putF s.fls (s.self,s.base,s.log)})}:=by rw[qhD h];unfold qdw;simp[ho,hl]
 rw[e];exact⟨rfl,rfl⟩
theorem qmd(h:VS s)(h1:s.sent≤20)(h2:(qad s.views).2.length≤5):(qaM s).pk.length≤25:=by
 cases ho:qan s with
 | true=>
  cases hl:qas s with
  | true=>
   have e:qaM s=qfR ⟨s,[],[]⟩:=by rw[qhD h];unfold qdw;simp[ho,hl]
   rw[e];unfold qfR;simp only;have h3:=(qcj (qad (qam {(⟨s,[],[]⟩:Cs) with s:=qbo s}).s.views).2 (qam {(⟨s,[],[]⟩:Cs) with s:=qbo s})).2.2;obtain⟨_,_,k3,_,_,_,k7,_⟩:=qaK {(⟨s,[],[]⟩:Cs) with s:=qbo s};rw[k7,k3] at h3;have h4:(qbo s).views=s.views:=rfl;simp only[h4,List.length_nil] at h3;rw[k3];simp only[h4];omega
  | false=>
   rw[(qea h ho hl).2];simp only[zK,zP,List.length_range];unfold qbK;omega
 | false=>
  cases hl:qas s with
  | true=>rw[(qfT h ho hl).2];simp
  | false=>rw[(qej h ho hl).2];simp
theorem qht:∀{l:List (Int×Int)} {q a:Int},(l.map Prod.fst).Pairwise (·<·)→(q,a)∈l→qb0 l q=some a
 | x::l,q,a,hs,h=>by
  rw[List.map_cons,List.pairwise_cons] at hs;rw[qbn];rcases zC.1 h with h|h
  ·rw[←h,if_pos rfl]
  ·have:=hs.1 q (List.mem_map.2 ⟨(q,a),h,rfl⟩);rw[if_neg (by omega)];exact qht hs.2 h
theorem qm7{pk:List (Int×List UInt8)}{dl:List Ent}{n:Int}(h:∀x∈qb8 s,n≤x)(hl:qfB (qad s.views).2.length≤(qb8 s).length)(h1:1≤qfB (qad s.views).2.length):n≤(qam ⟨s,pk,dl⟩).s.stable:=by
 unfold qam;rw[if_neg (by show ¬((qb8 s).length:Int)<qfB (qad s.views).2.length;omega)];have hlt:(((qb8 s).length:Int) - qfB (qad s.views).2.length).toNat<(qeD (qb8 s)).length:=by rw[qeZ];omega
 show n≤(raiseF ⟨s,pk,dl⟩ (((qeD (qb8 s))[(((qb8 s).length:Int) - qfB (qad s.views).2.length).toNat]?).getD 0)).s.stable;rw[zY hlt];have h2:=h _ ((qcI _).mem_iff.1 (List.getElem_mem hlt));simp only[Option.getD_some];unfold raiseF;split
 ·next hc=>simp only at hc⊢;omega
 ·exact h2
end
def Opn(vs:List Vw)(w:Wd):Prop:=∀(i:Nat) (s:St),w.mem[i]?=some s→qaB w i=false→s.views=vs∧s.base=(qad vs).1
theorem Opn.op{vs:List Vw}{w:Wd}(o:Opn vs w){i:Nat}{s:St}(hi:w.mem[i]?=some s)(hd:qaB w i=false):qan s=true:=by
 obtain⟨h1,h2⟩:=o i s hi hd;unfold qan;rw[h1,h2];simp
theorem Opn.dlv{vs:List Vw}{w w':Wd}(o:Opn vs w)(d:Dlv w w')(hl:w'.mem.length=w.mem.length):Opn vs w':=fun i s' hi hd=>by
 have hlt:=(zZ hi).1;have hs:=zY (show i<w.mem.length by omega);obtain⟨s2,h1,u,_⟩:=d.up i _ hs;rw[hi] at h1;cases h1;have hd0:qaB w i=false:=by rw[←d.dn];exact hd
 obtain⟨k1,k2⟩:=o i _ hs hd0;exact⟨u.views.trans k1,(u.op (o.op hs hd0)).2.1.trans k2⟩
structure Cfg(T:Vw)(w:Wd):Prop where
 up:∀(i:Nat) (s:St),w.mem[i]?=some s→qaB w i=false→s.self∈T.2
 all:∀q∈T.2,∃(i:Nat) (s:St),w.mem[i]?=some s∧s.self=q∧qaB w i=false
theorem Cfg.dlv{T:Vw}{w w':Wd}(c:Cfg T w)(d:Dlv w w'):Cfg T w':=by
 refine⟨fun i s hi hd=>?_,fun q hq=>?_⟩
 ·have hlt:=(zZ hi).1;have hs:=zY (show i<w.mem.length by have:=d.len;omega);obtain⟨s2,h1,u,_⟩:=d.up i _ hs;rw[hi] at h1;cases h1;rw[u.self];exact c.up i _ hs (by rw[←d.dn];exact hd)
 ·obtain⟨i,s,h1,h2,h3⟩:=c.all q hq;obtain⟨s2,g1,u,_⟩:=d.up i s h1;exact⟨i,s2,g1,u.self.trans h2,by rw[d.dn];exact h3⟩
structure Flt(T:Vw)(w:Wd):Prop where
 frm:∀f∈w.fly,∃(i:Nat) (s:St),w.mem[i]?=some s∧qaB w i=false∧s.self=f.1
 ack:∀(i:Nat) (s:St),w.mem[i]?=some s→qaB w i=false→s.self≠qa1 T→(s.self,qa1 T,qa3 13 (qav [T.1,s.log.length]))∈w.fly
 sub:∀(i:Nat) (s:St),w.mem[i]?=some s→qaB w i=false→s.self≠qa1 T→∃A B,w.fly=A++(pkF s.self ((List.range (qbK s)).map (qc4 s))++B)
 app:∀(i:Nat) (s:St),w.mem[i]?=some s→qaB w i=false→s.self=qa1 T→∀q∈T.2,q≠s.self→(s.self,(qgO s q).1,(qgO s q).2)∈w.fly
section
variable {v0:Int} {k:Nat} {w:Wd} {H:qc8} {S:qdT}
theorem qcn(h:Sys v0 k w H S){i:Nat}{s:St}(hi:w.mem[i]?=some s):lrn w s=s∨(s.views.length<w.views.length∧lrn w s={s with views:=s.views++[qbu w.views s.views.length],marks:=[],fls:=[]}∧s.views++[qbu w.views s.views.length]<+:w.views):=by
 obtain⟨hsm,hVS,hpre,hl⟩:=h.core.here hi;unfold lrn;split
 ·exact .inl rfl
 ·next hc=>
  right;have hv:s.views++[qbu w.views s.views.length]<+:w.views:=by
   obtain⟨r,hr⟩:=hpre;rw[←hr] at hc⊢;rcases r with _|⟨x,r⟩
   ·simp at hc
   ·have:qbu (s.views++x::r) s.views.length=x:=by unfold qbu;simp
    rw[this];exact⟨r,by simp⟩
  refine⟨by omega,?_,hv⟩;unfold qaT;rw[if_neg (by rw[qb2.2 hVS];simp),if_neg (by rw[qhS h.core.vld hv (by simp)];simp)]
structure Bnd(w:Wd):Prop where
 tot:(w.mem.map fun s=>s.sent.toNat).sum≤20
 vw:∀v∈w.views,v.2.length≤5
 vl:w.views.length≤2
 ml:w.mem.length≤5
theorem Bnd.sent{w:Wd}(b:Bnd w){s:St}(hs:s∈w.mem):s.sent≤20:=by
 have h1:=qk6 (f:=fun s:St=>s.sent.toNat) hs;have h2:=b.tot;have h3:s.sent.toNat≤(w.mem.map fun s=>s.sent.toNat).sum:=h1;omega
theorem qoP{l l':List St}(hl:l'.length=l.length)(h:∀(i:Nat) (s t:St),l[i]?=some s→l'[i]?=some t→t.sent=s.sent):(l'.map fun s=>s.sent.toNat)=l.map fun s=>s.sent.toNat:=by
 refine List.ext_getElem (by simp[hl]) fun i h1 h2=>?_;simp only[zP] at h1 h2;simp only[List.getElem_map];rw[h i _ _ (zY h2) (zY h1)]
theorem Bnd.dlv{w w':Wd}(b:Bnd w)(d:Dlv w w'):Bnd w':=by
 refine⟨?_,by rw[d.views];exact b.vw,by rw[d.views];exact b.vl,by rw[d.len];exact b.ml⟩;rw[qoP d.len fun i s t hi ht=>?_]
 ·exact b.tot
 ·obtain⟨s2,h1,u,_⟩:=d.up i s hi;rw[ht] at h1;cases h1;exact u.sent
theorem Sys.small{v0:Int}{k:Nat}{w:Wd}{H:qc8}{S:qdT}(h:Sys v0 k w H S)(b:Bnd w)(p c:Int):(H p c).length≤22:=by
 have h1:=h.core.len_log p c;have h2:(w.mem.map fun t=>(S t.self).length).sum≤(w.mem.map fun s=>s.sent.toNat).sum:=qlW fun t ht=>by have:=(h.core.pend t ht).1;omega
 have:=b.tot;have:=b.vl;omega
theorem Sys.small_s{v0:Int}{k:Nat}{w:Wd}{H:qc8}{S:qdT}(h:Sys v0 k w H S)(b:Bnd w){s:St}(hs:s∈w.mem):s.log.length≤22:=by
 rw[←(h.core.cur s hs).1];exact h.small b _ _
theorem Sys.calm(h:Sys v0 k w H S)(b:Bnd w):(qaG w).2=true∧∃w1 H1 S1,Sys v0 k w1 H1 S1∧Dlv w w1∧w1=(qaf w.fly w).1∧Psd (List.range w.mem.length) (qaR w1) (qaG w).1∧∃H' S',Sys v0 k (qaG w).1 H' S':=by
 obtain⟨h1,⟨H1,S1,h2⟩,h3⟩:=Sys.hands w.fly h (fun f hf=>hf);have e:qaf w.fly (qaR w)=(qaR (qaf w.fly w).1,(qaf w.fly w).2):=qez w.fly w [];have hlen:(qaR (qaf w.fly w).1).mem.length=w.mem.length:=h3.len;have h4:Sys v0 k (qaR (qaf w.fly w).1) H1 S1:=⟨h2.core,h2.first,h2.vk,h2.ml,h2.dl,h2.tl,h2.sl,h2.told,h2.sent,fun f hf=>(by cases hf),zO _,h2.two⟩;have hpk:∀i s,i∈List.range w.mem.length→qaB (qaR (qaf w.fly w).1) i=false→(qaR (qaf w.fly w).1).mem[i]?=some s→(qaM (lrn (qaR (qaf w.fly w).1) s)).pk.length≤25:=fun i s hr hd hi=>by
  have hi0:=zY (List.mem_range.1 hr);obtain⟨s2,g1,u,_⟩:=h3.up i _ hi0;have:s2=s:=by rw[show (qaR (qaf w.fly w).1).mem=(qaf w.fly w).1.mem from rfl,g1] at hi;exact Option.some.inj hi
  subst this;have hse:s2.sent≤20:=by rw[u.sent];exact b.sent (List.getElem_mem _)
  obtain⟨hV,_⟩:=qdQ h4 hi;refine qmd hV ?_ ?_
  ·rcases qcn h4 hi with e|⟨_,e,_⟩<;>rw[e]<;>exact hse
  ·refine b.vw _ ?_;have hp:=(h4.core.here hi).2.2.1;rw[show (qaR (qaf w.fly w).1).views=w.views from h3.views] at hp;rcases qcn h4 hi with e|⟨_,e,hp2⟩
   ·rw[e];exact hp.subset (qbb (qdf (h4.core.here hi).2.1.vs)).1
   ·rw[e];rw[show (qaR (qaf w.fly w).1).views=w.views from h3.views] at hp2⊢;simp only[qgK];exact hp2.subset (by simp)
 obtain⟨p1,p2,p3⟩:=Sys.passes (List.range w.mem.length) h4 List.nodup_range (fun i hi=>by rw[hlen];exact List.mem_range.1 hi) hpk (by
  have:=b.ml;show 0+_≤_;simp only[List.length_range];omega)
 have ec:qaG w=qbd (List.range w.mem.length) (qaR (qaf w.fly w).1):=by
  unfold qaG;rw[e];simp only;rw[if_pos h1]
 rw[ec];exact⟨p1,_,H1,S1,h2,h3,rfl,p3,p2⟩
theorem Psd.dn{l:List Nat}{w w':Wd}(p:Psd l w w')(i:Nat):qaB w' i=qaB w i:=by unfold qaB;rw[p.down]
theorem Psd.back{w w':Wd}(p:Psd (List.range w.mem.length) w w'){i:Nat}{t:St}(hi:w'.mem[i]?=some t)(hd:qaB w' i=false):∃s,w.mem[i]?=some s∧t=(qaM (lrn w s)).s∧∃A B,w'.fly=A++(pkF s.self (qaM (lrn w s)).pk++B):=by
 have hlt:=(zZ hi).1;have hl:i<w.mem.length:=by rw[←p.len];exact hlt
 have hs:=zY hl;obtain⟨h1,h2⟩:=p.new i _ (List.mem_range.2 hl) (by rw[←p.dn];exact hd) hs;rw[hi] at h1;exact⟨_,hs,Option.some.inj h1,h2⟩
theorem qa2{s:St}(h:VS s):(qaM s).s.self=s.self∧(qaM s).s.views=s.views∧(qaM s).s.sent=s.sent:=by
 refine⟨qhM h,?_⟩;cases ho:qan s with
 | true=>
  cases hl:qas s with
  | true=>
   rw[(qeF h ho hl).1];obtain⟨a1,a2,a3,a4,a5,a6,a7,a8⟩:=qaK (⟨qbo s,[],[]⟩:Cs);exact⟨a3,a8⟩
  | false=>rw[(qea h ho hl).1];exact⟨rfl,rfl⟩
 | false=>
  cases hl:qas s with
  | true=>
   rw[(qfT h ho hl).1];split
   ·have u:=Up.install ho;exact⟨u.views,u.sent⟩
   ·have u:=Up.install (s:={s with fls:=putF s.fls (s.self,s.base,s.log)}) ho;exact⟨u.views,u.sent⟩
  | false=>rw[(qej h ho hl).1];exact⟨rfl,rfl⟩
theorem Cfg.psd{T:Vw}{w w':Wd}{H:qc8}{S:qdT}(h:Sys v0 k w H S)(c:Cfg T w)(p:Psd (List.range w.mem.length) w w'):Cfg T w':=by
 refine⟨fun i t hi hd=>?_,fun q hq=>?_⟩
 ·obtain⟨s,h1,rfl,_⟩:=p.back hi hd;obtain⟨hV,hs⟩:=qdQ h h1;rw[(qa2 hV).1,hs];exact c.up i s h1 (by rw[←p.dn];exact hd)
 ·obtain⟨i,s,h1,h2,h3⟩:=c.all q hq;obtain⟨g1,_⟩:=p.new i s (List.mem_range.2 (zZ h1).1) h3 h1;obtain⟨hV,hs⟩:=qdQ h h1;exact⟨i,_,g1,by rw[(qa2 hV).1,hs,h2],by rw[p.dn];exact h3⟩
theorem Opn.pass{w w':Wd}{H:qc8}{S:qdT}(h:Sys v0 k w H S)(o:Opn w.views w)(hz:w.fly=[])(p:Psd (List.range w.mem.length) w w'):Opn w'.views w'∧Flt (qad w'.views) w':=by
 rw[p.views];have hlrn:∀(i:Nat) (s:St),w.mem[i]?=some s→qaB w i=false→lrn w s=s:=fun i s hi hd=>by
  rcases qcn h hi with e|⟨e,_⟩
  ·exact e
  ·rw[(o i s hi hd).1] at e;omega
 have hst:∀(i:Nat) (t:St),w'.mem[i]?=some t→qaB w' i=false→∃s,w.mem[i]?=some s∧qaB w i=false∧VS s∧qan s=true∧t=(qaM s).s∧∃A B,w'.fly=A++(pkF s.self (qaM s).pk++B):=fun i t hi hd=>by
  have hd0:qaB w i=false:=by rw[←p.dn];exact hd
  obtain⟨s,h1,h2,h3⟩:=p.back hi hd;rw[hlrn i s h1 hd0] at h2 h3;exact⟨s,h1,hd0,(h.core.here h1).2.1,o.op h1 hd0,h2,h3⟩
 have hin:∀{A B C:List Fly} {f:Fly},C=A++(B++C)→True:=fun _=>trivial;refine⟨fun i t hi hd=>?_,⟨fun f hf=>?_,fun i t hi hd hne=>?_,fun i t hi hd hne=>?_,fun i t hi hd he q hq hqn=>?_⟩⟩
 ·obtain⟨s,h1,hd0,hV,ho,rfl,_⟩:=hst i t hi hd;obtain⟨k1,k2⟩:=o i s h1 hd0;refine⟨(qa2 hV).2.1.trans k1,?_⟩;cases hl:qas s with
  | true=>rw[(qeF hV ho hl).1,(qaK _).2.2.2.1];exact k2
  | false=>rw[(qea hV ho hl).1];exact k2
 ·rcases p.fly f hf with h1|⟨i,s,h0,h1,h2,x,h3,rfl⟩
  ·rw[hz] at h1;cases h1
  ·obtain⟨g1,_⟩:=p.new i s h0 h1 h2;rw[hlrn i s h2 h1] at g1;exact⟨i,_,g1,by rw[p.dn];exact h1,(qa2 (h.core.here h2).2.1).1⟩
 ·obtain⟨s,h1,hd0,hV,ho,rfl,A,B,hf⟩:=hst i t hi hd;obtain⟨k1,k2⟩:=o i s h1 hd0;have hl:qas s=false:=by
   rw[(qa2 hV).1] at hne;unfold qas;rw[k1];simpa using fun e=>hne e.symm
  obtain⟨e1,e2⟩:=qea hV ho hl;rw[e1,hf,e2,k1,k2];simp[pkF]
 ·obtain⟨s,h1,hd0,hV,ho,rfl,A,B,hf⟩:=hst i t hi hd;obtain⟨k1,k2⟩:=o i s h1 hd0;have hl:qas s=false:=by
   rw[(qa2 hV).1] at hne;unfold qas;rw[k1];simpa using fun e=>hne e.symm
  obtain⟨e1,e2⟩:=qea hV ho hl;rw[e1];refine⟨A++pkF s.self [(qa1 (qad s.views),qa3 13 (qav [s.base,s.log.length]))],B,?_⟩;rw[hf,e2];simp[pkF]
 ·obtain⟨s,h1,hd0,hV,ho,rfl,A,B,hf⟩:=hst i t hi hd;obtain⟨k1,k2⟩:=o i s h1 hd0;rw[(qa2 hV).1] at he hqn⊢;have hl:qas s=true:=by unfold qas;rw[k1];simpa using he.symm
  have e2:=(qeF hV ho hl).2 q (by rw[k1];exact hq) hqn;rw[hf];refine List.mem_append.2 (.inr (List.mem_append.2 (.inl ?_)));unfold pkF;exact List.mem_map.2 ⟨_,e2,rfl⟩
end
def FlyIn(w:World)(col:Nat→Nat)(A:Option Addr)(l:List FyM):Prop:=(Row w A (qhv.cells l)∧ColR col 0 A (qhv.cells l))∧∀f∈l,qhv.ok f∧∀r∈qhv.inn f,Row w r.1 r.2∧ColR col 0 r.1 r.2
section
variable {w w':World} {B p c:Nat} {col col':Nat→Nat} {cs:List Nat} {m:WM} {A:Option Addr} {l:List FyM}
theorem FlyIn.keep(h:FlyIn w col A l)(s:Stp B cs col w col' w')(h0:0∉cs):FlyIn w' col' A l:=
 ⟨⟨s.row h.1.1 h.1.2 h0,s.colR h.1.1 h.1.2⟩,fun f hf=>⟨(h.2 f hf).1,fun r hr=>⟨s.row ((h.2 f hf).2 r hr).1 ((h.2 f hf).2 r hr).2 h0,s.colR ((h.2 f hf).2 r hr).1 ((h.2 f hf).2 r hr).2⟩⟩⟩
theorem FlyIn.ext(h:FlyIn w col A l)(e:Ext w w'):FlyIn w' col A l:=⟨⟨h.1.1.ext e,h.1.2⟩,fun f hf=>⟨(h.2 f hf).1,fun r hr=>⟨((h.2 f hf).2 r hr).1.ext e,((h.2 f hf).2 r hr).2⟩⟩⟩
theorem FlyIn.cell{b o k:Nat}{f:FyM}(h:FlyIn w col A l)(hA:A=some (Pq b o))(hf:l[k]?=some f)(j:Nat){u:Value}(hu:(qhv.f f)[j]?=some u):w.cell? (Pq b (o+k*3+j))=some u:=by
 subst hA;have hj:j<3:=by have:=(zZ hu).1;rwa [qhv.len] at this
 have h9:=qhv.cells_at hf j hj;rw[show qhv.k=3 from rfl,hu] at h9;obtain⟨b',o',h1,h2,h3⟩:=h.1.1 (fun e=>by rw[e] at h9;simp at h9);cases h1;rw[Nat.add_assoc];exact h3 _ _ h9
theorem FlyIn.cell0{b o k:Nat}{f:FyM}(h:FlyIn w col A l)(hA:A=some (Pq b o))(hf:l[k]?=some f):w.cell? (Pq b (o+k*3))=some (Jq f.fr):=h.cell hA hf 0 rfl
theorem qpz{k:Nat}(h:FlyIn w col A l)(hk:k<l.length):∃b o f,A=some (Pq b o)∧b<w.heap.size∧w.cell? (Pq b (o+k*3))=some (Jq (FyM.fr f))∧w.cell? (Pq b (o+k*3+1))=some (Jq f.to_)∧w.cell? (Pq b (o+k*3+2))=some (.slice f.A f.bs.length f.c)∧Hid (l[k]?=some f):=by
 have hx:=zY hk;have hne:qhv.cells l≠[]:=fun e=>by have:=qhv.cells_len l;rw[e] at this;simp[qhv] at this;omega
 obtain⟨b,o,h1,h2,h3⟩:=h.1.1 hne;exact⟨b,o,_,h1,h2,h.cell0 h1 hx,h.cell h1 hx 1 rfl,h.cell h1 hx 2 rfl,hJ hx⟩
def hue0(col:Nat→Nat):Nat→Nat:=fun k=>if col k=7 then 0 else col k
theorem qph{c:Nat}{v:Value}(h:ColV col c v)(hc:c≠7):ColV (hue0 col) c v:=fun q hq=>by unfold hue0;rw[h q hq,if_neg hc]
theorem qr1{A:Option Addr}{xs:List Value}(h:ColR col 0 A xs):ColR (hue0 col) 0 A xs:=fun q hne hq=>by unfold hue0;rw[h q hne hq];rfl
theorem Arr.hue0{α:Type}{E:Elem α}{v:Value}{l:List α}(h:Arr E w B col c v l)(hc:c≠7):Arr E w B (hue0 col) c v l:=⟨h.own,qph h.cv hc,fun a ha=>⟨(h.inn a ha).1,fun r hr=>⟨((h.inn a ha).2 r hr).1,qr1 ((h.inn a ha).2 r hr).2⟩⟩⟩
theorem WS.nofly(h:WS w B col p m):WS (w.setCell (Pq p 5) Zq) B (Proofs.YtponbabbabnaeaaGreat.hue0 col) p {m with Af:=none,cf:=0,fly:=[]}∧Below B w (w.setCell (Pq p 5) Zq)∧FlyIn (w.setCell (Pq p 5) Zq) (Proofs.YtponbabbabnaeaaGreat.hue0 col) m.Af m.fly:=by
 have s:=h.field 5 Zq;refine⟨⟨h.box.set 5 _,?_,h.bp,fun k hk=>?_,(h.vs.keep s (by decide) (by decide)).hue0 (by decide),(h.mem.keep s (by decide) (by decide)).hue0 (by decide),(h.down.keep s (by decide) (by decide)).hue0 (by decide),(h.told.keep s (by decide) (by decide)).hue0 (by decide),(h.sent.keep s (by decide) (by decide)).hue0 (by decide),Arr.nil _ _ _ _,fun i t ht=>?_,fun i t ht=>?_⟩,s.below,⟨?_,fun f hf=>?_⟩⟩
 ·unfold Proofs.YtponbabbabnaeaaGreat.hue0;rw[h.pc];rfl
 ·unfold Proofs.YtponbabbabnaeaaGreat.hue0;rw[h.z k (zL s.size hk)];rfl
 ·have:=h.ti.keep s (by decide) i t ht;exact⟨this.1,qph this.2 (by omega)⟩
 ·have:=h.si.keep s (by decide) i t ht;exact⟨this.1,qph this.2 (by omega)⟩
 ·have a:=h.fly.keep s (by decide) (by decide);refine⟨a.row,fun q hne hq=>?_⟩;have hl:0<m.fly.length:=by
   rcases Nat.eq_zero_or_pos m.fly.length with h0|h0
   ·rw[List.length_eq_zero_iff.1 h0] at hne;exact absurd rfl hne
   ·exact h0
  obtain⟨g,n,hv,_,_,_,_,hg,_⟩:=a.addr hl;simp only[Value.slice.injEq] at hv;rw[hq] at hv;have:=Option.some.inj hv.1;unfold Proofs.YtponbabbabnaeaaGreat.hue0;rw[this,hg];rfl
 ·have a:=(h.fly.keep s (by decide) (by decide)).inn f hf;exact⟨a.1,fun r hr=>⟨(a.2 r hr).1,qr1 (a.2 r hr).2⟩⟩
end
theorem qo9{l:List Fly}{w:Wd}{k:Nat}{f:Fly}(h:(qaf (l.take k) w).2=true)(hf:l[k]?=some f):(qaf (l.take (k+1)) w).1=(qbm (qaf (l.take k) w).1 f).1:=by
 rw[List.take_add_one,hf,Option.toList_some,qds _ _ _ h];by_cases hc:(qbm (qaf (l.take k) w).1 f).2=true
 ·rw[qcA hc];rfl
 ·show (if (qbm _ f).2=true then _ else _:Wd×Bool).1=_;rw[if_neg hc]
theorem qig:∀(l l':List Nat) (w:Wd),(qbd l w).2=true→qbd (l++l') w=qbd l' (qbd l w).1
 | [],l',w,_=>rfl
 | i::l,l',w,h=>by
  rw[List.cons_append];have e:∀x,qbd (i::x) w=if (qb7 w i).2 then qbd x (qb7 w i).1 else ((qb7 w i).1,false):=fun x=>rfl
  rw[e] at h⊢;rw[e];by_cases hc:(qb7 w i).2=true
  ·rw[if_pos hc] at h⊢;rw[if_pos hc];exact qig l l' _ h
  ·rw[if_neg hc] at h;simp at h
theorem qo8{w:Wd}{k:Nat}(h:(qbd (List.range k) w).2=true):(qbd (List.range (k+1)) w).1=(qb7 (qbd (List.range k) w).1 k).1:=by
 rw[List.range_succ,qig _ _ _ h];show (if (qb7 _ k).2=true then _ else _:Wd×Bool).1=_;split<;>rfl
theorem qpC(w:Wd)(i:Nat):(qbZ w i).1.mem.length=w.mem.length:=by
 unfold qbZ;simp only
 repeat' split
 all_goals simp[qfv]
theorem qtA{w:Wd}{i:Nat}(h:i<w.mem.length):qeo w i∈w.mem:=by unfold qeo;rw[zY h];exact List.getElem_mem h
structure FineC(w:Wd):Prop where
 fl:w.fly.length≤400
 fb:∀f∈w.fly,f.2.2.length≤1000000
 handok:∀k,k≤w.fly.length→(qaf (w.fly.take k) (qaR w)).2=true
 sys:∀k,k≤w.fly.length→FineW (qaf (w.fly.take k) (qaR w)).1
 hand:∀(k:Nat) (f:Fly),w.fly[k]?=some f→(qbm (qaf (w.fly.take k) (qaR w)).1 f).2=true∧(qak (qeo (qaf (w.fly.take k) (qaR w)).1 (qfw (qaf (w.fly.take k) (qaR w)).1 f.2.1).toNat) f.1 f.2.2).1.pk.length≤100000∧(qak (qeo (qaf (w.fly.take k) (qaR w)).1 (qfw (qaf (w.fly.take k) (qaR w)).1 f.2.1).toNat) f.1 f.2.2).1.dl.length≤100000
 passok:∀j,j≤w.mem.length→(qbd (List.range j) (qaf (w.fly.take w.fly.length) (qaR w)).1).2=true
 pass:∀j,j≤w.mem.length→FineW (qbd (List.range j) (qaf (w.fly.take w.fly.length) (qaR w)).1).1∧(qbd (List.range j) (qaf (w.fly.take w.fly.length) (qaR w)).1).1.mem.length=w.mem.length∧
  (j<w.mem.length→qaB (qbd (List.range j) (qaf (w.fly.take w.fly.length) (qaR w)).1).1 j=false→FineW (qbZ (qbd (List.range j) (qaf (w.fly.take w.fly.length) (qaR w)).1).1 j).1)
theorem qni{w:Wd}(h:FineC w):(qaG w).1=(qbd (List.range w.mem.length) (qaf (w.fly.take w.fly.length) (qaR w)).1).1:=by
 have h1:=h.handok w.fly.length (zR _);unfold qaG;rw[List.take_length] at h1⊢;rw[if_pos h1]
section
variable {v0:Int} {k:Nat} {w w':Wd} {H:qc8} {S:qdT} {T:Vw}
theorem Sys.hands_ind{P:Wd→Prop}:∀(l:List Fly) {w:Wd} {H:qc8} {S:qdT},Sys v0 k w H S→(∀f∈l,f∈w.fly)→P w→(∀w1 H1 S1 f,Sys v0 k w1 H1 S1→Dlv w w1→f∈w1.fly→P w1→P (qbm w1 f).1)→P (qaf l w).1
 | [],w,H,S,h,_,h0,_=>h0
 | f::l,w,H,S,h,hf,h0,hs=>by
  obtain⟨h1,⟨H1,S1,h2⟩,h3,_⟩:=h.hand1 (hf f (by simp));rw[qcA h1];exact Sys.hands_ind l h2 (fun x hx=>by rw[h3.fly];exact hf x (by simp[hx])) (hs w H S f h (Dlv.refl w) (hf f (by simp)) h0) (fun w1 H1 S1 f hw hd hff hp=>hs w1 H1 S1 f hw (h3.trans hd) hff hp)
theorem Dlv.back(d:Dlv w w'){i:Nat}{t:St}(hi:w'.mem[i]?=some t):∃s,w.mem[i]?=some s∧Up s t:=by
 have hlt:=(zZ hi).1;have hs:=zY (show i<w.mem.length by have:=d.len;omega);obtain⟨s2,h1,u,_⟩:=d.up i _ hs;rw[hi] at h1;cases h1;exact⟨_,hs,u⟩
theorem Sys.led(h:Sys v0 k w H S){vs:List Vw}(o:Opn vs w){i j:Nat}{s t:St}(hi:w.mem[i]?=some s)(hdi:qaB w i=false)(hj:w.mem[j]?=some t)(hdj:qaB w j=false)(hl:s.self=qa1 (qad vs)):t.log<+:s.log:=by
 obtain⟨hsm,hV,hp,_⟩:=h.core.here hi;obtain⟨htm,hVt,_,_⟩:=h.core.here hj;have h1:=h.core.led t.self t.base;rw[(h.core.cur t htm).1] at h1;have hb:t.base=s.base:=by rw[(o j t hj hdj).2,(o i s hi hdi).2]
 have hk:qaQ w.views s.base=some (qad s.views):=by
  rw[(o i s hi hdi).2,←(o i s hi hdi).1];exact qbw hV hp
 rw[hb,qeC hk,(o i s hi hdi).1,←hl,(h.core.cur s hsm).1] at h1;exact h1
theorem Sys.logb(h:Sys v0 k w H S){vs:List Vw}(o:Opn vs w){i:Nat}{s:St}(hi:w.mem[i]?=some s)(hd:qaB w i=false):VS s∧qan s=true∧s.base≠-1∧qaY s.log s.base=true∧1≤s.log.length∧s.log.length≤2000∧qil (qad vs).1∧∀e∈s.log,qqc e:=by
 obtain⟨hsm,hV,hp,_⟩:=h.core.here hi;have ho:=o.op hi hd;obtain⟨h1,h2⟩:=hV.open_base ho;obtain⟨l1,l2⟩:=h.core.logE hsm;have hm:qad s.views∈w.views:=(qbb (qbw hV hp)).1;exact⟨hV,ho,h2,hV.based,(hV.log h2).1,l1,by rw[←(o i s hi hd).1];exact h.core.limN hm,l2⟩
theorem qst(h:Sys v0 k w H S)(b:Bnd w)(o:Opn w.views w)(c:Cfg (qad w.views) w)(f:Flt (qad w.views) w){i j:Nat}{s t:St}(hi:w.mem[i]?=some s)(hdi:qaB w i=false)(hj:w.mem[j]?=some t)(hdj:qaB w j=false)
  (hl:s.self=qa1 (qad w.views)) (hne:t.self≠qa1 (qad w.views)) {s':St} (hs':(qaf w.fly w).1.mem[i]?=some s'):t.sent≤qar s'.log t.self:=by
 obtain⟨A,B,hAB⟩:=f.sub j t hj hdj hne;obtain⟨hV,hot,hb,_,_,hlen,hlim,_⟩:=h.logb o hj hdj;have hkey:∀n,n≤qbK t→(∀x∈A++pkF t.self ((List.range n).map (qc4 t)),x∈w.fly)∧∀s1,(qaf (A++pkF t.self ((List.range n).map (qc4 t))) w).1.mem[i]?=some s1→(qar t.log t.self:Int)+n≤qar s1.log t.self:=by
  intro n;induction n with
  | zero=>
   intro _;have hin:∀x∈A++pkF t.self ((List.range 0).map (qc4 t)),x∈w.fly:=fun x hx=>by
    rw[hAB];simp only[List.range_zero,List.map_nil,pkF,List.append_nil] at hx;exact List.mem_append.2 (.inl hx)
   refine⟨hin,fun s1 hs1=>?_⟩;obtain⟨_,_,d⟩:=Sys.hands _ h hin;obtain⟨s0,g1,u⟩:=d.back hs1;rw[hi] at g1;cases g1;obtain⟨r,hr⟩:=(h.led o hi hdi hj hdj hl).trans (u.op (o.op hi hdi)).2.2.1;rw[←hr,qbI];omega
  | succ n ih=>
   intro hn;obtain⟨hin0,ih2⟩:=ih (by omega);have hsp:A++pkF t.self ((List.range (n+1)).map (qc4 t))=(A++pkF t.self ((List.range n).map (qc4 t)))++(t.self,(qc4 t n).1,(qc4 t n).2)::[]:=by
    rw[List.range_succ];simp[pkF]
   have hmem:(t.self,(qc4 t n).1,(qc4 t n).2)∈w.fly:=by
    rw[hAB];refine List.mem_append.2 (.inr (List.mem_append.2 (.inl ?_)));exact List.mem_map.2 ⟨qc4 t n,List.mem_map.2 ⟨n,List.mem_range.2 (by omega),rfl⟩,rfl⟩
   have hin:∀x∈A++pkF t.self ((List.range (n+1)).map (qc4 t)),x∈w.fly:=fun x hx=>by
    rw[hsp] at hx;rcases List.mem_append.1 hx with hx|hx
    ·exact hin0 x hx
    ·rw[List.mem_singleton.1 hx];exact hmem
   refine⟨hin,fun s1 hs1=>?_⟩;rw[hsp] at hs1;obtain⟨q1,⟨H1,S1,q2⟩,q3⟩:=Sys.hands _ h hin0;obtain⟨s0,g1,u,_⟩:=q3.up i s hi;rw[qds _ _ _ q1] at hs1;obtain⟨p1,_,_,p4⟩:=q2.hand1 (f:=(t.self,(qc4 t n).1,(qc4 t n).2)) (by rw[q3.fly];exact hmem);rw[qcA p1] at hs1;obtain⟨u1,u2,u3,_⟩:=u.op (o.op hi hdi);have hv0:s0.views=w.views:=u.views.trans (o i s hi hdi).1;obtain⟨m,m1,m2,m3⟩:=p4 i s0 g1 (by
    rw[u.self,hl];show _=qa1 (qad t.views);rw[(o j t hj hdj).1]) (by rw[q3.dn];exact hdi)
   have hfn:(n:Int)<t.sent - qar t.log t.self:=by unfold qbK at hn;omega
   have hse:=hV.sent;have hm:m=⟨11,t.base,qar t.log t.self+1+n,0,qcg t (qar t.log t.self+1+n),[]⟩:=by
    have:qa7 (qc4 t n).2=_:=qhl (by rw[(o j t hj hdj).2];exact hlim) ⟨by omega,by omega⟩ (qfW hV.pp _);have m1':qa7 (qc4 t n).2=some m:=m1;rw[this] at m1';exact(Option.some.inj m1').symm
   have hnum:m.num=(qad s0.views).1:=by rw[hm,hv0];exact(o j t hj hdj).2
   rw[if_pos hnum] at m3;have hs1':(qao ⟨s0,[],[]⟩ t.self m).s=s1:=by
    have h9:(qbm (qaf (A++pkF t.self ((List.range n).map (qc4 t))) w).1 (t.self,(qc4 t n).1,(qc4 t n).2)).1.mem[i]?=some s1:=hs1;rw[m3] at h9;exact Option.some.inj h9
   have hlead:qas s0=true:=by unfold qas;rw[hv0,u.self,hl];simp
   have hsm:=q2.small_s (b.dlv q3) (zX g1);have hown:=ih2 s0 g1;have he:=qnf u1 hlead (fr:=t.self) (m:=m) (by rw[hv0];exact c.up j t hj hdj) (by rw[hm]) (by omega) (by rw[hm];show (qar t.log t.self:Int)+1+n≤_;omega);rw[hs1',hm] at he;have:((qar t.log t.self:Int)+1+n)≤qar s1.log t.self:=he;omega
 obtain⟨hin,hk⟩:=hkey (qbK t) (zR _);obtain⟨q1,⟨H1,S1,q2⟩,q3⟩:=Sys.hands _ h hin;obtain⟨s0,g1,u⟩:=q3.up i s hi;have h2:=hk s0 g1;have hB:∀x∈B,x∈(qaf (A++pkF t.self ((List.range (qbK t)).map (qc4 t))) w).1.fly:=fun x hx=>by
  rw[q3.fly,hAB];exact List.mem_append.2 (.inr (List.mem_append.2 (.inr hx)))
 obtain⟨_,_,p3⟩:=Sys.hands B q2 hB;have e:qaf w.fly w=qaf B (qaf (A++pkF t.self ((List.range (qbK t)).map (qc4 t))) w).1:=by
  rw[←qds _ _ _ q1,List.append_assoc,←hAB]
 rw[e] at hs';obtain⟨s2,g2,u2,_⟩:=p3.up i s0 g1;rw[hs'] at g2;cases g2;obtain⟨r,hr⟩:=(u2.op (u.1.op (o.op hi hdi)).1).2.2.1;rw[←hr,qbI];unfold qbK at h2;omega
end
end Go.Proofs.YtponbabbabnaeaaGreat
