/- Part 3 of the proof: contracts of functions that the statement reaches. Conditions: as each theorem says. -/
import Derived.Deep.AppendLies
import Derived.Laws.BytesString
import Derived.Laws.Cells
import Derived.Lib.LazyBuf
import Derived.RegionTactic
import Derived.Deep.RegionHeld3
import Derived.Test.YtponbabbabnaeaaGreatQf02
import Derived.Test.YtponbabbabnaeaaGreatQf01
set_option maxRecDepth 100000
set_option maxHeartbeats 40000000
namespace Go.Proofs.YtponbabbabnaeaaGreat
theorem qrn(id:Int)(xs:List Int):∀k,0≤find id xs k↔id∈xs:=by
 induction xs with
 | nil=>intro k;simp[find]
 | cons x xs ih=>
  intro k;unfold find;split
  ·next h=>subst h;simp
  ·next h=>rw[ih (k+1)];simp[Ne.symm h]
theorem qbq{xs:List Int}{id:Int}:qbN xs id=true↔id∈xs:=by
 unfold qbN qnw;rw[zE];exact qrn id xs 0
theorem qs7{xs:List Int}{id:Int}:qbN xs id=false↔id∉xs:=by
 rw[←qbq];simp
theorem qbS{l m:List Int}{x:Int}:x∈qbR l m false↔x∈l∧x∉m:=by
 unfold qbR;rw[List.mem_filter];simp[qs7]
theorem qdO{l m:List Int}{b:Bool}(h:l.Pairwise (·<·)):(qbR l m b).Pairwise (·<·):=List.Pairwise.filter _ h
theorem qfh{a b:List Int}{x:Int}:x∈qaW a b↔x∈a∨x∈b:=by unfold qaW;exact List.mem_merge
theorem qgB(a b:List Int):(qaW a b).length=a.length+b.length:=by unfold qaW;simp
theorem qfQ:∀(a b:List Int),a.Pairwise (·<·)→b.Pairwise (·<·)→(∀x,x∈a→x∉b)→(qaW a b).Pairwise (·<·):=by
 intro a;induction a with
 | nil=>intro b _ hb _;rw[qeh];exact hb
 | cons x a iha=>
  intro b;induction b with
  | nil=>intro ha _ _;rw[qck];exact ha
  | cons y b ihb=>
   intro ha hb hd;have ha':=List.pairwise_cons.1 ha;have hb':=List.pairwise_cons.1 hb;by_cases h:x≤y
   ·rw[qee h];refine List.pairwise_cons.2 ⟨fun z hz=>?_,iha (y::b) ha'.2 hb (fun z hz=>hd z (by simp[hz]))⟩;rcases qfh.1 hz with hz|hz
    ·exact ha'.1 z hz
    ·have hne:x≠y:=fun e=>hd x (by simp) (by simp[e]);rcases zC.1 hz with rfl|hz
     ·omega
     ·have:=hb'.1 z hz;omega
   ·rw[qf3 (by omega)];refine List.pairwise_cons.2 ⟨fun z hz=>?_,ihb ha hb'.2 (fun z hz hz'=>hd z hz (by simp[hz']))⟩;rcases qfh.1 hz with hz|hz
    ·rcases zC.1 hz with rfl|hz
     ·omega
     ·have:=ha'.1 z hz;omega
    ·exact hb'.1 z hz
theorem qiC:∀(a b:List Int),a.Pairwise (·<·)→b.Pairwise (·<·)→(∀x,x∈a↔x∈b)→a=b:=by
 intro a;induction a with
 | nil=>
  intro b _ _ h;cases b with
  | nil=>rfl
  | cons y b=>have:=(h y).2 (by simp);simp at this
 | cons x a ih=>
  intro b ha hb h;cases b with
  | nil=>have:=(h x).1 (by simp);simp at this
  | cons y b=>
   have ha':=List.pairwise_cons.1 ha;have hb':=List.pairwise_cons.1 hb;have e:x=y:=by
    rcases zC.1 ((h x).1 (by simp)) with e|h1
    ·exact e
    ·rcases zC.1 ((h y).2 (by simp)) with e|h2
     ·exact e.symm
     ·have:=hb'.1 x h1;have:=ha'.1 y h2;omega
   subst e;rw[ih b ha'.2 hb'.2 (fun z=>?_)];constructor
   ·intro hz;rcases zC.1 ((h z).1 (by simp[hz])) with e|h1
    ·subst e;have:=ha'.1 z hz;omega
    ·exact h1
   ·intro hz;rcases zC.1 ((h z).2 (by simp[hz])) with e|h1
    ·subst e;have:=hb'.1 z hz;omega
    ·exact h1
theorem qhP{num:Int}{xs cut:List Int}{n:Int}{ys:List Int}(h:qb9 num xs cut=(n,ys,0)) :
  qcu num xs cut=true∧n=num+1∧num<1099511627776∧ys=qaW (qbR xs cut false) (qbR cut xs false)∧ys.Pairwise (·<·)∧(∀x,x∈ys↔(x∈xs∧x∉cut)∨(x∈cut∧x∉xs))∧
  xs.length<2*(qbR xs cut false).length∧(qbR xs cut false).length+(qbR cut xs false).length≤16∧qap n ys=true:=by
 cases ho:qcu num xs cut
 ·rw[show qb9 num xs cut=(0,[],1) from if_pos ho] at h;simp at h
 ·by_cases h1:2*(qau num xs cut).length≤xs.length
  ·rw[qhu ho h1] at h;simp at h
  ·by_cases h2:num=1099511627776∨16<(qau num xs cut).length+(qa6 num xs cut).length
   ·rw[qeX ho h1 h2] at h;simp at h
   ·rw[qi5 ho h1 h2] at h;simp only[Prod.mk.injEq,and_true] at h;obtain⟨rfl,rfl⟩:=h;have hs:qau num xs cut=qbR xs cut false:=if_pos ho;have hj:qa6 num xs cut=qbR cut xs false:=if_pos ho;rw[hs] at h1;rw[hs,hj] at h2;have hv:=qbg.1 ho;have hxs:=qcb (qbC hv.1);have hcs:=qcb hv.2;have hnum:=qaV hv.1;have hsort:(qaW (qbR xs cut false) (qbR cut xs false)).Pairwise (·<·):=
     qfQ _ _ (qdO hxs) (qdO hcs) (fun x h h'=>(qbS.1 h').2 (qbS.1 h).1)
    have hmem:∀x,x∈qaW (qbR xs cut false) (qbR cut xs false)↔(x∈xs∧x∉cut)∨(x∈cut∧x∉xs):=fun x=>by rw[qfh,qbS,qbS]
    refine⟨rfl,rfl,by omega,by rw[hs,hj],by rw[hs,hj];exact hsort,by rw[hs,hj];exact hmem,by omega,by omega,?_⟩;rw[hs,hj];have h3:=qgB (qbR xs cut false) (qbR cut xs false);rw[qgI (by omega) (by omega)];refine(qcN (m:=16)).2 ⟨by omega,by omega,hsort,fun x hx=>?_⟩;rcases(hmem x).1 hx with hx|hx
    ·exact((qcN (m:=16)).1 (qbC hv.1)).2.2.2 x hx.1
    ·exact((qcN (m:=32)).1 hv.2).2.2.2 x hx.1
theorem qks{n m:Int}{xs ys:List Int}(h:qap n xs=true)(h':qap m ys=true):(qfD n xs m ys).Pairwise (·<·)∧∀x,x∈qfD n xs m ys↔(x∈xs∧x∉ys)∨(x∈ys∧x∉xs):=by
 rw[qkk h h'];have h1:=qcb (qbC h);have h2:=qcb (qbC h');exact⟨qfQ _ _ (qdO h1) (qdO h2) (fun x h h'=>(qbS.1 h').2 (qbS.1 h).1),fun x=>by rw[qfh,qbS,qbS]⟩
theorem qor{num:Int}{xs cut:List Int}{n:Int}{ys:List Int}(h:qb9 num xs cut=(n,ys,0)):qfD num xs n ys=cut∧qfD n ys num xs=cut:=by
 obtain⟨ho,_,_,_,_,hm,_,_,hv⟩:=qhP h;have hv0:=(qbg.1 ho).1;have hc:=qcb (qbg.1 ho).2;have h1:=qks hv0 hv;have h2:=qks hv hv0;refine⟨qiC _ _ h1.1 hc fun x=>?_,qiC _ _ h2.1 hc fun x=>?_⟩
 ·rw[h1.2,hm];by_cases h1:x∈xs<;>by_cases h2:x∈cut<;>simp[h1,h2]
 ·rw[h2.2,hm];by_cases h1:x∈xs<;>by_cases h2:x∈cut<;>simp[h1,h2]
structure Ent where
 v:Int
 o:Int
 q:Int
 p:List UInt8
 deriving DecidableEq
abbrev Vw:=Int×List Int
abbrev Fls:=Int×Int×List Ent
structure St where
 self:Int
 views:List Vw
 base:Int
 log:List Ent
 stable:Int
 sent:Int
 pend:List (List UInt8)
 marks:List (Int×Int)
 fls:List Fls
 deriving DecidableEq
def qab(n:Int)(xs:List Int):Ent:=⟨n,0,n,qqe n xs⟩
def qcq(e:Ent):Bool:=decide ((qhc e.p).2.2.2=0)&&(decide ((qhc e.p).2.2.1=e.p.length)&&decide (e=qab (qhc e.p).1 (qhc e.p).2.1))
def qar(l:List Ent)(o:Int):Nat:=l.countP fun e=>e.o == o
def qev(l:List Ent)(i:Nat):Int:=match l[i - 1]? with|some e=>e.v|none=>0
def qcP(l:List Ent)(i:Nat)(e:Ent):Bool:=
 if i=0∨e.v≠qev l i then (decide (i=0)||decide (qev l i≤e.v))&&qcq e
 else qcl e.o&&(decide (e.p.length≤6000)&&decide (e.q=qar (l.take i) e.o+1))
def qhG(l:List Ent)(i:Nat):Bool:=match l[i]? with|some e=>qcP l i e|none=>true
def qax(l:List Ent):Bool:=decide (l.length≤2000)&&(List.range l.length).all (qhG l)
theorem qcK{l:List Ent}{i:Nat}{e:Ent}(h:l[i]?=some e):qhG l i=qcP l i e:=by unfold qhG;rw[h]
theorem qpU{l:List Ent}(h:¬l.length≤2000):qax l=false:=by unfold qax;rw[decide_eq_false h];rfl
theorem qgz{l:List Ent}{i:Nat}{e:Ent}(h:l[i]?=some e)(hn:qcP l i e=false):qax l=false:=by
 unfold qax;rw[show (List.range l.length).all (qhG l)=false from by
  rw[List.all_eq_false];exact⟨i,List.mem_range.2 (zZ h).1,by rw[qcK h,hn];simp⟩,Bool.and_false]
theorem qma{l:List Ent}(hl:l.length≤2000)(h:∀i,i<l.length→qhG l i=true):qax l=true:=by
 unfold qax;rw[decide_eq_true hl,show (List.range l.length).all (qhG l)=true from by rw[List.all_eq_true];exact fun i hi=>h i (List.mem_range.1 hi)];rfl
theorem qc6{l:List Ent}(h:qax l=true):l.length≤2000∧∀i,i<l.length→qhG l i=true:=by
 unfold qax at h;simp only[zB,zE,List.all_eq_true,List.mem_range] at h;exact h
def qbD(a b:Vw):Bool:=decide (qb9 a.1 a.2 (qfD a.1 a.2 b.1 b.2)=(b.1,b.2,0))
def qbu(l:List Vw)(i:Nat):Vw:=(l[i]?).getD (0,[])
def qaw(l:List Vw):Bool:=decide (1≤l.length)&&(decide (l.length≤2000)&&(qap (qbu l 0).1 (qbu l 0).2&&(List.range (l.length - 1)).all fun i=>qbD (qbu l i) (qbu l (i+1))))
def qad(l:List Vw):Vw:=qbu l (l.length - 1)
def qaQ(l:List Vw)(n:Int):Option Vw:=l.find? fun v=>v.1 == n
def qca(l:List Ent):Int:=match l[l.length - 1]? with|some e=>e.v|none=>0
def qaY(l:List Ent)(base:Int):Bool:=if base = -1 then decide (l.length=0) else decide (0<l.length)&&(qax l&&decide (qca l=base))
def qbL(vs:List Vw)(f:Fls):Bool:=
 (if f.2.1 = -1 then true else match qaQ vs f.2.1 with|none=>false|some v=>decide (f.2.1<(qad vs).1)&&qbN v.2 f.1)&&qaY f.2.2 f.2.1
def qa1(v:Vw):Int:=if qap v.1 v.2 then (v.2[0]?).getD 0 else 0
def qan(s:St):Bool:=decide (s.base=(qad s.views).1)
def qas(s:St):Bool:=decide (qa1 (qad s.views)=s.self)
def qsn(l:List (Int×Int))(i:Nat):Int:=if i=0 then 0 else ((l[i - 1]?).getD (0,0)).1
def qfY(s:St)(i:Nat)(m:Int×Int):Bool:=decide (qsn s.marks i<m.1)&&(decide (m.1≠s.self)&&(qbN (qad s.views).2 m.1&&(decide (0≤m.2)&&decide (m.2≤s.log.length))))
def qrR(l:List Fls)(i:Nat):Int:=if i=0 then 0 else ((l[i - 1]?).getD (0,0,[])).1
def qtt(s:St)(i:Nat)(f:Fls):Bool:=decide (qrR s.fls i<f.1)&&(qcl f.1&&qbL s.views f)
def qbA(s:St)(i:Nat):Bool:=match s.marks[i]? with|some m=>qfY s i m|none=>true
def qdH(s:St)(i:Nat):Bool:=match s.fls[i]? with|some f=>qtt s i f|none=>true
def qcx(s:St):Bool:=
 (decide (s.marks.length=0)||(qan s&&qas s))&&((decide (s.fls.length=0)||(!qan s&&qas s))&&((List.range s.marks.length).all (qbA s)&&(List.range s.fls.length).all (qdH s)))
def qbF(s:St):Bool:=
 qcl s.self&&(qaw s.views&&(decide (0≤s.sent)&&(decide (s.sent≤1099511627776)&&(qaY s.log s.base&&
 ((decide (s.base = -1)||(match qaQ s.views s.base with|none=>false|some v=>qbN v.2 s.self))&&
 (decide ((qar s.log s.self:Int)≤s.sent)&&(decide (0≤s.stable)&&(decide (s.stable≤s.log.length)&&
 (decide (s.pend.length≤32)&&(decide ((s.pend.length:Int)=s.sent - qar (s.log.take s.stable.toNat) s.self)&&
 ((s.pend.all fun p=>decide (p.length≤6000))&&qcx s)))))))))))
open Go.RowKit
theorem qrZ {P : Prop} (h : P := by
 exact⟨(hob.2 q hq).1,fun r hr=>⟨((hob.2 q hq).2 r hr).1.grown h3 ((hob.2 q hq).2 r hr).2,qjA ((hob.2 q hq).2 r hr).1 ((hob.2 q hq).2 r hr).2 hst⟩⟩) : P := h
theorem qrY {P : Prop} (h : P := by
 intro e;have:=E.cells_len news;rw[e] at this;have:0<news.length*E.k:=Nat.mul_pos (by omega) E.pos;simp at *;omega) : P := h
structure Elem(α:Type) where
 f:α→List Value
 k:Nat
 ty:TypeId
 st:TypeId
 z:Value
 bytes:Nat
 inn:α→List (Option Addr×List Value)
 ok:α→Prop
 len:∀a,(f a).length=k
 one:∀a,∀u∈f a,u.oneCell'=true
 pos:0<k
 und:Tryz.prog.underlying st=some (.slice ty)
 info:(Tryz.prog.info? ty).map (fun i=>(i.zero,i.size,i.bytes))=some (some z,k,bytes)
 zk:z.cells.size=k
 small:bytes≤512
section
variable {α:Type} (E:Elem α)
def Elem.cells(l:List α):List Value:=l.flatMap E.f
theorem Elem.cells_cons(a:α)(l:List α):E.cells (a::l)=E.f a++E.cells l:=rfl
theorem Elem.cells_len(l:List α):(E.cells l).length=l.length*E.k:=by
 induction l with
 | nil=>simp[Elem.cells]
 | cons a l ih=>rw[E.cells_cons,zA,E.len,ih,zK,Nat.succ_mul];omega
theorem Elem.cells_append(a b:List α):E.cells (a++b)=E.cells a++E.cells b:=by simp[Elem.cells]
theorem Elem.cells_one(l:List α):∀u∈E.cells l,u.oneCell'=true:=by
 intro u hu;obtain⟨a,_,ha⟩:=List.mem_flatMap.1 hu;exact E.one a u ha
theorem Elem.cells_at{l:List α}:∀{i:Nat} {a:α},l[i]?=some a→∀j,j<E.k→(E.cells l)[i*E.k+j]?=(E.f a)[j]?:=by
 induction l with
 | nil=>intro i a h;simp at h
 | cons x l ih=>
  intro i a h j hj;rw[E.cells_cons]
  match i,h with
  | 0,h=>
   simp only[List.getElem?_cons_zero,zJ] at h;subst h;rw[Nat.zero_mul,Nat.zero_add,List.getElem?_append_left (by rw[E.len];exact hj)]
  | i+1,h=>
   have h1:=ih (i:=i) (a:=a) (by simpa using h) j hj;rw[List.getElem?_append_right (by rw[E.len,Nat.succ_mul];omega),E.len,show (i+1)*E.k+j - E.k=i*E.k+j from by rw[Nat.succ_mul];omega];exact h1
def Elem.Box(w:World)(A:Option Addr)(l:List α):Prop:=Row w A (E.cells l)∧∀a∈l,E.ok a∧∀r∈E.inn a,Row w r.1 r.2
variable {E}
theorem Elem.Box.ext{w w':World}{A:Option Addr}{l:List α}(h:E.Box w A l)(e:Ext w w'):E.Box w' A l:=⟨h.1.ext e,fun a ha=>⟨(h.2 a ha).1,fun r hr=>((h.2 a ha).2 r hr).ext e⟩⟩
theorem Elem.Box.nil(w:World)(A:Option Addr):E.Box w A []:=⟨Row.nil _ _,fun a ha=>by simp at ha⟩
theorem Elem.Box.at_{w:World}{A:Option Addr}{l:List α}{i:Nat}(h:E.Box w A l)(hi:i<l.length) :
  ∃b off a,A=some (Pq b off)∧b<w.heap.size∧Hid (∀j u,(E.f a)[j]?=some u→w.cell? (Pq b (off+i*E.k+j))=some u)∧Hid (E.ok a∧∀r∈E.inn a,Row w r.1 r.2)∧Hid (l[i]?=some a):=by
 have hl:i*E.k<(E.cells l).length:=by rw[E.cells_len];exact Nat.mul_lt_mul_of_pos_right hi E.pos
 obtain⟨b,off,h1,h2,h3⟩:=h.1.addr hl;refine⟨b,off,l[i],h1,h2,fun j u hj=>?_,h.2 _ (List.getElem_mem hi),zY hi⟩;have hjk:j<E.k:=by have:=(zZ hj).1;rwa [E.len] at this
 rw[Nat.add_assoc];exact h3 _ _ (by rw[E.cells_at (zY hi) j hjk];exact hj)
variable (E)
def Elem.Own(w:World)(B:Nat)(v:Value)(l:List α):Prop:=w.ownsRow B E.ty E.k v l.length (E.cells l)
variable {E}
theorem Elem.Own.nil(w:World)(B:Nat):E.Own w B Zq []:=⟨by simp[Elem.cells],.inl ⟨rfl,rfl⟩⟩
theorem Elem.Own.slice{w:World}{B:Nat}{v:Value}{l:List α}(h:E.Own w B v l):∃A c,v=.slice A l.length c∧l.length≤c∧c≤maxLen∧Row w A (E.cells l):=by
 obtain⟨_,h2⟩:=h;rcases h2 with ⟨rfl,hn⟩|⟨g,cap,cur,rfl,_,hh,h3,h4,h5,h6⟩
 ·have:l=[]:=List.eq_nil_of_length_eq_zero hn;subst this;exact⟨none,0,rfl,zR _,zO _,Row.nil _ _⟩
 ·refine⟨some (Pq g 0),cap,rfl,h3,h4,fun _=>⟨g,0,rfl,?_,fun j u hj=>?_⟩⟩
  ·rcases Nat.lt_or_ge g w.heap.size with hlt|hge
   ·exact hlt
   ·rw[Array.getElem?_eq_none hge] at hh;cases hh
  ·have hc:=cell_of_row w g (0+j) cur E.ty (0,0) hh;rw[hc];rw[←h6] at hj;simp only[List.getElem?_take] at hj;split at hj
   ·simpa using hj
   ·cases hj
theorem Elem.Own.row{w:World}{B:Nat}{A:Option Addr}{n c:Nat}{l:List α}(h:E.Own w B (.slice A n c) l):Row w A (E.cells l):=by
 obtain⟨A',c',hv,_,_,hr⟩:=h.slice;cases hv;exact hr
theorem Elem.Own.lt{w:World}{B:Nat}{v:Value}{l:List α}(h:E.Own w B v l):∀k,v.ownBlock=some k→B≤k∧k<w.heap.size:=by
 obtain⟨_,h2⟩:=h;rcases h2 with ⟨rfl,_⟩|⟨k,cap,cur,rfl,h3,hh,_⟩
 ·intro k hk;simp[Value.ownBlock] at hk
 ·intro k' hk;simp only[Value.ownBlock,zJ] at hk;subst hk;refine⟨h3,?_⟩;rcases Nat.lt_or_ge k w.heap.size with hlt|hge
  ·exact hlt
  ·rw[Array.getElem?_eq_none hge] at hh;cases hh
theorem Elem.Own.keep{a w':World}{B:Nat}{v:Value}{l:List α}(h:E.Own a B v l)(hb:∀k,v.ownBlock=some k→k<a.heap.size→w'.heap[k]?=a.heap[k]?):E.Own w' B v l:=by
 have hlt:=h.lt;obtain⟨h1,h2⟩:=h;refine⟨h1,?_⟩;rcases h2 with h2|⟨k,cap,cur,hv,h3,hh,r⟩
 ·exact .inl h2
 ·have hk:v.ownBlock=some k:=by rw[hv];rfl
  exact .inr ⟨k,cap,cur,hv,h3,by rw[hb k hk (hlt k hk).2];exact hh,r⟩
theorem Elem.Own.ext{a w':World}{B:Nat}{v:Value}{l:List α}(h:E.Own a B v l)(g:Ext a w'):E.Own w' B v l:=h.keep fun k _ hlt=>g.block k hlt
theorem Elem.Own.base{w:World}{B B':Nat}{v:Value}{l:List α}(h:E.Own w B v l)(hb:B'≤B):E.Own w B' v l:=by
 obtain⟨h1,h2⟩:=h;refine⟨h1,?_⟩;rcases h2 with h2|⟨k,cap,cur,hv,h3,r⟩
 ·exact .inl h2
 ·exact .inr ⟨k,cap,cur,hv,zL hb h3,r⟩
def Apt(v:Value)(r:Option Addr×List Value):Prop:=∀p q,r.2≠[]→r.1=some p→v.ownBlock=some q→q≠p.block
variable (E)
def Elem.OB(w:World)(B:Nat)(v:Value)(l:List α):Prop:=E.Own w B v l∧∀a∈l,E.ok a∧∀r∈E.inn a,Row w r.1 r.2∧Apt v r
variable {E}
theorem Elem.OB.ext{w w':World}{B:Nat}{v:Value}{l:List α}(h:E.OB w B v l)(e:Ext w w'):E.OB w' B v l:=⟨h.1.ext e,fun a ha=>⟨(h.2 a ha).1,fun r hr=>⟨((h.2 a ha).2 r hr).1.ext e,((h.2 a ha).2 r hr).2⟩⟩⟩
theorem Elem.OB.nil(w:World)(B:Nat):E.OB w B Zq []:=⟨Elem.Own.nil _ _,fun a ha=>by simp at ha⟩
theorem Elem.OB.slice{w:World}{B:Nat}{v:Value}{l:List α}(h:E.OB w B v l):∃A c,v=.slice A l.length c∧l.length≤c∧c≤maxLen∧E.Box w A l:=by
 obtain⟨A,c,hv,h1,h2,h3⟩:=h.1.slice;exact⟨A,c,hv,h1,h2,h3,fun a ha=>⟨(h.2 a ha).1,fun r hr=>((h.2 a ha).2 r hr).1⟩⟩
theorem qgV{w:World}{A:Option Addr}{vs:List Value}{p:Addr}(h:Row w A vs)(hne:vs≠[])(hp:A=some p):p.block<w.heap.size:=by
 obtain⟨b,off,h1,h2,_⟩:=h hne;rw[hp] at h1;cases h1;exact h2
theorem Row.grown{a w':World}{v:Value}{r:Option Addr×List Value}(h:Row a r.1 r.2)(g:Grew a w' v)(hne:Apt v r):Row w' r.1 r.2:=by
 intro hx;obtain⟨b,off,h1,h2,h3⟩:=h hx;refine⟨b,off,h1,Nat.lt_of_lt_of_le h2 g.size,fun j u hj=>?_⟩;have hb:w'.heap[b]?=a.heap[b]?:=g.block b h2 (fun e=>hne _ _ hx h1 e.symm rfl);have:=h3 j u hj;unfold World.cell? at *;simpa only[hb] using this
theorem qjA{W:World}{v v':Value}{r:Option Addr×List Value}(h:Row W r.1 r.2)(ha:Apt v r)(hs:Stems W v v'):Apt v' r:=by
 intro p q hne hp hq;rcases hs with hs|⟨k,hk,hle⟩
 ·exact ha p q hne hp (hs▸hq)
 ·have:=qgV h hne hp;rw[hk] at hq;cases hq;omega
theorem qsF{w wr:World}{v:Value}{l:List α}{B:Nat}{r:Option Addr×List Value}(h:Row w r.1 r.2)(hw:w.heap.size≤B)(ho:E.Own wr B v l):Apt v r:=by
 intro p q hne hp hq;have:=qgV h hne hp;have:=(ho.lt q hq).1;omega
theorem qhj{wc:World}{v:Value}{l:List α}{B:Nat}{r:Option Addr×List Value}(h:∀p,r.2≠[]→r.1=some p→wc.heap.size≤p.block)(ho:E.Own wc B v l):Apt v r:=by
 intro p q hne hp hq;have:=h p hne hp;have:=(ho.lt q hq).2;omega
theorem Elem.info_parts(E:Elem α):∃i,Tryz.prog.info? E.ty=some i∧i.zero=some E.z∧i.size=E.k∧i.bytes=E.bytes:=by
 have h:=E.info;cases hi:Tryz.prog.info? E.ty with
 | none=>simp[hi] at h
 | some i=>simp[hi] at h;exact⟨i,rfl,h.1,h.2.1,h.2.2⟩
theorem qh5{o:Oper}{a:Act}{K:Act→World→Prop}{Q:Exit→Act→World→Prop}(E:Elem α)(s x:Operand)
  (ho:o.op=.call {callee:=.builtin .append,args:=#[s,x],argTypes:=#[E.st,E.st]})
  (W:World) (B:Nat) (v:Value) (l:List α) (hs:a.eval s=v) (ad:Addr) (m c:Nat) (news:List α) (hx:a.eval x=.slice (some ad) m c) (hm:m=news.length) (hr:Row W (some ad) (E.cells news)) (hp:0<m)
  (hob:E.OB W B v l) (hgood:∀q∈news,E.ok q∧∀r∈E.inn q,Row W r.1 r.2∧Apt v r) (hl:l.length+m≤20000000) (hB:B≤W.heap.size)
  (h:∀v' w',E.OB w' B v' (l++news)→Grew W w' v→Stems W v v'→K (a.put o.dst v') w'):Oper.wp Tryz.prog o a W K Q:=by
 obtain⟨i0,hi,hz0,hz1',hz2⟩:=E.info_parts;have hne:E.cells news≠[]:=by
  exact qrY
 refine wp_append_lies W s x _ ho B _ i0 _ E.k E.bytes E.und hi hz0 hz1' hz2 E.zk E.pos v l.length (E.cells l) hs hob.1 ad m c (E.cells news) hx (by rw[E.cells_len,hm]) ?_ (E.cells_one _) hp (by unfold maxLen;omega) ?_ hB _ rfl ?_
 ·intro j u hj;obtain⟨b,off,hh,_,h3⟩:=hr hne;cases hh;have:=h3 j u hj;unfold Addr.add;split
  ·next h0=>subst h0;simpa using this
  ·exact this
 ·calc (l.length+m)*E.bytes≤20000000*512:=Nat.mul_le_mul hl E.small
   _≤_:=by decide
 ·intro g cap w' h2 h3 h4 h5;have hl1:(l++news).length=l.length+m:=by rw[zA,hm]
  have hst:Stems W v (Value.slice (some (Pq g 0)) (l.length+m) cap):=by
   rcases h4 with h4|h4
   ·exact .inl (by rw[h4];rfl)
   ·exact .inr ⟨g,rfl,Nat.le_of_eq h4.symm⟩
  refine h _ w' ⟨?_,fun q hq=>?_⟩ h3 hst
  ·unfold Elem.Own;rw[hl1,E.cells_append];exact h2
  ·rcases List.mem_append.1 hq with hq|hq
   ·exact qrZ
   ·exact⟨(hgood q hq).1,fun r hr=>⟨((hgood q hq).2 r hr).1.grown h3 ((hgood q hq).2 r hr).2,qjA ((hgood q hq).2 r hr).1 ((hgood q hq).2 r hr).2 hst⟩⟩
theorem qcr{ops:Array Oper}{rest:List Oper}{o:Oper}{a:Act}{Q:Exit→Act→World→Prop}(E:Elem α)(hgd:o.guard=none)(s x:Operand)
  (ho:o.op=.call {callee:=.builtin .append,args:=#[s,x],argTypes:=#[E.st,E.st]})
  (W:World) (B:Nat) (v:Value) (l:List α) (hs:a.eval s=v) (A:Option Addr) (m c:Nat) (news:List α) (hx:a.eval x=.slice A m c) (hm:m=news.length) (hr:Row W A (E.cells news))
  (hob:E.OB W B v l) (hgood:∀q∈news,E.ok q∧∀r∈E.inn q,Row W r.1 r.2∧Apt v r) (hl:l.length+m≤20000000) (hB:B≤W.heap.size)
  (h:∀v' w',E.OB w' B v' (l++news)→Grew W w' v→Stems W v v'→wpList Tryz.prog ops Q rest (a.put o.dst v') w'):wpList Tryz.prog ops Q (o::rest) a W:=by
 rcases Nat.eq_zero_or_pos m with hz|hp
 ·have hn:news=[]:=List.eq_nil_of_length_eq_zero (by omega);subst hn;subst hz;obtain⟨i0,hi,hz0,hz1',hz2⟩:=E.info_parts;rcases A with _|ad
  ·exact qgd W hgd s x _ ho B _ i0 E.k E.und hi v l.length (E.cells l) hs hob.1 c hx (h v W (by rw[List.append_nil];exact hob) ⟨rfl,rfl,rfl,zR _,fun _ _ _=>rfl⟩ (.inl rfl))
  ·refine wpList_append_own_at _ hgd s x _ ho B _ i0 _ E.k E.bytes E.und hi hz0 hz1' hz2 E.zk E.pos v l.length (E.cells l) hs hob.1 ad 0 c [] hx (by simp) (fun j u hj=>by simp at hj) (fun u hu=>by simp at hu) (by unfold maxLen;omega) ?_ hB ?_
   ·calc (l.length+0)*E.bytes≤20000000*512:=Nat.mul_le_mul hl E.small
     _≤_:=by decide
   ·intro v' w' h2 h3 _ h4;have hst:Stems W v v':=by
     rcases h4 with h4|h4
     ·exact .inl h4
     ·exact .inr ⟨_,h4,zR _⟩
    refine h v' w' ⟨?_,fun q hq=>?_⟩ h3 hst
    ·unfold Elem.Own;rw[List.append_nil];rw[List.append_nil] at h2;exact h2
    ·rw[List.append_nil] at hq;exact qrZ
 ·rcases A with _|ad
  ·exfalso;have hne:E.cells news≠[]:=by
    exact qrY
   obtain⟨b,off,hh,_⟩:=hr hne;cases hh
  ·exact wpList_plain hgd fun _ hK=>qh5 E s x ho W B v l hs ad m c news hx hm hr hp hob hgood hl hB fun v' w' h1 h2 h3=>hK _ _ (h v' w' h1 h2 h3)
end
def qaF(bs:List UInt8):ByteArray:=(bs.map fun b=>(b.toNat:Int)).foldl (fun r n=>r.push (UInt8.ofNat n.toNat)) ByteArray.empty
theorem qek{w:World}{A:Option Addr}{bs:List UInt8}(c n:Nat)(h:Row w A (qac bs))(hn:n=bs.length) :
  (convert 29 9 (.slice A n c)).run Tryz.prog w=.ok (.string (qaF bs)) w:=by
 subst hn;rw[run_convert_bytes_string w _ _ 5 _ _ _ Tryz.underlying29 Tryz.underlying5 Tryz.underlying9];rcases A with _|a
 ·have hb:bs=[]:=by
   cases bs with
   | nil=>rfl
   | cons b l=>obtain⟨_,_,hh,_⟩:=h (by simp[qac]);cases hh
  subst hb;simp[Conv.bytesToString,qaF]
 ·have e:qac bs=(bs.map fun b=>(b.toNat:Int)).map (Value.int .u8):=by simp[qac]
  refine run_bytesToString w a bs.length c (bs.map fun b=>(b.toNat:Int)) ?_;have:=run_loadCells_list (P:=Tryz.prog) w a (qac bs) (fun j v hj=>by
   obtain⟨b,off,hh,_,h3⟩:=h.addr (zZ hj).1;cases hh;have:=h3 j v hj;unfold Addr.add;split
   ·next h0=>subst h0;simpa using this
   ·exact this)
  rw[qay,e] at this;exact this
theorem qgi {P : Prop} (h : P := by
 go_ret;exact Elem.gives ho1 (hg1.below (Ext.new _ _) (by simp) (fun k hk=>by simp[Value.ownBlock] at hk;omega))) : P := h
theorem qgv {P : Prop} (h : P := by
 go_wp2;go_ret;exact Elem.gives (Elem.OB.nil _ _) (Ext.refl _)) : P := h
structure VwM where
 n:Int
 A:Option Addr
 c:Nat
 xs:List Int
def VwM.v(v:VwM):Vw:=(v.n,v.xs)
structure FlM where
 m:Int
 b:Int
 A:Option Addr
 c:Nat
 log:List Ent
def FlM.v(f:FlM):Fls:=(f.m,f.b,f.log)
structure PkM where
 t:Int
 A:Option Addr
 c:Nat
 bs:List UInt8
def qaC:Elem VwM where
 f v:=[.int .i64 v.n,.slice v.A v.xs.length v.c]
 k:=2
 ty:=46
 st:=22
 z:=.agg #[.int .i64 0,.slice none 0 0]
 bytes:=32
 inn v:=[(v.A,qaq v.xs)]
 ok v:=v.xs.length≤v.c∧v.c≤maxLen
 len _:=rfl
 one a:=by intro u hu;simp only[zC,zN,or_false] at hu;rcases hu with rfl|rfl<;>rfl
 pos:=by decide
 und:=Tryz.underlying22
 info:=by kernel_rfl
 zk:=rfl
 small:=by decide
def qaH:Elem Ent where
 f e:=[.int .i64 e.v,.int .i64 e.o,.int .i64 e.q,.string (qaF e.p)]
 k:=4
 ty:=66
 st:=23
 z:=.agg #[.int .i64 0,.int .i64 0,.int .i64 0,.string ByteArray.empty]
 bytes:=40
 inn _:=[]
 ok _:=True
 len _:=rfl
 one a:=by intro u hu;simp only[zC,zN,or_false] at hu;rcases hu with rfl|rfl|rfl|rfl<;>rfl
 pos:=by decide
 und:=Tryz.underlying23
 info:=by kernel_rfl
 zk:=rfl
 small:=by decide
def qdC:Elem (List UInt8) where
 f p:=[.string (qaF p)]
 k:=1
 ty:=9
 st:=24
 z:=.string ByteArray.empty
 bytes:=16
 inn _:=[]
 ok _:=True
 len _:=rfl
 one a:=by intro u hu;simp only[zC,zN,or_false] at hu;rcases hu with rfl;rfl
 pos:=by decide
 und:=Tryz.underlying24
 info:=by kernel_rfl
 zk:=rfl
 small:=by decide
def qat:Elem (Int×Int) where
 f m:=[.int .i64 m.1,.int .i64 m.2]
 k:=2
 ty:=123
 st:=25
 z:=.agg #[.int .i64 0,.int .i64 0]
 bytes:=16
 inn _:=[]
 ok _:=True
 len _:=rfl
 one a:=by intro u hu;simp only[zC,zN,or_false] at hu;rcases hu with rfl|rfl<;>rfl
 pos:=by decide
 und:=Tryz.underlying25
 info:=by kernel_rfl
 zk:=rfl
 small:=by decide
def flE:Elem FlM where
 f v:=[.int .i64 v.m,.int .i64 v.b,.slice v.A v.log.length v.c]
 k:=3
 ty:=80
 st:=26
 z:=.agg #[.int .i64 0,.int .i64 0,.slice none 0 0]
 bytes:=40
 inn v:=[(v.A,qaH.cells v.log)]
 ok v:=v.log.length≤v.c∧v.c≤maxLen
 len _:=rfl
 one a:=by intro u hu;simp only[zC,zN,or_false] at hu;rcases hu with rfl|rfl|rfl<;>rfl
 pos:=by decide
 und:=Tryz.underlying26
 info:=by kernel_rfl
 zk:=rfl
 small:=by decide
def qqv:Elem Int where
 f x:=[.int .i64 x]
 k:=1
 ty:=3
 st:=44
 z:=.int .i64 0
 bytes:=8
 inn _:=[]
 ok _:=True
 len _:=rfl
 one a:=by intro u hu;simp only[zC,zN,or_false] at hu;rcases hu with rfl;rfl
 pos:=by decide
 und:=Tryz.underlying44
 info:=by kernel_rfl
 zk:=rfl
 small:=by decide
theorem qiD(xs:List Int):qqv.cells xs=qaq xs:=by
 induction xs with
 | nil=>rfl
 | cons x l ih=>rw[qqv.cells_cons,ih];rfl
theorem Row.none_nil{w:World}{xs:List Value}(h:Row w none xs):xs=[]:=by
 rcases xs with _|⟨u,l⟩
 ·rfl
 ·obtain⟨b,off,hh,_⟩:=h (by simp);cases hh
theorem Elem.cells_nil{α:Type}{E:Elem α}{l:List α}(h:E.cells l=[]):l=[]:=by
 have:=E.cells_len l;rw[h] at this;have hp:=E.pos;exact List.eq_nil_of_length_eq_zero (by rcases Nat.eq_zero_or_pos l.length with h0|h0;exact h0;have:=Nat.mul_pos h0 hp;simp at *;omega)
theorem Elem.own_empty{α:Type}(E:Elem α)(w:World):E.OB (w.alloc (.cells #[] E.ty)) w.heap.size (.slice (some (Pq w.heap.size 0)) 0 0) []:=
 ⟨⟨by simp[Elem.cells],.inr ⟨w.heap.size,0,#[],rfl,zR _,(by show (w.heap.push _)[w.heap.size]?=_;simp),zR _,zO _,by simp,by simp[Elem.cells]⟩⟩,fun a ha=>by simp at ha⟩
def Elem.Gives{α:Type}(E:Elem α)(w:World)(l:List α)(en:Ending)(w':World):Prop:=
 ∃A c,en=.returned (.slice A l.length c)∧l.length≤c∧c≤maxLen∧E.OB w' w.heap.size (.slice A l.length c) l∧Ext w w'
theorem Elem.gives{α:Type}{E:Elem α}{w w':World}{v:Value}{l:List α}(h:E.OB w' w.heap.size v l)(e:Ext w w'):E.Gives w l (.returned v) w':=by
 obtain⟨A,c,hv,h1,h2,_⟩:=h.slice;subst hv;exact⟨A,c,rfl,h1,h2,h,e⟩
theorem Elem.Box.good{α:Type}{E:Elem α}{w w':World}{A:Option Addr}{l news:List α}{v:Value}{B:Nat}(h:E.Box w A news)(e:Ext w w')(hB:w.heap.size≤B)(ho:E.Own w' B v l):∀q∈news,E.ok q∧∀r∈E.inn q,Row w' r.1 r.2∧Apt v r:=
 fun q hq=>⟨(h.2 q hq).1,fun r hr=>⟨((h.2 q hq).2 r hr).ext e,qsF ((h.2 q hq).2 r hr) hB ho⟩⟩
theorem qrG(w:World)(a:Option Addr)(l c:Nat):(binOp .eql 44 (.slice a l c) Zq).run Tryz.prog w=.ok (.bool a.isNone) w:=run_eql_slice_nil w _ 3 a l c Tryz.underlying44
section
attribute [local go_sem] qrG Option.isNone_none Option.isNone_some
theorem qm5(A:Option Addr)(c:Nat)(l:List Int)(w:World)(h:qqv.Box w A l)(hn:l.length≤1000000) :
  Calls Tryz.prog 157 #[.slice A l.length c] w (qqv.Gives w l):=by
 rcases A with _|ad
 ·have hx:l=[]:=Elem.cells_nil h.1.none_nil;subst hx;go_enter Tryz.func157,Tryz.ntmps157;exact qgv
 ·have H:=hJ h;clear h;go_enter Tryz.func157,Tryz.ntmps157;go_wp2_with (first
   | (at_builtin;refine qcr qqv rfl (.tmp 5) (.tmp 6) rfl _ w.heap.size _ [] (by rfl) _ _ _ l (by rfl) rfl (H.out.1.ext (Ext.new _ _)) (qqv.own_empty w) (H.out.good (Ext.new _ _) (zR _) (qqv.own_empty w).1) (by simp;omega) (by simp) ?_;intro v1 w1 ho1 hg1 hs1))
  exact qgi
end
theorem qpB(w:World)(a:Option Addr)(l c:Nat):(binOp .eql 22 (.slice a l c) Zq).run Tryz.prog w=.ok (.bool a.isNone) w:=run_eql_slice_nil w _ 46 a l c Tryz.underlying22
section
attribute [local go_sem] qpB Option.isNone_none Option.isNone_some
theorem qkP(A:Option Addr)(c:Nat)(l:List VwM)(w:World)(h:qaC.Box w A l)(hn:l.length≤1000000) :
  Calls Tryz.prog 161 #[.slice A l.length c] w (qaC.Gives w l):=by
 rcases A with _|ad
 ·have hx:l=[]:=Elem.cells_nil h.1.none_nil;subst hx;go_enter Tryz.func161,Tryz.ntmps161;exact qgv
 ·have H:=hJ h;clear h;go_enter Tryz.func161,Tryz.ntmps161;go_wp2_with (first
   | (at_builtin;refine qcr qaC rfl (.tmp 5) (.tmp 6) rfl _ w.heap.size _ [] (by rfl) _ _ _ l (by rfl) rfl (H.out.1.ext (Ext.new _ _)) (qaC.own_empty w) (H.out.good (Ext.new _ _) (zR _) (qaC.own_empty w).1) (by simp;omega) (by simp) ?_;intro v1 w1 ho1 hg1 hs1))
  exact qgi
end
theorem qrt(w:World)(a:Option Addr)(l c:Nat):(binOp .eql 23 (.slice a l c) Zq).run Tryz.prog w=.ok (.bool a.isNone) w:=run_eql_slice_nil w _ 66 a l c Tryz.underlying23
section
attribute [local go_sem] qrt Option.isNone_none Option.isNone_some
theorem qd2(A:Option Addr)(c:Nat)(l:List Ent)(w:World)(h:qaH.Box w A l)(hn:l.length≤1000000) :
  Calls Tryz.prog 108 #[.slice A l.length c] w (qaH.Gives w l):=by
 rcases A with _|ad
 ·have hx:l=[]:=Elem.cells_nil h.1.none_nil;subst hx;go_enter Tryz.func108,Tryz.ntmps108;exact qgv
 ·have H:=hJ h;clear h;go_enter Tryz.func108,Tryz.ntmps108;go_wp2_with (first
   | (at_builtin;refine qcr qaH rfl (.tmp 5) (.tmp 6) rfl _ w.heap.size _ [] (by rfl) _ _ _ l (by rfl) rfl (H.out.1.ext (Ext.new _ _)) (qaH.own_empty w) (H.out.good (Ext.new _ _) (zR _) (qaH.own_empty w).1) (by simp;omega) (by simp) ?_;intro v1 w1 ho1 hg1 hs1))
  exact qgi
end
theorem qqr(w:World)(a:Option Addr)(l c:Nat):(binOp .eql 24 (.slice a l c) Zq).run Tryz.prog w=.ok (.bool a.isNone) w:=run_eql_slice_nil w _ 9 a l c Tryz.underlying24
section
attribute [local go_sem] qqr Option.isNone_none Option.isNone_some
theorem qnH(A:Option Addr)(c:Nat)(l:List (List UInt8))(w:World)(h:qdC.Box w A l)(hn:l.length≤1000000) :
  Calls Tryz.prog 109 #[.slice A l.length c] w (qdC.Gives w l):=by
 rcases A with _|ad
 ·have hx:l=[]:=Elem.cells_nil h.1.none_nil;subst hx;go_enter Tryz.func109,Tryz.ntmps109;exact qgv
 ·have H:=hJ h;clear h;go_enter Tryz.func109,Tryz.ntmps109;go_wp2_with (first
   | (at_builtin;refine qcr qdC rfl (.tmp 5) (.tmp 6) rfl _ w.heap.size _ [] (by rfl) _ _ _ l (by rfl) rfl (H.out.1.ext (Ext.new _ _)) (qdC.own_empty w) (H.out.good (Ext.new _ _) (zR _) (qdC.own_empty w).1) (by simp;omega) (by simp) ?_;intro v1 w1 ho1 hg1 hs1))
  exact qgi
end
theorem qpk(w:World)(a:Option Addr)(l c:Nat):(binOp .eql 25 (.slice a l c) Zq).run Tryz.prog w=.ok (.bool a.isNone) w:=run_eql_slice_nil w _ 123 a l c Tryz.underlying25
section
attribute [local go_sem] qpk Option.isNone_none Option.isNone_some
theorem qkS(A:Option Addr)(c:Nat)(l:List (Int×Int))(w:World)(h:qat.Box w A l)(hn:l.length≤1000000) :
  Calls Tryz.prog 110 #[.slice A l.length c] w (qat.Gives w l):=by
 rcases A with _|ad
 ·have hx:l=[]:=Elem.cells_nil h.1.none_nil;subst hx;go_enter Tryz.func110,Tryz.ntmps110;exact qgv
 ·have H:=hJ h;clear h;go_enter Tryz.func110,Tryz.ntmps110;go_wp2_with (first
   | (at_builtin;refine qcr qat rfl (.tmp 5) (.tmp 6) rfl _ w.heap.size _ [] (by rfl) _ _ _ l (by rfl) rfl (H.out.1.ext (Ext.new _ _)) (qat.own_empty w) (H.out.good (Ext.new _ _) (zR _) (qat.own_empty w).1) (by simp;omega) (by simp) ?_;intro v1 w1 ho1 hg1 hs1))
  exact qgi
end
theorem qtm(w:World)(a:Option Addr)(l c:Nat):(binOp .eql 26 (.slice a l c) Zq).run Tryz.prog w=.ok (.bool a.isNone) w:=run_eql_slice_nil w _ 80 a l c Tryz.underlying26
section
attribute [local go_sem] qtm Option.isNone_none Option.isNone_some
theorem qoC(A:Option Addr)(c:Nat)(l:List FlM)(w:World)(h:flE.Box w A l)(hn:l.length≤1000000) :
  Calls Tryz.prog 111 #[.slice A l.length c] w (flE.Gives w l):=by
 rcases A with _|ad
 ·have hx:l=[]:=Elem.cells_nil h.1.none_nil;subst hx;go_enter Tryz.func111,Tryz.ntmps111;exact qgv
 ·have H:=hJ h;clear h;go_enter Tryz.func111,Tryz.ntmps111;go_wp2_with (first
   | (at_builtin;refine qcr flE rfl (.tmp 5) (.tmp 6) rfl _ w.heap.size _ [] (by rfl) _ _ _ l (by rfl) rfl (H.out.1.ext (Ext.new _ _)) (flE.own_empty w) (H.out.good (Ext.new _ _) (zR _) (flE.own_empty w).1) (by simp;omega) (by simp) ?_;intro v1 w1 ho1 hg1 hs1))
  exact qgi
end
theorem Row.byteN{w:World}{A:Option Addr}{bs:List UInt8}{k:Nat}(h:Row w A (qac bs))(hk:k<bs.length) :
  ∃b off m,A=some (Pq b off)∧w.cell? (Pq b (off+k))=some (.int .u8 ((m:Nat):Int))∧m<256∧Hid (∃x,bs[k]?=some x∧x.toNat=m):=by
 obtain⟨b,off,x,h1,h2,h3⟩:=h.byte hk;exact⟨b,off,x.toNat,h1,h2,x.toNat_lt,x,h3,rfl⟩
def qoT(r:Nat×Nat×Int):Ending:=.returned (.tuple #[.int .u64 (r.1:Int),.int .i64 (r.2.1:Int),.int .i64 r.2.2])
theorem qfF{r:Nat×Nat×Int}{a b e:Int}{x y:Nat}(h:r=(x,y,e))(h1:a=(x:Int))(h2:b=(y:Int)):Ending.returned (.tuple #[.int .u64 a,Jq b,Jq e])=qoT r:=by
 rw[h,h1,h2];rfl
theorem qc5(A:Option Addr)(c:Nat)(bs:List UInt8)(w:World)(h:Row w A (qac bs))(hl:bs.length≤1000000000) :
  Calls Tryz.prog 182 #[.slice A bs.length c] w fun e w'=>e=qoT (qbt bs)∧w=w':=by
 have H:=hJ h;clear h;go_enter Tryz.func182,Tryz.ntmps182;go_wp2;go_loop [2,5,6,9] (fun v _ _ i=>∃k a:Nat,k≤bs.length∧k≤9∧v=.int .u64 (a:Int)∧i=Jq (k:Int)∧Hid (a<2 ^ (7*k))∧Hid (qd4 (bs.drop k) k a=qbt bs)) (fun _ _ _ i=>bs.length - (intOf i).toNat)
 case atStart=>exact⟨0,0,by omega,by omega,rfl,rfl,by simp[Hid],rfl⟩
 case round=>
  obtain⟨k,a,hk,hk9,rfl,rfl,HA,HR⟩:=hrel;by_cases hlt:k<bs.length
  ·obtain⟨b,off,m,rfl,hc,hm,HX⟩:=H.out.byteN hlt;by_cases h9:k=9
   ·subst h9;by_cases h1:1<m
    ·have HF:Hid (qbt bs=(0,0,3)):=by
      obtain⟨x,hx,rfl⟩:=HX.out;rw[←HR.out];exact qia hx (.inl ⟨rfl,h1⟩)
     go_wp2;go_ret3
     exact⟨qfF HF.out rfl rfl,rfl⟩
    ·by_cases h0:m=0
     ·have HF:Hid (qbt bs=(0,0,3)):=by
       obtain⟨x,hx,hx'⟩:=HX.out;rw[←HR.out];exact qia hx (.inr ⟨by omega,by omega⟩)
      have hz:((m:Int) == 0)=true:=by simp;omega
      have hd:decide ((1:Int)<(m:Int))=false:=by simp;omega
      have hm1:m≤1:=by omega
      clear h0 h1;go_wp2;go_ret3
      exact⟨qfF HF.out rfl rfl,rfl⟩
     ·have HF:Hid (qbt bs=(a+m % 128*2 ^ (7*9),9+1,0)):=by
       obtain⟨x,hx,rfl⟩:=HX.out;rw[←HR.out];exact qiX hx (by omega) (by omega)
      have hz:((m:Int) == 0)=false:=by simp;omega
      have hd:decide ((1:Int)<(m:Int))=false:=by simp;omega
      have hm1:m≤1:=by omega
      clear h0 h1;go_wp2;go_ret3
      exact⟨qfF HF.out (qtB hm1 HA.out) rfl,rfl⟩
   ·have hk8:k<9:=by omega
    have h9b:((k:Int) == 9)=false:=by simp;omega
    clear h9;by_cases h0:0<k∧m=0
    ·obtain⟨h0,h1⟩:=h0;have HF:Hid (qbt bs=(0,0,3)):=by
      obtain⟨x,hx,hx'⟩:=HX.out;rw[←HR.out];exact qia hx (.inr ⟨h0,by omega⟩)
     have hz:((m:Int) == 0)=true:=by simp;omega
     clear h1;go_wp2;go_ret3
     exact⟨qfF HF.out rfl rfl,rfl⟩
    ·by_cases h2:m<128
     ·have HF:Hid (qbt bs=(a+m % 128*2 ^ (7*k),k+1,0)):=by
       obtain⟨x,hx,rfl⟩:=HX.out;rw[←HR.out];exact qiX hx (by omega) h2
      rcases Nat.eq_zero_or_pos k with hk0|hk0
      ·have hkz:decide (0<k)=false:=by simp;omega
       have HZ:=hJ hk0;have hk1:k≤0:=by omega
       clear h0 hk0;go_wp2;go_ret3
       exact⟨qfF HF.out (qjd hm HA.out hk8) (by omega),rfl⟩
      ·have hz:((m:Int) == 0)=false:=by simp;omega
       clear h0;go_wp2;go_ret3
       exact⟨qfF HF.out (qjd hm HA.out hk8) (by omega),rfl⟩
     ·have HF:Hid (qd4 (bs.drop (k+1)) (k+1) (a+m % 128*2 ^ (7*k))=qbt bs):=by
       obtain⟨x,hx,rfl⟩:=HX.out;rw[←HR.out];exact(qnl hx (by omega) h2).symm
      have h2':128≤m:=by omega
      have hz:((m:Int) == 0)=false:=by simp;omega
      clear h0 h2;rcases Nat.eq_zero_or_pos k with hk0|hk0
      ·have hkz:decide (0<k)=false:=by simp;omega
       have hk1:k≤0:=by omega
       clear hk0;go_wp2;go_round
       case rel=>exact⟨k+1,a+m % 128*2 ^ (7*k),by omega,by omega,by rw[qjd hm HA.out hk8],by go_num,ql8 HA.out,HF⟩
       case measure=>simp[intOf];omega
      ·go_wp2
       go_round
       case rel=>exact⟨k+1,a+m % 128*2 ^ (7*k),by omega,by omega,by rw[qjd hm HA.out hk8],by go_num,ql8 HA.out,HF⟩
       case measure=>simp[intOf];omega
  ·have HF:Hid (qbt bs=(0,0,2)):=by rw[Hid,←HR.out];exact qn0 hlt
   go_wp2;go_ret3
   exact⟨qfF HF.out rfl rfl,rfl⟩
def qjM(r:Int×Nat×Int):Ending:=.returned (.tuple #[.int .i64 r.1,.int .i64 (r.2.1:Int),.int .i64 r.2.2])
theorem qjs(A:Option Addr)(c:Nat)(bs:List UInt8)(w:World)(h:Row w A (qac bs))(hl:bs.length≤1000000000) :
  Calls Tryz.prog 185 #[.slice A bs.length c] w fun e w'=>e=qjM (qeO bs)∧w=w':=by
 have H:=hJ h;clear h;have HB:=hJ (qnz (qhC bs).1);go_enter Tryz.func185,Tryz.ntmps185;go_wp2_with fail;refine(qc5 A c bs w H.out hl).mono ?_;rintro e w' ⟨rfl,rfl⟩;unfold qoT;go_wp2;go_ret3
 refine⟨?_,rfl⟩;unfold qjM qeO;rw[←HB.out];rfl
theorem qdb(A:Option Addr)(c:Nat)(bs:List UInt8)(m:Nat)(w:World)(h:Row w A (qac bs))(hl:bs.length≤1000000000)(hm:m≤1000000000) :
  Calls Tryz.prog 181 #[.slice A bs.length c,Jq (m:Int)] w fun e w'=>e=qjM (((qdE bs m).1:Int),(qdE bs m).2.1,(qdE bs m).2.2)∧w=w':=by
 have H:=hJ h;clear h;have hwm:IntKind.u64.wrap (m:Int)=(m:Int):=qcU (by unfold U64;omega);by_cases he:(qbt bs).2.2=0
 ·have hb:((qbt bs).2.2 != 0)=false:=by simpa using he
  have HE:=hJ he;clear he;by_cases hg:m<(qbt bs).1
  ·have HF:Hid (qdE bs m=(0,0,5)):=by unfold Hid qdE;rw[if_neg (by simpa using HE.out),if_pos hg]
   go_enter Tryz.func181,Tryz.ntmps181;go_wp2_with fail;refine(qc5 A c bs w H.out hl).mono ?_;rintro e w' ⟨rfl,rfl⟩;unfold qoT;go_wp2;go_ret3
   refine⟨?_,rfl⟩;rw[HF.out];rfl
  ·have HF:Hid (qdE bs m=((qbt bs).1,(qbt bs).2.1,0)):=by unfold Hid qdE;rw[if_neg (by simpa using HE.out),if_neg hg]
   have hle:(qbt bs).1≤m:=by omega
   clear hg;go_enter Tryz.func181,Tryz.ntmps181;go_wp2_with fail;refine(qc5 A c bs w H.out hl).mono ?_;rintro e w' ⟨rfl,rfl⟩;unfold qoT;go_wp2;go_ret3
   refine⟨?_,rfl⟩;rw[HF.out];rfl
 ·have hb:((qbt bs).2.2 != 0)=true:=by simpa using he
  have HF:Hid (qdE bs m=(0,0,(qbt bs).2.2)):=by unfold Hid qdE;rw[if_pos he]
  clear he;go_enter Tryz.func181,Tryz.ntmps181;go_wp2_with fail;refine(qc5 A c bs w H.out hl).mono ?_;rintro e w' ⟨rfl,rfl⟩;unfold qoT;go_wp2;go_ret3
  refine⟨?_,rfl⟩;rw[HF.out];rfl
theorem qn3(A:Option Addr)(c n:Nat)(bs:List UInt8)(w:World)(h:Row w A (qac bs))(hl:bs.length≤1000000000)(hn:n=bs.length) :
  Calls Tryz.prog 185 #[.slice A n c] w fun e w'=>e=qjM (qeO bs)∧w=w':=by subst hn;exact qjs A c bs w h hl
def qkH(w:World)(r:List Int×Nat×Int)(en:Ending)(w':World):Prop:=
 ∃A c,en=.returned (.tuple #[.slice A r.1.length c,Jq (r.2.1:Int),Jq r.2.2])∧r.1.length≤c∧c≤maxLen∧Own w' w.heap.size 3 (.slice A r.1.length c) (qaq r.1)∧Ext w w'
theorem qk4{w w':World}{r:List Int×Nat×Int}{l:List Int}{n:Nat}{k e:Int}{v:Value}(hr:r=(l,n,e))(hk:k=(n:Int))(h:Own w' w.heap.size 3 v (qaq l))(x:Ext w w'):qkH w r (.returned (.tuple #[v,Jq k,Jq e])) w':=by
 subst hr hk;have hl:(qaq l).length=l.length:=by simp[qaq]
 obtain⟨A,c,hv,h1,h2,_⟩:=h.slice;rw[hl] at hv h1;subst hv;exact⟨A,c,rfl,h1,h2,h,x⟩
def Mid(bs:List UInt8)(count i:Nat)(l:List Int)(n:Nat)(e:Int)(R:List Int×Nat×Int):Prop:=
 (e=0∧qf7 bs (count - i) l n=R)∨(e≠0∧R=([],0,e))
theorem Mid.next{bs:List UInt8}{count i n:Nat}{l:List Int}{R:List Int×Nat×Int}(h:Mid bs count i l n 0 R)(hi:i<count) :
  Mid bs count (i+1) (l++[(qeO (bs.drop n)).1]) (n+(qeO (bs.drop n)).2.1) (qeO (bs.drop n)).2.2 R:=by
 rcases h with ⟨_,h⟩|⟨h,_⟩
 ·rw[show count - i=(count - (i+1))+1 by omega] at h;by_cases he:(qeO (bs.drop n)).2.2=0
  ·rw[qiU he] at h;exact .inl ⟨he,h⟩
  ·rw[qiK he] at h;exact .inr ⟨he,h.symm⟩
 ·exact absurd rfl h
theorem Mid.done{bs:List UInt8}{count i n:Nat}{l:List Int}{R:List Int×Nat×Int}(h:Mid bs count i l n 0 R)(hi:¬i<count):R=(l,n,0):=by
 rcases h with ⟨_,h⟩|⟨h,_⟩
 ·rw[show count - i=0 by omega] at h;exact h.symm
 ·exact absurd rfl h
theorem Mid.fail{bs:List UInt8}{count i n:Nat}{l:List Int}{e:Int}{R:List Int×Nat×Int}(h:Mid bs count i l n e R)(he:e≠0):R=([],0,e):=by
 rcases h with ⟨h,_⟩|⟨_,h⟩
 ·exact absurd h he
 ·exact h
theorem qqD(A:Option Addr)(c:Nat)(bs:List UInt8)(m:Nat)(w:World)(h:Row w A (qac bs))(hc:bs.length≤c)(hl:bs.length≤1000000000)(hm:m≤100000) :
  Calls Tryz.prog 233 #[.slice A bs.length c,Jq (m:Int),.func (Fn.func 185) #[] #[]] w (qkH w (qgg bs m)):=by
 have H:=hJ h;clear h;have hin:=qgq bs m;by_cases he:(qdE bs m).2.2=0
 ·have HF:Hid (qgg bs m=qf7 bs (qdE bs m).1 [] (qdE bs m).2.1):=by unfold Hid qgg;rw[if_neg (by simpa using he)]
  have HE:=hJ he;clear he;go_enter Tryz.func233,Tryz.ntmps233;go_wp2_with fail;refine(qdb A c bs m w H.out hl (by omega)).mono ?_;rintro e w' ⟨rfl,rfl⟩;unfold qjM;rw[HE.out];generalize hC:(qdE bs m).1=count at *;generalize hN:(qdE bs m).2.1=n0 at *;clear hC hN HE;go_wp2;go_loopw [6,7,8,10,11,12,13] (fun v nv ev i _ _ _ wr=>∃(k n:Nat) (l:List Int) (e:Int),k≤count∧n≤bs.length∧l.length≤k∧nv=Jq (n:Int)∧ev=Jq e∧i=Jq (k:Int)∧Hid (Mid bs count k l n e (qgg bs m))∧Own wr w.heap.size 3 v (qaq l)∧Ext w wr) (fun _ _ _ i _ _ _ _=>count - (intOf i).toNat)
  case atStart=>exact⟨0,n0,[],0,by omega,hin.2,by simp,rfl,rfl,rfl,.inl ⟨rfl,HF.out.symm⟩,Own.nil _ _ _,Ext.refl _⟩
  case round=>
   obtain⟨k,n,l,e,hk,hn,hll,rfl,rfl,rfl,HM,ho,hx⟩:=hrel;by_cases he:e=0
   ·subst he;by_cases hlt:k<count
    ·have hdi:=qln (bs.drop n);rw[zD] at hdi;have hfit:n+(qeO (bs.drop n)).2.1≤bs.length:=by omega
     clear hdi;have HMN:=hJ (HM.out.next hlt);by_cases hcn:c=n
     ·have HZ:=hJ (fun A'=>qet bs n▸Row.past (w:=wr) (A:=A') (xs:=qac bs) (k:=n) (by rw[qay];omega));subst hcn;go_wp2_with fail;refine(qn3 _ _ _ (bs.drop c) _ (HZ.out _) (by rw[zD];omega) (by simp only[zD];try omega)).mono ?_;rintro e' w' ⟨rfl,rfl⟩;unfold qjM;generalize qeO (bs.drop c)=r at *;go_wp2_with (first
       | (at_builtin;refine qbQ rfl (.tmp 39) (.tmp 41) rfl _ w.heap.size _ l (by rfl) _ (by rfl) ho (by omega) hx.size ?_;intro v1 w1 ho1 hg1 hs1))
      go_roundw
      case rel=>exact⟨k+1,c+r.2.1,l++[r.1],r.2.2,by omega,hfit,by simp;omega,by go_num,rfl,by go_num,HMN,ho1,hg1.below hx hx.size (fun q hq=>(ho.lt q hq).1)⟩
      case measure=>simp[intOf];omega
     ·have HZ:=hJ (qet bs n▸Row.map_ (k:=n) (H.out.ext hx) (by rw[qay];exact hc) hcn);go_wp2_with fail;refine(qn3 _ _ _ (bs.drop n) _ HZ.out (by rw[zD];omega) (by simp only[zD];try omega)).mono ?_;rintro e' w' ⟨rfl,rfl⟩;unfold qjM;generalize qeO (bs.drop n)=r at *;go_wp2_with (first
       | (at_builtin;refine qbQ rfl (.tmp 39) (.tmp 41) rfl _ w.heap.size _ l (by rfl) _ (by rfl) ho (by omega) hx.size ?_;intro v1 w1 ho1 hg1 hs1))
      go_roundw
      case rel=>exact⟨k+1,n+r.2.1,l++[r.1],r.2.2,by omega,hfit,by simp;omega,by go_num,rfl,by go_num,HMN,ho1,hg1.below hx hx.size (fun q hq=>(ho.lt q hq).1)⟩
      case measure=>simp[intOf];omega
    ·have HD:=hJ (HM.out.done hlt);go_wp2;go_ret3
     exact qk4 HD.out rfl ho hx
   ·have hb:(e == 0)=false:=by simpa using he
    have hb':(e != 0)=true:=by simpa using he
    have HD:=hJ (HM.out.fail he);clear he;go_wp2;go_ret3
    exact qk4 HD.out rfl (Own.nil _ _ _) hx
 ·have HF:Hid (qgg bs m=([],0,(qdE bs m).2.2)):=by unfold Hid qgg;rw[if_pos he]
  have hb:((qdE bs m).2.2 == 0)=false:=by simpa using he
  have hb':((qdE bs m).2.2 != 0)=true:=by simpa using he
  clear he;go_enter Tryz.func233,Tryz.ntmps233;go_wp2_with fail;refine(qdb A c bs m w H.out hl (by omega)).mono ?_;rintro e w' ⟨rfl,rfl⟩;unfold qjM;go_wp2;refine wp_loop_rounds 1 ?_;rw[rounds_succ];go_wp2;go_ret3
  exact qk4 HF.out rfl (Own.nil _ _ _) (Ext.refl _)
theorem qkQ(A:Option Addr)(c:Nat)(bs:List UInt8)(m:Nat)(w:World)(h:Row w A (qac bs))(hc:bs.length≤c)(hl:bs.length≤1000000000)(hm:m≤100000) :
  Calls Tryz.prog 225 #[.slice A bs.length c,Jq (m:Int)] w (qkH w (qgg bs m)):=by
 have H:=hJ h;clear h;go_enter Tryz.func225,Tryz.ntmps225;go_wp2_with fail;refine(qqD A c bs m w H.out hc hl hm).mono ?_;rintro e w1 ⟨A1,c1,rfl,hc1,hm1,ho1,hx1⟩;go_wp2;go_ret3
 exact⟨A1,c1,rfl,hc1,hm1,ho1,hx1⟩
theorem quH {P : Prop} (h : P := by
 rintro e w1 ⟨A1,c1,rfl,hc1,hm1,ho1,hx1⟩;have HX1:=hJ hx1;clear hx1;obtain⟨q0,q1,q2,q3,q4⟩:=Ext.view_new HX1.out;by_cases hf:R.2.2=0
 ·have hbf:(R.2.2 != 0)=false:=by simpa using hf
  have HF0:=hJ hf;clear hf;cases hv:qdY R.1 16
  ·have HF:=hJ (H4.out HF0.out hv);have HVM:=hJ hv;clear hv;go_wp2_with fail;refine(qdK _ _ _ _ ho1.row (by omega) false HVM.out).mono ?_;rintro e w2 ⟨rfl,hs2⟩;have HX2:=hJ (HX1.out.trans hs2.ext);clear hs2 q0 q1 q2 q3 q4;obtain⟨q0,q1,q2,q3,q4⟩:=Ext.view_new HX2.out;go_wp2;exact bodyPost_ret (v:=.tuple #[.agg #[Jq 0,Zq],Jq 0,Jq 3]) (by simp[results,Tryz.results210,go_sem,q0,q1]) rfl (qhU HF.out rfl (Own.nil _ _ _) (((H0.out.trans HX2.out).set (by simp) _).set (by simp) _))
  ·have HF:=hJ (H5.out HF0.out hv);have HVM:=hJ hv;clear hv;go_wp2_with fail;refine(qdK _ _ _ _ ho1.row (by omega) true HVM.out).mono ?_;rintro e w2 ⟨rfl,hs2⟩;have HX2:=hJ (HX1.out.trans hs2.ext);have HO2:=hJ (ho1.ext hs2.ext);clear hs2 q0 q1 q2 q3 q4;obtain⟨q0,q1,q2,q3,q4⟩:=Ext.view_new HX2.out;go_wp2;refine bodyPost_ret (v:=.tuple #[.agg #[Jq (num:Int),.slice A1 R.1.length c1],Jq ((used:Int)+(R.2.1:Int)),Jq 0]) (by simp[results,Tryz.results210,go_sem,q0,q1]) rfl (qhU HF.out (by omega) (Own.set (Own.set (HO2.out.base (by simp)) ?_ _) ?_ _) (((H0.out.trans HX2.out).set (by simp) _).set (by simp) _))
   ·intro k hk;have:=(HO2.out.lt k hk).1;simp at this⊢;omega
   ·intro k hk;have:=(HO2.out.lt k hk).1;simp at this⊢;omega
 ·have hbf:(R.2.2 != 0)=true:=by simpa using hf
  have HF:=hJ (H3.out hf);clear hf;go_wp2;exact bodyPost_ret (v:=.tuple #[.agg #[Jq 0,Zq],Jq 0,Jq R.2.2]) (by simp[results,Tryz.results210,go_sem,q0,q1]) rfl (qhU HF.out rfl (Own.nil _ _ _) (((H0.out.trans HX1.out).set (by simp) _).set (by simp) _))) : P := h
theorem qlI(A:Option Addr)(c n:Nat)(bs:List UInt8)(m:Nat)(w:World)(h:Row w A (qac bs))(hc:bs.length≤c)(hl:bs.length≤1000000000)(hm:m≤100000)(hn:n=bs.length) :
  Calls Tryz.prog 225 #[.slice A n c,Jq (m:Int)] w (qkH w (qgg bs m)):=by subst hn;exact qkQ A c bs m w h hc hl hm
theorem qdK(A:Option Addr)(c:Nat)(xs:List Int)(w:World)(h:Row w A (qaq xs))(hn:xs.length≤9223372036854775807)(b:Bool)(hb:qdY xs 16=b) :
  Calls Tryz.prog 155 #[.slice A xs.length c] w fun e w'=>e=.returned (.bool b)∧Still w w':=by
 subst hb;exact(qeI A c xs w h hn).mono fun e w' ⟨h1,h2⟩=>⟨h1,h2▸Still.refl _⟩
def qr6(w:World)(r:Int×List Int×Nat×Int)(en:Ending)(w':World):Prop:=
 ∃A c,en=.returned (.tuple #[.agg #[Jq r.1,.slice A r.2.1.length c],Jq (r.2.2.1:Int),Jq r.2.2.2])∧r.2.1.length≤c∧c≤maxLen∧Own w' w.heap.size 3 (.slice A r.2.1.length c) (qaq r.2.1)∧Ext w w'
theorem qhU{w w':World}{r:Int×List Int×Nat×Int}{num:Int}{l:List Int}{n:Nat}{k e:Int}{v:Value}(hr:r=(num,l,n,e))(hk:k=(n:Int))(h:Own w' w.heap.size 3 v (qaq l))(x:Ext w w'):qr6 w r (.returned (.tuple #[.agg #[Jq num,v],Jq k,Jq e])) w':=by
 subst hr hk;have hl:(qaq l).length=l.length:=by simp[qaq]
 obtain⟨A,c,hv,h1,h2,_⟩:=h.slice;rw[hl] at hv h1;subst hv;exact⟨A,c,rfl,h1,h2,h,x⟩
theorem Ext.view_new{w w1:World}(h:Ext (w.alloc (.cells #[Jq 0,Zq] 46)) w1) :
  w1.cell? (Pq w.heap.size 0)=some (Jq 0)∧w1.cell? (Pq w.heap.size 1)=some Zq∧w1.frozen? (Pq w.heap.size 0)=false∧w1.frozen? (Pq w.heap.size 1)=false∧w.heap.size+1≤w1.heap.size:=
 ⟨by simpa using h.cell_new 0,by simpa using h.cell_new 1,h.frozen_new 0,h.frozen_new 1,by have:=h.size;simp at this;omega⟩
theorem Row.tail{w:World}{A:Option Addr}{bs:List UInt8}{c n:Nat}(h:Row w A (qac bs))(hc:bs.length≤c)(hcn:¬c=n):Row w (A.map (·.add n)) (qac (bs.drop n)):=
 qet bs n▸Row.map_ (k:=n) h (by rw[qay];exact hc) hcn
theorem Row.empty{w:World}{A:Option Addr}{bs:List UInt8}{n:Nat}(h:bs.length≤n):Row w A (qac (bs.drop n)):=
 qet bs n▸Row.past (w:=w) (A:=A) (xs:=qac bs) (k:=n) (by rw[qay];exact h)
section
variable {bs:List UInt8}
theorem quK(h:(qbt bs).2.2≠0):qhc bs=(0,[],0,(qbt bs).2.2):=by unfold qhc;rw[if_pos h]
theorem qt2(h:(qbt bs).2.2=0)(h2:1099511627776<(qbt bs).1):qhc bs=(0,[],0,3):=by unfold qhc;rw[if_neg (by simpa using h),if_pos h2]
theorem quF(h:(qbt bs).2.2=0)(h2:¬1099511627776<(qbt bs).1)(h3:(qgg (bs.drop (qbt bs).2.1) 16).2.2≠0):qhc bs=(0,[],0,(qgg (bs.drop (qbt bs).2.1) 16).2.2):=by unfold qhc;rw[if_neg (by simpa using h),if_neg h2,if_pos h3]
theorem qt1(h:(qbt bs).2.2=0)(h2:¬1099511627776<(qbt bs).1)(h3:(qgg (bs.drop (qbt bs).2.1) 16).2.2=0)(h4:qdY (qgg (bs.drop (qbt bs).2.1) 16).1 16=false):qhc bs=(0,[],0,3):=by
 unfold qhc;rw[if_neg (by simpa using h),if_neg h2,if_neg (by simpa using h3),if_pos h4]
theorem quz(h:(qbt bs).2.2=0)(h2:¬1099511627776<(qbt bs).1)(h3:(qgg (bs.drop (qbt bs).2.1) 16).2.2=0)(h4:qdY (qgg (bs.drop (qbt bs).2.1) 16).1 16=true):qhc bs=(((qbt bs).1:Int),(qgg (bs.drop (qbt bs).2.1) 16).1,(qbt bs).2.1+(qgg (bs.drop (qbt bs).2.1) 16).2.1,0):=by
 unfold qhc;rw[if_neg (by simpa using h),if_neg h2,if_neg (by simpa using h3),if_neg (by simp[h4])]
end
theorem qpI(bs:List UInt8):∀(c:Nat) (l:List Int) (n:Nat),n≤bs.length→(qf7 bs c l n).1.length≤l.length+c∧(qf7 bs c l n).2.1≤bs.length:=by
 intro c;induction c with
 | zero=>intro l n hn;exact⟨by simp[qf7],hn⟩
 | succ c ih=>
  intro l n hn;by_cases h:(qeO (bs.drop n)).2.2=0
  ·rw[qiU h];have h1:=qln (bs.drop n);rw[zD] at h1;have:=ih (l++[(qeO (bs.drop n)).1]) (n+(qeO (bs.drop n)).2.1) (by omega);simp only[zA,zK,List.length_nil] at this;omega
  ·rw[qiK h];simp
theorem qsQ(bs:List UInt8)(m:Nat):(qgg bs m).1.length≤m∧(qgg bs m).2.1≤bs.length:=by
 unfold qgg;split
 ·simp
 ·have h:=qgq bs m;have:=qpI bs (qdE bs m).1 [] (qdE bs m).2.1 h.2;simp at this;omega
theorem qnc(A:Option Addr)(c:Nat)(bs:List UInt8)(w:World)(h:Row w A (qac bs))(hc:bs.length≤c)(hl:bs.length≤1000000) :
  Calls Tryz.prog 210 #[.slice A bs.length c] w (qr6 w (qhc bs)):=by
 have H0:=hJ (Ext.new w (.cells #[Jq 0,Zq] 46));have H:=hJ (h.ext H0.out);clear h;have hin:=(qhC bs).2.1;obtain⟨q0,q1,q2,q3,q4⟩:=Ext.view_new (Ext.refl (w.alloc (.cells #[Jq 0,Zq] 46)));by_cases he:(qbt bs).2.2=0
 ·have hb:((qbt bs).2.2 != 0)=false:=by simpa using he
  have HE:=hJ he;clear he;by_cases hg:1099511627776<(qbt bs).1
  ·have HF:=hJ (qt2 HE.out hg);clear q0 q1 q2 q3 q4;go_enter Tryz.func210,Tryz.ntmps210;go_wp2_with fail;refine(qc5 A c bs _ H.out (by omega)).mono ?_;rintro e w' ⟨rfl,rfl⟩;unfold qoT;go_wp2;exact bodyPost_ret (v:=.tuple #[.agg #[Jq 0,Zq],Jq 0,Jq 3]) (by simp[results,Tryz.results210,go_sem]) rfl (qhU HF.out rfl (Own.nil _ _ _) H0.out)
  ·have HG:=hJ hg;have hle:(qbt bs).1≤1099511627776:=by omega
   clear hg;have hli:=qsQ (bs.drop (qbt bs).2.1) 16;rw[zD] at hli;have HV:=hJ (show ∀w1:World,Ext (w.alloc (.cells #[Jq 0,Zq] 46)) w1→True from fun _ _=>trivial);clear q0 q1 q2 q3 q4;go_enter Tryz.func210,Tryz.ntmps210;go_wp2_with fail;refine(qc5 A c bs _ H.out (by omega)).mono ?_;rintro e w' ⟨rfl,rfl⟩;unfold qoT;have hdg:decide (1099511627776<(qbt bs).1)=false:=by simp;omega
   have key:∀(A':Option Addr) (n' c':Nat),n'=(bs.drop (qbt bs).2.1).length→n'≤c'→Row (w.alloc (.cells #[Jq 0,Zq] 46)) A' (qac (bs.drop (qbt bs).2.1))→
     Calls Tryz.prog 225 #[.slice A' n' c',Jq 16] (w.alloc (.cells #[Jq 0,Zq] 46)) (qkH (w.alloc (.cells #[Jq 0,Zq] 46)) (qgg (bs.drop (qbt bs).2.1) 16)):=
    fun A' n' c' h1 h2 h3=>qlI A' c' n' (bs.drop (qbt bs).2.1) 16 _ h3 (by omega) (by rw[zD];omega) (by omega) h1
   have KEY:=hJ key;clear key;have HT:=hJ (show ¬c=(qbt bs).2.1→Row (w.alloc (.cells #[Jq 0,Zq] 46)) (A.map (·.add (qbt bs).2.1)) (qac (bs.drop (qbt bs).2.1)) from fun h=>Row.tail H.out hc h);have HT0:=hJ (show c=(qbt bs).2.1→∀A',Row (w.alloc (.cells #[Jq 0,Zq] 46)) A' (qac (bs.drop (qbt bs).2.1)) from fun h A'=>Row.empty (by omega));have H3:=hJ (fun h=>quF HE.out HG.out h);have H4:=hJ (fun h h'=>qt1 HE.out HG.out h h');have H5:=hJ (fun h h'=>quz HE.out HG.out h h');rw[HE.out] at hb⊢;clear HE HG HV;have HTL:=hJ (show (bs.drop (qbt bs).2.1).length=bs.length - (qbt bs).2.1 from zD);generalize hR:qgg (bs.drop (qbt bs).2.1) 16=R at *;clear hR;generalize (qbt bs).1=num at *;generalize bs.drop (qbt bs).2.1=tl at *;generalize (qbt bs).2.1=used at *;by_cases hcn:c=used
   ·have HZ:=hJ (HT0.out hcn);obtain rfl:used=c:=hcn.symm;clear HT HT0;go_wp2_with fail;refine(KEY.out _ _ _ (by have:=HTL.out;omega) (by omega) (HZ.out _)).mono ?_;exact quH
   ·have HZ:=hJ (HT.out hcn);clear HT HT0;go_wp2_with fail;refine(KEY.out _ _ _ (by have:=HTL.out;omega) (by omega) HZ.out).mono ?_;exact quH
 ·have hb:((qbt bs).2.2 != 0)=true:=by simpa using he
  have HF:=hJ (quK he);clear he q0 q1 q2 q3 q4;go_enter Tryz.func210,Tryz.ntmps210;go_wp2_with fail;refine(qc5 A c bs _ H.out (by omega)).mono ?_;rintro e w' ⟨rfl,rfl⟩;unfold qoT;go_wp2;exact bodyPost_ret (v:=.tuple #[.agg #[Jq 0,Zq],Jq 0,Jq (qbt bs).2.2]) (by simp[results,Tryz.results210,go_sem]) rfl (qhU HF.out rfl (Own.nil _ _ _) H0.out)
theorem qnU{num:Int}{xs:List Int}(h:qap num xs=true):num.toNat<U64:=by
 have:=qaV h;unfold U64;omega
theorem GivesB.from{a w w':World}{bs:List UInt8}{en:Ending}(e:Ext a w)(h:GivesB w bs en w'):GivesB a bs en w':=by
 obtain⟨A,c,h1,h2,h3,h4,h5⟩:=h;exact⟨A,c,h1,h2,h3,h4.base e.size,e.trans h5⟩
theorem qnC(num:Int)(A:Option Addr)(c:Nat)(xs:List Int)(w:World)(h:Row w A (qaq xs))(hn:xs.length≤9223372036854775807) :
  Calls Tryz.prog 158 #[.agg #[Jq num,.slice A xs.length c]] w (GivesB w (qqe num xs)):=by
 have H0:=hJ (Ext.new w (.cells #[Jq num,.slice A xs.length c] 46));have HX:=hJ (h.ext H0.out);clear h;by_cases hv:qap num xs=true
 ·have HE:=hJ (ql7 hv);have HV:=hJ hv;have hnum:=qaV hv;have hl1:xs.length≤16:=(qaU hv).2;clear hv;obtain⟨k,hk⟩:∃k:Nat,num=(k:Int):=⟨num.toNat,by omega⟩;subst hk;have hwl:IntKind.u64.wrap (k:Int)=(k:Int):=qcU (by have:=qnU HV.out;simpa using this);have hwl':=hJ (show k<U64 by have:=qnU HV.out;simpa using this);go_enter Tryz.func158,Tryz.ntmps158;go_wp2_with fail;refine(qcO _ _ _ _ _ HX.out hn HV.out).mono ?_;rintro e w1 ⟨rfl,hx1⟩;have q0:w1.cell? (Pw w 0)=some (Jq k):=by simpa using hx1.cell_new 0
  have q1:w1.cell? (Pw w 1)=some (.slice A xs.length c):=by simpa using hx1.cell_new 1
  have q2:w.heap.size+1≤w1.heap.size:=by have:=hx1.size;simp at this;omega
  have HX1:=hJ (HX.out.ext hx1);have H1:=hJ (H0.out.trans hx1);clear hx1;go_wp2;go_region_held3 (fun w'=>w'.cell? (Pw w 0)=some (Jq k)∧w'.cell? (Pw w 1)=some (.slice A xs.length c))
   (first|go_keep|(go_split_ands;refine⟨?_,?_⟩<;>first|(rw[hx3.cell (by simp;omega)];assumption)|(rw[hx2.cell (by simp;omega)];assumption)))
   (first
    | (go_at_call 123;refine(qfn none 0 [] k _ (by exact Row.nil _ _) (by simp) hwl').mono ?_;rintro e w2 ⟨A2,c2,rfl,hc2,hm2,ho2,hx2⟩;have s2:w1.heap.size≤w2.heap.size:=hx2.size;have HX2:=hJ (Row.ext (w:=w1.drew) HX1.out hx2))
    | (go_at_call 193;refine(qip _ _ _ _ _ _ _ (by exact ho2.row) (by exact HX2.out) (by have:=qaz hwl'.out;simp;omega) (by omega) (qoD HV.out)).mono ?_;rintro e w3 ⟨A3,c3,rfl,hc3,hm3,ho3,hx3⟩))
  go_wp2;go_ret;exact GivesB.from (Ext.drew H1.out |>.trans hx2) (qdz (by rw[HE.out];simpa using ho3) hx3)
 ·have hv':qap num xs=false:=by simpa using hv
  have HE:=hJ (qtl hv');have HV:=hJ hv';clear hv hv';go_enter Tryz.func158,Tryz.ntmps158;go_wp2_with fail;refine(qf9 _ _ _ _ _ HX.out hn HV.out).mono ?_;rintro e w1 ⟨rfl,hx1⟩;go_wp2;go_ret;exact qdz (by rw[HE.out];exact Own.nil _ _ _) (H0.out.trans hx1)
end Go.Proofs.YtponbabbabnaeaaGreat
