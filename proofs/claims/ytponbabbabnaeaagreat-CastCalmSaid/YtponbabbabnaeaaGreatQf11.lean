/- Part 11 of the proof: contracts of functions that the statement reaches. Conditions: as each theorem says. -/
import Derived.Sort.OwnSortedInts
import Derived.Test.YtponbabbabnaeaaGreatQf10
import Derived.Test.YtponbabbabnaeaaGreatQf06
import Derived.Test.YtponbabbabnaeaaGreatQf01
set_option maxRecDepth 100000
set_option maxHeartbeats 40000000
namespace Go.Proofs.YtponbabbabnaeaaGreat
open Go.RowKit Go.Sort
theorem qkg(x:Int)(l:List Int):(qtV x l).Perm (x::l):=by
 induction l with
 | nil=>exact List.Perm.refl _
 | cons y l ih=>
  unfold qtV;split
  ·exact List.Perm.refl _
  ·exact(List.Perm.cons y ih).trans (List.Perm.swap x y l)
theorem qcI(l:List Int):(qeD l).Perm l:=by
 induction l with
 | nil=>exact List.Perm.refl _
 | cons x l ih=>exact(qkg x _).trans (List.Perm.cons x ih)
theorem qlL(x:Int)(l:List Int)(h:l.Pairwise (·≤·)):(qtV x l).Pairwise (·≤·):=by
 induction l with
 | nil=>exact List.pairwise_singleton _ _
 | cons y l ih=>
  unfold qtV;rw[List.pairwise_cons] at h;split
  ·next hxy=>
   rw[List.pairwise_cons,List.pairwise_cons];refine⟨fun z hz=>?_,h⟩;rcases zC.1 hz with rfl|hz
   ·exact hxy
   ·exact Int.le_trans hxy (h.1 z hz)
  ·next hxy=>
   rw[List.pairwise_cons];refine⟨fun z hz=>?_,ih h.2⟩;rcases zC.1 ((qkg x l).mem_iff.1 hz) with rfl|hz
   ·omega
   ·exact h.1 z hz
theorem qg5(l:List Int):(qeD l).Pairwise (·≤·):=by
 induction l with
 | nil=>exact List.Pairwise.nil
 | cons x l ih=>exact qlL x _ ih
theorem qjL:∀(a b:List Int),a.Perm b→a.Pairwise (·≤·)→b.Pairwise (·≤·)→a=b:=by
 intro a;induction a with
 | nil=>intro b h _ _;exact h.nil_eq
 | cons x a ih=>
  intro b h ha hb
  match b,h,hb with
  | [],h,_=>exact absurd h.length_eq (by simp)
  | y::b,h,hb=>
   rw[List.pairwise_cons] at ha hb;have hxy:x=y:=by
    have h1:x∈y::b:=h.mem_iff.1 (List.mem_cons_self ..);have h2:y∈x::a:=h.mem_iff.2 (List.mem_cons_self ..);rcases zC.1 h1 with h1|h1
    ·exact h1
    ·rcases zC.1 h2 with h2|h2
     ·exact h2.symm
     ·have:=hb.1 x h1;have:=ha.1 y h2;omega
   subst hxy;rw[ih b ((List.perm_cons x).1 h) ha.2 hb.2]
theorem qrx(l:List Int):l.mergeSort (fun x y=>decide (x≤y))=qeD l:=by
 refine qjL _ _ ((List.mergeSort_perm l _).trans (qcI l).symm) ?_ (qg5 l);have:=List.pairwise_mergeSort (le:=fun x y:Int=>decide (x≤y)) (fun a b c h1 h2=>by simp at *;omega) (fun a b=>by simp;omega) l;exact this.imp (fun h=>by simpa using h)
theorem qeZ(l:List Int):(qeD l).length=l.length:=(qcI l).length_eq
theorem qrJ(g cap B:Nat)(zs:List Int)(w:World)(ho:Own w B 3 (.slice (some (Pq g 0)) zs.length cap) (qaq zs))(hl:zs.length≤1000000) :
  Calls Tryz.prog 170 #[.slice (some (Pq g 0)) zs.length cap] w fun e w'=>e=.returned (.tuple #[])∧Own w' B 3 (.slice (some (Pq g 0)) zs.length cap) (qaq (qeD zs))∧Grew w w' (.slice (some (Pq g 0)) zs.length cap):=by
 obtain⟨h0,h2⟩:=ho;rcases h2 with ⟨h2,_⟩|⟨g',cap',cur,hv,h3,hh,h4,h5,h6,h7⟩
 ·cases h2
 ·simp only[Value.slice.injEq,zJ,Addr.mk.injEq,and_true,qaq,zP] at hv;obtain⟨rfl,_,rfl⟩:=hv;have hil:(qaq zs).length=zs.length:=by simp[qaq]
  rw[hil] at h4 h7;have hc:=Any.slices_Sort_int Tryz.lays189 g 0 cap zs w (holds_of_blockI hh (by rw[Nat.mul_one] at h7;exact h7)) (Array.getElem?_eq_some_iff.1 hh).1 (by omega);refine Calls.mono hc ?_;rintro e w' ⟨rfl,n,os,rfl⟩;rw[qrx];refine⟨rfl,?_,grownBy_sortedI _⟩;have:=ownsRow_sortedI (w:=w) (base:=B) (g:=g) (cap:=cap) (n:=n) (os:=os) (ss:=zs) (ts:=qeD zs) (qeZ zs) h3 hh (by simpa using h4) h5 (by simpa using h6);unfold Own;have e1:(qaq (qeD zs)).length=zs.length:=by simp[qaq,qeZ]
  rw[e1];simpa[qaq] using this
end Go.Proofs.YtponbabbabnaeaaGreat
namespace Go.Proofs.YtponbabbabnaeaaGreat
structure Grown(s t:St)(l:List Ent):Prop where
 st:t.stable=s.stable+l.length
 cut:qcQ t.log s.stable t.stable=l
 pre:t.log.take s.stable.toNat=s.log.take s.stable.toNat
structure Good(s:St)(c:Cs):Prop where
 vs:VS c.s
 gr:Grown s c.s c.dl
 z:0≤s.stable
theorem qpm(l:List Ent)(n:Int):qcQ l n n=[]:=by unfold qcQ;simp
theorem Grown.same{s t:St}(h1:t.stable=s.stable)(h2:t.log.take s.stable.toNat=s.log.take s.stable.toNat):Grown s t []:=⟨by simp[h1],by rw[h1];exact qpm _ _,h2⟩
theorem Good.begin{s:St}(h:VS s)(pk:List (Int×List UInt8)):Good s ⟨s,pk,[]⟩:=⟨h,Grown.same rfl rfl,h.st0⟩
theorem Good.le{s:St}{c:Cs}(g:Good s c):s.stable≤c.s.stable:=by have:=g.gr.st;omega
theorem Good.extend{s:St}{c:Cs}(g:Good s c){ex:List Ent}(hb:qaY (c.s.log++ex) c.s.base=true)(ho:(qar (c.s.log++ex) c.s.self:Int)≤c.s.sent):Good s {c with s:={c.s with log:=c.s.log++ex}}:=by
 have h1:=g.vs.st;have h0:=g.vs.st0;have hle:=g.le;have hz:=g.z;refine⟨g.vs.extend hb ho,⟨g.gr.st,?_,?_⟩,g.z⟩
 ·show qcQ (c.s.log++ex) s.stable c.s.stable=c.dl;rw[←g.gr.cut];unfold qcQ;rw[List.take_append_of_le_length (by omega)]
 ·show (c.s.log++ex).take s.stable.toNat=_;rw[List.take_append_of_le_length (by omega)];exact g.gr.pre
theorem Good.raise{s:St}{c:Cs}(g:Good s c){n:Int}(hl:n≤c.s.log.length):Good s (raiseF c n):=by
 unfold raiseF;split
 ·exact g
 ·next hn=>
  have h1:=g.vs.st;have h0:=g.vs.st0;have hle:=g.le;have hz:=g.z;have hst:=g.gr.st;have e1:c.s.log.take n.toNat=c.s.log.take c.s.stable.toNat++qcQ c.s.log c.s.stable n:=by
   unfold qcQ;rw[show c.s.log.take c.s.stable.toNat=(c.s.log.take n.toNat).take c.s.stable.toNat by rw[List.take_take,Nat.min_eq_left (by omega)],List.take_append_drop]
  refine⟨g.vs.raise (by omega) hl,⟨?_,?_,g.gr.pre⟩,g.z⟩
  ·show n=s.stable+((c.dl++qcQ c.s.log c.s.stable n).length:Nat);have:(qcQ c.s.log c.s.stable n).length=n.toNat - c.s.stable.toNat:=by unfold qcQ;simp;omega
   rw[zA,this];omega
  ·show qcQ c.s.log s.stable n=c.dl++qcQ c.s.log c.s.stable n;rw[←g.gr.cut];rw[show qcQ c.s.log s.stable n=(c.s.log.take n.toNat).drop s.stable.toNat from rfl,e1,List.drop_append_of_le_length (by simp;omega)];rfl
theorem Good.take{s:St}{c:Cs}(g:Good s c)(ho:qan c.s=true):Good s {c with s:=qbo c.s}:=by
 obtain⟨_,hb⟩:=g.vs.open_base ho;obtain⟨b1,b2,b3⟩:=g.vs.log hb;have hl:=(qc6 b2).1;have hk:c.s.log.length+qbV c.s≤2000:=by unfold qbV;omega
 obtain⟨t1,t2⟩:=qlF b2 b1 b3 g.vs.self g.vs.pp (qbV c.s) hk;have hn:=qcR c.s (qbV c.s);refine g.extend (ex:=(List.range (qbV c.s)).map fun i:Nat=>⟨c.s.base,c.s.self,qar c.s.log c.s.self+1+i,qcg c.s (qar c.s.log c.s.self+1+i)⟩) (qfa ?_ t1 t2 hb) ?_
 ·simp;omega
 ·show (qar (qbc c.s (qbV c.s)) c.s.self:Int)≤c.s.sent;have:=g.vs.own;rw[qcL];unfold qbV;omega
theorem Good.announce{s:St}{c:Cs}(g:Good s c):Good s (qam c):=by
 unfold qam;split
 ·exact g
 ·refine g.raise ?_;cases hx:(qeD (qb8 c.s))[(((qb8 c.s).length:Int) - qfB (qad c.s.views).2.length).toNat]? with
  | none=>simp
  | some y=>
   have h1:y∈qb8 c.s:=(qcI _).mem_iff.1 (zX hx);unfold qb8 at h1;rcases zC.1 h1 with rfl|h1
   ·simp
   ·obtain⟨m,hm,rfl⟩:=List.mem_map.1 h1;exact(g.vs.mks m hm).2.2.2
theorem Good.send{s:St}{c c':Cs}(g:Good s c)(h1:c'.s=c.s)(h2:c'.dl=c.dl):Good s c':=⟨h1▸g.vs,by rw[h1,h2];exact g.gr,g.z⟩
theorem VS.put{s:St}(h:VS s){f:Fls}(ho:qan s=false)(hl:qas s=true)(hi:qcl f.1=true)(hp:qbL s.views f=true):VS {s with fls:=putF s.fls f}:=by
 have hi':0<f.1:=by unfold qcl at hi;simp at hi;omega
 have key:(putF s.fls f).map Prod.fst |>.Pairwise (·<·):=by
  obtain⟨k1,k2⟩:=qhw (fun g:Fls=>g.1) f s.fls h.fla.1;unfold putF qf5;split
  ·next he=>exact k1 he
  ·next he=>exact k2 he
 have mem:∀g∈putF s.fls f,g=f∨g∈s.fls:=by
  intro g hg;unfold putF at hg;split at hg
  ·rcases List.mem_or_eq_of_mem_set hg with hg|hg
   ·exact .inr hg
   ·exact .inl hg
  ·exact qgp hg
 refine⟨h.self,h.vs,h.sent0,h.sent,h.based,h.known,h.own,h.st0,h.st,h.pl,h.pd,h.pp,h.mk0,.inr ⟨ho,hl⟩,h.mka,h.mks,⟨key,fun k hk=>?_⟩,fun g hg=>?_⟩
 ·obtain⟨g,hg,rfl⟩:=List.mem_map.1 hk;rcases mem g hg with rfl|hg
  ·exact hi'
  ·exact h.fla.2 _ (List.mem_map.2 ⟨g,hg,rfl⟩)
 ·rcases mem g hg with rfl|hg
  ·exact⟨hi,hp⟩
  ·exact h.fls g hg
theorem VS.ack{s:St}(h:VS s){fr n:Int}(ho:qan s=true)(hl:qas s=true)(hne:fr≠s.self)(hm:qbN (qad s.views).2 fr=true)(hn0:0≤n)(hn:n≤s.log.length):VS {s with marks:=qfi s.marks fr n}:=by
 have hf0:0<fr:=((qcN (m:=16)).1 (qbC h.last)).2.2.2 fr (qbq.1 hm) |>.1;have mem:∀x∈qfi s.marks fr n,x∈s.marks∨(x.1=fr∧(x.2=max 0 n∨∃y∈s.marks,x.2=max y.2 n)):=by
  intro x hx;unfold qfi at hx;split at hx
  ·next a b hab=>
   split at hx
   ·next he=>
    rcases List.mem_or_eq_of_mem_set hx with hx|rfl
    ·exact .inl hx
    ·exact .inr ⟨he,.inr ⟨(a,b),zX hab,rfl⟩⟩
   ·rcases qgp hx with rfl|hx
    ·exact .inr ⟨rfl,.inl rfl⟩
    ·exact .inl hx
  ·rcases List.mem_append.1 hx with hx|hx
   ·exact .inl hx
   ·simp only[zC,zN,or_false] at hx;subst hx;exact .inr ⟨rfl,.inl rfl⟩
 have key:((qfi s.marks fr n).map Prod.fst).Pairwise (·<·):=by
  unfold qfi;split
  ·next a b hab=>
   split
   ·next he=>
    subst he;obtain⟨k1,_⟩:=qhw (fun g:Int×Int=>g.1) (a,max b n) s.marks h.mka.1;exact k1 (by show (s.marks[qdF s.marks a]?).map _=_;rw[hab];rfl)
   ·next he=>
    obtain⟨_,k2⟩:=qhw (fun g:Int×Int=>g.1) (fr,max 0 n) s.marks h.mka.1;exact k2 (by show (s.marks[qdF s.marks fr]?).map _≠_;rw[hab];simpa using he)
  ·next hno=>
   obtain⟨_,k2⟩:=qhw (fun g:Int×Int=>g.1) (fr,max 0 n) s.marks h.mka.1;have hle:s.marks.length≤qdF s.marks fr:=by
    rcases Nat.lt_or_ge (qdF s.marks fr) s.marks.length with hlt|hge
    ·rw[zY hlt] at hno;cases hno
    ·exact hge
   have:=k2 (by show (s.marks[qdF s.marks fr]?).map _≠_;rw[List.getElem?_eq_none hle];simp);have e:∀k,s.marks.length≤k→s.marks.take k++(fr,max 0 n)::s.marks.drop k=s.marks++[(fr,max 0 n)]:=fun k hk=>by rw[List.take_of_length_le hk,List.drop_of_length_le hk]
   rw[show (s.marks.take (s.marks.takeWhile fun y=>decide (y.1<(fr,max 0 n).1)).length++(fr,max 0 n)::s.marks.drop (s.marks.takeWhile fun y=>decide (y.1<(fr,max 0 n).1)).length)=s.marks++[(fr,max 0 n)] from e _ hle] at this;exact this
 refine⟨h.self,h.vs,h.sent0,h.sent,h.based,h.known,h.own,h.st0,h.st,h.pl,h.pd,h.pp,.inr ⟨ho,hl⟩,h.fl0,⟨key,fun k hk=>?_⟩,fun x hx=>?_,h.fla,h.fls⟩
 ·obtain⟨x,hx,rfl⟩:=List.mem_map.1 hk;rcases mem x hx with hx|⟨he,_⟩
  ·exact h.mka.2 _ (List.mem_map.2 ⟨x,hx,rfl⟩)
  ·rw[he];exact hf0
 ·rcases mem x hx with hx|⟨he,h2⟩
  ·exact h.mks x hx
  ·refine⟨by rw[he];exact hne,by rw[he];exact hm,?_,?_⟩
   ·rcases h2 with h2|⟨y,hy,h2⟩<;>rw[h2]<;>omega
   ·show x.2≤(s.log.length:Int);rcases h2 with h2|⟨y,hy,h2⟩
    ·rw[h2];omega
    ·have:=(h.mks y hy).2.2.2;rw[h2];omega
theorem qd1(base:Int):∀(l:List Fls) (out:List Ent),(l.foldl (fun out f=>if f.2.1=base∧out.length<f.2.2.length then f.2.2 else out) out)=out∨∃f∈l,f.2.1=base∧(l.foldl (fun out f=>if f.2.1=base∧out.length<f.2.2.length then f.2.2 else out) out)=f.2.2
 | [],out=>.inl rfl
 | f::l,out=>by
  simp only[List.foldl_cons];by_cases hc:f.2.1=base∧out.length<f.2.2.length
  ·rw[if_pos hc];rcases qd1 base l f.2.2 with h|⟨g,hg,h⟩
   ·exact .inr ⟨f,by simp,hc.1,h⟩
   ·exact .inr ⟨g,by simp[hg],h⟩
  ·rw[if_neg hc];rcases qd1 base l out with h|⟨g,hg,h⟩
   ·exact .inl h
   ·exact .inr ⟨g,by simp[hg],h⟩
theorem qgl{n:Int}{xs:List Int}(h:qap n xs=true):qcq (qab n xs)=true:=by
 unfold qcq;have:(qab n xs).p=qqe n xs:=rfl;rw[this,qqG h];simp
theorem qkc{l:List Ent}{n:Int}{xs:List Int}(hl:qax l=true)(hlen:l.length<2000)(hn:qap n xs=true)(hlt:l=[]∨qca l<n):qax (l++[qab n xs])=true∧qca (l++[qab n xs])=n:=by
 refine⟨qko hl hlen ?_,by unfold qca;simp[qab]⟩;unfold qcP;rcases hlt with rfl|hlt
 ·rw[if_pos (.inl rfl)];simp[qgl hn]
 ·rcases Nat.eq_zero_or_pos l.length with h0|h0
  ·rw[if_pos (.inl h0)];simp[qgl hn,h0]
  ·have hp:qev (l++[qab n xs]) l.length=qca l:=by
    rw[qfU (zR _) h0];rfl
   have hv:(qab n xs).v=n:=rfl;rw[hp,hv,if_pos (.inr (by omega)),qgl hn];simp;omega
theorem VS.install{s:St}(h:VS s)(ho:qan s=false)(hl:qas s=true):VS (qaD s)∧Grown s (qaD s) []:=by
 unfold qaD;split
 ·exact⟨h,Grown.same rfl rfl⟩
 ·next h1=>
  split
  ·exact⟨h,Grown.same rfl rfl⟩
  ·split
   ·exact⟨h,Grown.same rfl rfl⟩
   ·next h3=>
    have hm:s.marks=[]:=by
     rcases h.mk0 with hm|⟨hm,_⟩
     ·exact hm
     ·rw[ho] at hm;cases hm
    have h3':qgy s (qa0 s.fls (qaA s.fls))=true:=by simpa using h3
    unfold qgy at h3';simp only[zB,zE] at h3';obtain⟨f1,f2,f3⟩:=h3';have hch:qax (qa0 s.fls (qaA s.fls))=true∧(qa0 s.fls (qaA s.fls)=[]∨qca (qa0 s.fls (qaA s.fls))<(qad s.views).1):=by
     rcases qd1 (qaA s.fls) s.fls [] with hc|⟨f,hf,hb,hc⟩
     ·have:qa0 s.fls (qaA s.fls)=[]:=hc;rw[this];exact⟨by decide,.inl rfl⟩
     ·have:qa0 s.fls (qaA s.fls)=f.2.2:=hc;rw[this];have hp:=(h.fls f hf).2;have hbn:f.2.1≠-1:=by
       intro e;rw[e] at hb;exact h1 (.inr hb.symm)
      unfold qbL qaY at hp;rw[if_neg hbn,if_neg hbn] at hp;simp only[zB,zE] at hp;obtain⟨p1,p2,p3,p4⟩:=hp;refine⟨p3,.inr ?_⟩;rw[p4];cases hk:qaQ s.views f.2.1 with
      | none=>rw[hk] at p1;cases p1
      | some v=>rw[hk] at p1;simp only[zB,zE] at p1;exact p1.1
    obtain⟨v1,v2⟩:=qkc hch.1 f1 h.last hch.2;have hn:=qaV h.last;obtain⟨k1,k2⟩:=h.relog hm (qfa (by simp) v1 v2 (by omega)) (h.lead_has hl) (l:=qa0 s.fls (qaA s.fls)++[qab (qad s.views).1 (qad s.views).2]) (by
     unfold qgs at f2⊢;simp only[zB,zE] at f2⊢;refine⟨by simp only[zA];omega,?_⟩;rw[List.take_append_of_le_length f2.1];exact f2.2) (by
     rw[qbI];have hs:=h.self;unfold qcl at hs;simp at hs;have:qar [qab (qad s.views).1 (qad s.views).2] s.self=0:=by
      simp[qar,qab];omega
     rw[this];exact f3)
    exact⟨k1,Grown.same rfl k2⟩
theorem qhO{s:St}(h:VS s):Good s (qaM s):=by
 unfold qaM;rw[if_neg (by rw[qb2.2 h];simp)];unfold qdw;cases ho:qan s with
 | true=>
  simp only[if_true];cases hl:qas s with
  | true=>
   simp only[if_true];unfold qfR;simp only;have g:=((Good.begin h []).take ho).announce;obtain⟨k1,k2,_⟩:=qcj (qad (qam {(⟨s,[],[]⟩:Cs) with s:=qbo s}).s.views).2 (qam {(⟨s,[],[]⟩:Cs) with s:=qbo s});exact g.send k1 k2
  | false=>
   simp only[Bool.false_eq_true,if_false];unfold qcV;obtain⟨k1,k2⟩:=qew (List.range (qbK s)) (qcm ⟨s,[],[]⟩ (qa1 (qad s.views)) 13 (qav [s.base,s.log.length]));exact(Good.begin h []).send k1 k2
 | false=>
  simp only[Bool.false_eq_true,if_false];cases hl:qas s with
  | true=>
   simp only[if_true];by_cases hm:qhY s=true
   ·rw[if_pos hm];obtain⟨k1,k2⟩:=h.install ho hl;exact⟨k1,k2,h.st0⟩
   ·rw[if_neg hm];have hp:qbL s.views (s.self,s.base,s.log)=true:=by
     unfold qbL;simp only[zB];refine⟨?_,h.based⟩;split
     ·rfl
     ·next hb=>
      rcases h.known with hk|⟨v,hk,hv⟩
      ·exact absurd hk hb
      ·rw[hk];simp only[zB,zE];refine⟨?_,hv⟩;have hin:v∈s.views:=List.mem_of_find?_eq_some hk;have hv1:v.1=s.base:=by have:=List.find?_some hk;simpa using this
       obtain⟨i,hi,rfl⟩:=List.mem_iff_getElem.1 hin;have n1:=qsx h.vs i hi;have n2:=qsx h.vs (s.views.length - 1) (by omega);rw[qes hi] at n1;have ho':s.base≠(qad s.views).1:=by
        unfold qan at ho;simpa using ho
       unfold qad at ho'⊢;omega
    have h':=h.put (f:=(s.self,s.base,s.log)) ho hl h.self hp;obtain⟨k1,k2⟩:=h'.install ho hl;refine⟨k1,?_,h.st0⟩;exact⟨k2.st,k2.cut,k2.pre⟩
  | false=>
   simp only[Bool.false_eq_true,if_false];exact(Good.begin h []).send rfl rfl
theorem qlA{s:St}(h:VS s){v:Vw}(he:(qaT s v).2=0):VS (qaT s v).1∧(qaT s v).1.stable=s.stable:=by
 unfold qaT at he⊢;rw[if_neg (by rw[qb2.2 h];simp)] at he⊢;split at he
 ·cases he
 ·next hc=>
  rw[if_neg hc];have hv:qaw (s.views++[v])=true:=by simpa using hc
  refine⟨⟨h.self,hv,h.sent0,h.sent,h.based,?_,h.own,h.st0,h.st,h.pl,h.pd,h.pp,.inl rfl,.inl rfl,⟨List.Pairwise.nil,fun k hk=>absurd hk (by simp)⟩,fun m hm=>absurd hm (by simp),⟨List.Pairwise.nil,fun k hk=>absurd hk (by simp)⟩,fun m hm=>absurd hm (by simp)⟩,rfl⟩;rcases h.known with hk|⟨u,hk,hu⟩
  ·exact .inl hk
  ·refine .inr ⟨u,?_,hu⟩;show qaQ (s.views++[v]) s.base=some u;unfold qaQ at hk⊢;rw[List.find?_append,hk];rfl
theorem qjB(r:Rd):0≤(qdS r).1:=by
 unfold qdS;split
 ·exact Int.le_refl _
 ·exact Int.natCast_nonneg _
theorem qje(r:Rd):(qnO r).1.length≤6000:=by
 unfold qnO qlE;have:=(qgq r.1 6000).1;simp only;split
 ·simp
 ·split
  ·simp
  ·simp only[zT];omega
theorem qto{kind:Int}{r r':Rd}{m:Msg}(h:qeP kind r=some (m,r')):m.kind=kind∧(kind=11→m.pay.length≤6000)∧(kind=13→0≤m.first):=by
 unfold qeP at h;simp only at h;split at h
 ·next hk=>cases h;exact⟨rfl,fun _=>qje _,fun e=>by omega⟩
 ·split at h
  ·next hk=>cases h;exact⟨rfl,fun e=>by omega,fun e=>by omega⟩
  ·split at h
   ·next hk=>cases h;exact⟨rfl,fun e=>by omega,fun _=>qjB _⟩
   ·split at h
    ·next hk=>cases h;exact⟨rfl,fun e=>by omega,fun e=>by omega⟩
    ·split at h
     ·next hk=>cases h;exact⟨rfl,fun e=>by omega,fun e=>by omega⟩
     ·cases h
theorem qod{frame:List UInt8}{m:Msg}(h:qa7 frame=some m):(m.kind=11→m.pay.length≤6000)∧(m.kind=13→0≤m.first):=by
 unfold qa7 at h;simp only at h;split at h
 ·cases h
 ·split at h
  ·cases h
  ·next m' r' hb=>
   split at h
   ·cases h;obtain⟨h1,h2,h3⟩:=qto hb;rw[h1];exact⟨h2,h3⟩
   ·cases h
theorem qiI{l ex:List Ent}{b:Int}(hl:qca l=b)(hx:∀e∈ex,e.v=b):qca (l++ex)=b:=by
 rcases List.eq_nil_or_concat ex with rfl|⟨ys,y,rfl⟩
 ·simpa using hl
 ·unfold qca;have:(l++ys.concat y)[(l++ys.concat y).length - 1]?=some y:=by
   rw[List.concat_eq_append,←List.append_assoc];simp
  rw[this];exact hx y (by simp)
theorem Good.appended{s:St}{c:Cs}(g:Good s c)(ho:qan c.s=true)(m:Msg):Good s (qaS c m):=by
 obtain⟨_,hb⟩:=g.vs.open_base ho;obtain⟨b1,b2,b3⟩:=g.vs.log hb;unfold qaS;split
 ·exact g
 ·split
  ·exact g
  ·split
   ·exact g
   ·next hany=>
    split
    ·exact g
    ·next hv=>
     have hv1:qax (c.s.log++m.ents.drop (qcH c m))=true:=by
      cases hx:qax (c.s.log++m.ents.drop (qcH c m)) with
      | true=>rfl
      | false=>exact absurd (.inl hx) hv
     have hv2:¬c.s.sent<qar (c.s.log++m.ents.drop (qcH c m)) c.s.self:=fun e=>hv (.inr e);have hall:∀e∈m.ents.drop (qcH c m),e.v=c.s.base:=by
      intro e he;have h1:∀x∈m.ents.drop (qcH c m),x.v=c.s.base∧¬x.o=0:=by simpa using hany
      exact(h1 e he).1
     refine(g.extend (ex:=m.ents.drop (qcH c m)) (qfa (by simp only[zA];omega) hv1 (qiI b3 hall) hb) (by omega)).raise ?_;simp only;omega
theorem Good.submitted{s:St}{c:Cs}(g:Good s c)(ho:qan c.s=true){fr:Int}(hf:qcl fr=true)(hne:fr≠c.s.self){m:Msg}(hp:m.pay.length≤6000):Good s (qa5 c fr m):=by
 obtain⟨_,hb⟩:=g.vs.open_base ho;obtain⟨b1,b2,b3⟩:=g.vs.log hb;unfold qa5;split
 ·next h=>
  obtain⟨h1,h2⟩:=h;obtain⟨v1,v2⟩:=qmm b2 h2 b1 b3 hf hp;rw[h1];refine g.extend (qfa (by simp) v1 v2 hb) ?_;rw[qbI];have:qar [(⟨c.s.base,fr,(qar c.s.log fr:Int)+1,m.pay⟩:Ent)] c.s.self=0:=by simp[qar,hne]
  rw[this];exact g.vs.own
 ·exact g
theorem qjf{s:St}(h:VS s){fr:Int}(hf:qcl fr=true)(hne:fr≠s.self){m:Msg}(h11:m.kind=11→m.pay.length≤6000)(h13:m.kind=13→0≤m.first)(hnum:m.num=(qad s.views).1):Good s (qao ⟨s,[],[]⟩ fr m):=by
 have g:=Good.begin h [];unfold qao;simp only;split
 ·next hc=>exact g.submitted hc.2.1 hf hne (h11 hc.1)
 ·split
  ·next hc=>exact g.appended hc.2.1 m
  ·split
   ·next hc=>
    unfold qco;split
    ·exact g
    ·next hle=>
     have h':=h.ack hc.2.1 hc.2.2.1 hne hc.2.2.2 (h13 hc.1) (by simp only at hle;omega);have g':Good s {(⟨s,[],[]⟩:Cs) with s:={s with marks:=qfi s.marks fr m.first}}:=⟨h',Grown.same rfl rfl,h.st0⟩;exact g'.announce
   ·split
    ·next hc=>
     split
     ·next hp=>
      have h':=h.put (f:=(fr,m.first,m.ents)) hc.2.1 hc.2.2 hf hp;obtain⟨k1,k2⟩:=h'.install hc.2.1 hc.2.2;exact⟨k1,⟨k2.st,k2.cut,k2.pre⟩,h.st0⟩
     ·exact g
    ·split
     ·next hc=>
      unfold qbp;split
      ·next hi=>
       obtain⟨i1,i2,i3,i4⟩:=hi;simp only at i2 i3 i4;have hm:s.marks=[]:=by
        rcases h.mk0 with hm|⟨hm,_⟩
        ·exact hm
        ·rw[hc.2.1] at hm;cases hm
       have hfl:s.fls=[]:=by
        rcases h.fl0 with hm|⟨_,hm⟩
        ·exact hm
        ·rw[hc.2.2.1] at hm;cases hm
       rw[hnum] at i2;obtain⟨k1,k2⟩:=h.relog hm i2 hc.2.2.2.2 i3 i4;have e:({s with base:=m.num,log:=m.ents}:St)={s with base:=(qad s.views).1,log:=m.ents,fls:=[]}:=by rw[hnum,←hfl]
       refine⟨?_,?_,h.st0⟩
       ·show VS {s with base:=m.num,log:=m.ents};rw[e];exact k1
       ·show Grown s {s with base:=m.num,log:=m.ents} [];exact Grown.same rfl k2
      ·exact g
     ·exact g
theorem qfl{s:St}(h:VS s)(fr:Int)(frame:List UInt8):((qak s fr frame).2≠0∧(qak s fr frame).1.dl=[])∨((qak s fr frame).2=0∧Good s (qak s fr frame).1):=by
 unfold qak;split
 ·exact .inl ⟨by decide,rfl⟩
 ·next hc=>
  have hf:qcl fr=true:=by
   cases hx:qcl fr with
   | true=>rfl
   | false=>exact absurd (.inr (.inl hx)) hc
  have hne:fr≠s.self:=fun e=>hc (.inr (.inr e));split
  ·exact .inl ⟨by decide,rfl⟩
  ·next m hm=>
   obtain⟨r1,r2⟩:=qod hm;right;refine⟨rfl,?_⟩;split
   ·next hn=>exact qjf h hf hne r1 r2 hn
   ·exact Good.begin h []
def MajP(x:Vw)(q:Int→Prop):Prop:=∃l:List Int,l.Nodup∧(∀a∈l,a∈x.2∧q a)∧qfB x.2.length≤(l.length:Int)
theorem MajP.mono{x:Vw}{q q':Int→Prop}(h:MajP x q)(hq:∀a,q a→q' a):MajP x q':=by
 obtain⟨l,h1,h2,h3⟩:=h;exact⟨l,h1,fun a ha=>⟨(h2 a ha).1,hq a (h2 a ha).2⟩,h3⟩
theorem MajP.meet{x:Vw}{p q:Int→Prop}(hx:qap x.1 x.2=true)(h:MajP x p)(h':MajP x q):∃a,p a∧q a:=by
 obtain⟨l,h1,h2,h3⟩:=h;obtain⟨m,g1,g2,g3⟩:=h';apply Classical.byContradiction;intro hn;have hd:(l++m).Nodup:=List.nodup_append.2 ⟨h1,g1,fun a ha b hb e=>hn ⟨a,(h2 a ha).2,by rw[e];exact(g2 b hb).2⟩⟩;have hs:=hd.length_le_of_subset (l₂:=x.2) (fun a ha=>by
  rcases List.mem_append.1 ha with ha|ha
  ·exact(h2 a ha).1
  ·exact(g2 a ha).1)
 rw[zA] at hs;have hl:=qaU hx;unfold qfB at h3 g3;rw[if_pos (by omega)] at h3 g3;omega
theorem qei{l:List Int}(h:l.Nodup){i j:Nat}(hi:i<l.length)(hj:j<l.length)(he:l[i]=l[j]):i=j:=by
 rcases Nat.lt_trichotomy i j with hij|hij|hij
 ·exact absurd he (List.pairwise_iff_getElem.1 h i j hi hj hij)
 ·exact hij
 ·exact absurd he.symm (List.pairwise_iff_getElem.1 h j i hj hi hij)
abbrev qc8:=Int→Int→List Ent
abbrev qdT:=Int→List (List UInt8)
def tgt(s:St):Int:=(qad s.views).1
def qkl(mem:List St)(f T:Int):Prop:=∃s∈mem,s.self=f∧T≤tgt s
def qsd(mem:List St)(H:qc8)(T:Int)(f:Fls):Prop:=qkl mem f.1 T∧f.2.1<T∧H f.1 f.2.1=f.2.2∧∀b,f.2.1<b→b<T→H f.1 b=[]
def Com(vs:List Vw)(H:qc8)(b:Int)(n:Nat):Prop:=∃x,qaQ vs b=some x∧MajP x (fun q=>n≤(H q b).length)
def qjp(vs:List Vw)(b:Int):Int:=match qaQ vs b with|some x=>qa1 x|none=>0
theorem qeC{vs:List Vw}{b:Int}{x:Vw}(h:qaQ vs b=some x):qjp vs b=qa1 x:=by unfold qjp;rw[h]
def Stab(vs:List Vw)(H:qc8)(B:Int)(l:List Ent):Prop:=l=[]∨∃b,b≤B∧Com vs H b l.length∧l<+:H (qjp vs b) b
def qom(vs:List Vw)(mem:List St)(H:qc8)(b:Int)(ch:List Ent):Prop:=
 (b=(qbu vs 0).1∧ch=[])∨∃(t:Int) (F:List Int),(qbu vs 0).1≤t∧t<b∧ch≠[]∧(∀y∈vs,t≤y.1→y.1<b→MajP y (·∈F))∧
  (∀f∈F,qkl mem f b∧(∀b',t<b'→b'<b→H f b'=[])∧(H f t).length≤ch.length)∧∃f∈F,H f t=ch
def qvi(vs:List Vw)(mem:List St)(H:qc8)(b:Int):Prop:=∃x ch,qaQ vs b=some x∧qom vs mem H b ch∧∀p,H p b≠[]→ch++[qab x.1 x.2]<+:H p b
def SentOk(S:qdT)(o q:Int)(p:List UInt8):Prop:=1≤q∧(S o)[(q - 1).toNat]?=some p
def GoodE(vs:List Vw)(S:qdT)(e:Ent):Prop:=(e.o=0∧∃x∈vs,e=qab x.1 x.2)∨(e.o≠0∧SentOk S e.o e.q e.p∧∃x∈vs,e.v=x.1)
structure Core(vs:List Vw)(mem:List St)(H:qc8)(S:qdT):Prop where
 vld:qaw vs=true
 ok:∀s∈mem,VS s∧s.views<+:vs
 ids:(mem.map St.self).Nodup
 cur:∀s∈mem,H s.self s.base=s.log∧∀b,s.base<b→H s.self b=[]
 out:∀p,(∀s∈mem,s.self≠p)→(∀b,H p b=[])∧S p=[]
 log:∀p b,H p b≠[]→qaY (H p b) b=true∧b≠-1∧∃x,qaQ vs b=some x∧qbN x.2 p=true
 led:∀p b,H p b<+:H (qjp vs b) b
 born:∀p b,H p b≠[]→qvi vs mem H b
 stab:∀s∈mem,Stab vs H s.base (s.log.take s.stable.toNat)
 marks:∀s∈mem,∀m∈s.marks,m.2≤((H m.1 s.base).length:Int)
 fls:∀s∈mem,∀f∈s.fls,qsd mem H (tgt s) f
 pend:∀s∈mem,s.sent=((S s.self).length:Int)∧s.pend=(S s.self).drop (qar (s.log.take s.stable.toNat) s.self)
 good:∀p b,∀e∈H p b,GoodE vs S e
def qcv(vs:List Vw)(mem:List St)(H:qc8)(S:qdT)(a:Int)(m:Msg):Prop:=
 (m.kind=11→SentOk S a m.first m.pay)∧
 (m.kind=12→0≤m.first∧m.ents<+:(H a m.num).drop m.first.toNat∧m.stable≤((H a m.num).length:Int)∧Stab vs H m.num ((H a m.num).take m.stable.toNat))∧
 (m.kind=13→m.first≤((H a m.num).length:Int))∧
 (m.kind=14→qsd mem H m.num (a,m.first,m.ents))∧
 (m.kind=15→m.ents<+:H a m.num)
structure Grow(vs:List Vw)(mem:List St)(H:qc8)(S:qdT)(vs':List Vw)(mem':List St)(H':qc8)(S':qdT):Prop where
 pre:vs<+:vs'
 ok:qaw vs=true∧qaw vs'=true
 tg:∀s∈mem,∃s'∈mem',s'.self=s.self∧tgt s≤tgt s'
 up:∀p b,H p b<+:H' p b
 at_:∀p b,H' p b≠H p b→∀s'∈mem',s'.self=p→tgt s'≤b
 su:∀p,S p<+:S' p
theorem qeg{l l':List Vw}{b:Int}{x:Vw}(h:l<+:l')(hk:qaQ l b=some x):qaQ l' b=some x:=by
 obtain⟨r,rfl⟩:=h;unfold qaQ at *;rw[List.find?_append,hk];rfl
theorem qbb{l:List Vw}{b:Int}{x:Vw}(h:qaQ l b=some x):x∈l∧x.1=b:=by
 unfold qaQ at h;exact⟨List.mem_of_find?_eq_some h,by simpa using List.find?_some h⟩
theorem qb4{l:List Vw}(hv:qaw l=true){x:Vw}(h:x∈l):(qbu l 0).1≤x.1∧x.1≤(qad l).1∧qap x.1 x.2=true∧0≤x.1∧∃i,i<l.length∧x=qbu l i∧x.1=(qbu l 0).1+i:=by
 obtain⟨i,hi,rfl⟩:=List.mem_iff_getElem.1 h;have h1:=qsx hv i hi;have h0:=(qa8 hv).1;have h2:=qsx hv (l.length - 1) (by omega);have h3:=qel hv i hi;rw[qes hi] at h1 h3;have h4:=qaV h3;unfold qad;exact⟨by omega,by omega,h3,h4.1,i,hi,(qes hi).symm,h1⟩
theorem qdn{l l':List Vw}(h:l<+:l')(hl:1≤l.length):qbu l' 0=qbu l 0:=by
 obtain⟨r,rfl⟩:=h;unfold qbu;rw[List.getElem?_append_left (by omega)]
theorem qpr{l l':List Vw}(h:l<+:l')(hv:qaw l=true)(hv':qaw l'=true){y:Vw}(hy:y∈l'){x:Vw}(hx:x∈l)(hle:y.1≤x.1):y∈l:=by
 obtain⟨_,_,_,_,i,hi,e1,e2⟩:=qb4 hv' hy;obtain⟨_,_,_,_,j,hj,f1,f2⟩:=qb4 hv hx;rw[qdn h (by omega)] at e2;have hij:i<l.length:=by omega
 obtain⟨r,rfl⟩:=h;have:qbu (l++r) i=qbu l i:=by unfold qbu;rw[List.getElem?_append_left hij]
 rw[e1,this,qes hij];exact List.getElem_mem _
theorem ql4{l l':List Vw}{b:Int}{x:Vw}(h:l<+:l')(hk:qaQ l b=some x):qjp l' b=qjp l b:=by
 rw[qeC hk,qeC (qeg h hk)]
theorem qbw{vs:List Vw}{s:St}(h:VS s)(hp:s.views<+:vs):qaQ vs (tgt s)=some (qad s.views):=qeg hp (qdf h.vs)
section
variable {vs vs':List Vw} {mem mem':List St} {H H':qc8} {S S':qdT}
theorem Grow.sealed(g:Grow vs mem H S vs' mem' H' S'){f T:Int}(h:qkl mem f T):qkl mem' f T:=by
 obtain⟨s,h1,h2,h3⟩:=h;obtain⟨s',k1,k2,k3⟩:=g.tg s h1;exact⟨s',k1,k2.trans h2,by omega⟩
theorem Grow.froz(g:Grow vs mem H S vs' mem' H' S'){f T b:Int}(h:qkl mem' f T)(hb:b<T):H' f b=H f b:=by
 apply Classical.byContradiction;intro hn;obtain⟨s',k1,k2,k3⟩:=h;have:=g.at_ f b hn s' k1 k2;omega
theorem Grow.flok(g:Grow vs mem H S vs' mem' H' S'){T:Int}{f:Fls}(h:qsd mem H T f):qsd mem' H' T f:=by
 obtain⟨h1,h2,h3,h4⟩:=h;have h1':=g.sealed h1;refine⟨h1',h2,?_,fun b hb hT=>?_⟩
 ·rw[g.froz h1' h2];exact h3
 ·rw[g.froz h1' hT];exact h4 b hb hT
theorem Grow.com(g:Grow vs mem H S vs' mem' H' S'){b:Int}{n:Nat}(h:Com vs H b n):Com vs' H' b n:=by
 obtain⟨x,h1,h2⟩:=h;exact⟨x,qeg g.pre h1,h2.mono (fun a ha=>zL ha (g.up a b).length_le)⟩
theorem Grow.stab(g:Grow vs mem H S vs' mem' H' S'){B:Int}{l:List Ent}(h:Stab vs H B l):Stab vs' H' B l:=by
 rcases h with h|⟨b,h1,h2,h3⟩
 ·exact .inl h
 ·refine .inr ⟨b,h1,g.com h2,?_⟩;obtain⟨x,hk,_⟩:=h2;rw[ql4 g.pre hk];exact h3.trans (g.up _ _)
theorem Grow.birth(g:Grow vs mem H S vs' mem' H' S'){b:Int}{ch:List Ent}{x:Vw}(hk:qaQ vs b=some x)(h:qom vs mem H b ch):qom vs' mem' H' b ch:=by
 have hf:=qdn g.pre (qa8 g.ok.1).1;rcases h with ⟨h1,h2⟩|⟨t,F,h1,h2,h3,h4,h5,f,h6,h7⟩
 ·exact .inl ⟨by rw[hf];exact h1,h2⟩
 ·obtain⟨hx,hxb⟩:=qbb hk;have hz:∀f∈F,H' f t=H f t:=fun f hf=>g.froz (g.sealed (h5 f hf).1) h2;refine .inr ⟨t,F,by rw[hf];exact h1,h2,h3,fun y hy hy1 hy2=>h4 y (qpr g.pre g.ok.1 g.ok.2 hy hx (by omega)) hy1 hy2,fun f hf=>⟨g.sealed (h5 f hf).1,fun b' hb hb'=>?_,?_⟩,f,h6,?_⟩
  ·rw[g.froz (g.sealed (h5 f hf).1) hb'];exact(h5 f hf).2.1 b' hb hb'
  ·rw[hz f hf];exact(h5 f hf).2.2
  ·rw[hz f h6];exact h7
theorem SentOk.mono{o q:Int}{p:List UInt8}(h:SentOk S o q p)(hs:∀p,S p<+:S' p):SentOk S' o q p:=by
 obtain⟨h1,h2⟩:=h;obtain⟨r,hr⟩:=hs o;refine⟨h1,?_⟩;rw[←hr,List.getElem?_append_left (zZ h2).1];exact h2
theorem GoodE.mono{e:Ent}(h:GoodE vs S e)(hv:vs<+:vs')(hs:∀p,S p<+:S' p):GoodE vs' S' e:=by
 rcases h with ⟨h1,x,h2,h3⟩|⟨h1,h2,x,h3,h4⟩
 ·exact .inl ⟨h1,x,hv.subset h2,h3⟩
 ·exact .inr ⟨h1,h2.mono hs,x,hv.subset h3,h4⟩
theorem Grow.msg(g:Grow vs mem H S vs' mem' H' S'){a:Int}{m:Msg}(h:qcv vs mem H S a m):qcv vs' mem' H' S' a m:=by
 obtain⟨h1,h2,h3,h4,h5⟩:=h;refine⟨fun hk=>(h1 hk).mono g.su,fun hk=>?_,fun hk=>?_,fun hk=>g.flok (h4 hk),fun hk=>(h5 hk).trans (g.up _ _)⟩
 ·obtain⟨k1,k2,k3,k4⟩:=h2 hk;have hu:=g.up a m.num;have hle:=hu.length_le;refine⟨k1,k2.trans ?_,by omega,?_⟩
  ·obtain⟨r,hr⟩:=hu;rw[←hr];by_cases hd:m.first.toNat≤(H a m.num).length
   ·rw[List.drop_append_of_le_length hd];exact List.prefix_append _ _
   ·rw[List.drop_eq_nil_of_le (by omega)];exact List.nil_prefix
  ·have e:(H' a m.num).take m.stable.toNat=(H a m.num).take m.stable.toNat:=by
    obtain⟨r,hr⟩:=hu;rw[←hr,List.take_append_of_le_length (by omega)]
   rw[e];exact g.stab k4
 ·have:=(g.up a m.num).length_le;have:=h3 hk;omega
theorem Core.ne_first(c:Core vs mem H S){b:Int}{x:Vw}(h:qaQ vs b=some x):(qbu vs 0).1≤b∧qap x.1 x.2=true∧x∈vs∧x.1=b:=by
 obtain⟨h1,h2⟩:=qbb h;obtain⟨k1,_,k2,_⟩:=qb4 c.vld h1;exact⟨by omega,k2,h1,h2⟩
theorem Core.agree(c:Core vs mem H S){b:Int}{n:Nat}(hc:Com vs H b n):∀(d:Nat) (T p:Int),T - b=d→b<T→H p T≠[]→(H (qjp vs b) b).take n<+:H p T:=by
 intro d;induction d using Nat.strongRecOn with
 | _ d ih=>
  intro T p hd hlt hne;obtain⟨xb,hkb,hmaj⟩:=hc;obtain⟨b1,b2,b3,b4⟩:=c.ne_first hkb;obtain⟨x,ch,hk,hbirth,hpre⟩:=c.born p T hne;refine List.IsPrefix.trans ?_ (hpre p hne);refine List.IsPrefix.trans ?_ (List.prefix_append ch _);rcases hbirth with ⟨h1,_⟩|⟨t,F,h1,h2,h3,h4,h5,f,h6,h7⟩
  ·omega
  rcases Int.lt_trichotomy t b with ht|ht|ht
  ·obtain⟨a,ha1,ha2⟩:=MajP.meet b2 hmaj (h4 xb b3 (by omega) (by omega));have:=(h5 a ha2).2.1 b ht hlt;rw[this] at ha1;have:n=0:=by simpa using ha1
   subst this;rw[List.take_zero];exact List.nil_prefix
  ·subst ht;obtain⟨a,ha1,ha2⟩:=MajP.meet b2 hmaj (h4 xb b3 (by omega) (by omega));have hle:=(h5 a ha2).2.2;have hp:=c.led f t;rw[h7] at hp;exact List.prefix_of_prefix_length_le (List.take_prefix _ _) hp (by rw[zT];omega)
  ·have:=ih (t - b).toNat (by omega) t f (by omega) ht (by rw[h7];exact h3);rwa [h7] at this
theorem Core.stab_le(c:Core vs mem H S){B B':Int}{l l':List Ent}(h:Stab vs H B l)(h':Stab vs H B' l'):l<+:l'∨l'<+:l:=by
 rcases h with h|⟨b,_,h2,h3⟩
 ·left;rw[h];exact List.nil_prefix
 rcases h' with h'|⟨b',_,h2',h3'⟩
 ·right;rw[h'];exact List.nil_prefix
 have key:∀(b b':Int) (l l':List Ent),Com vs H b l.length→l<+:H (qjp vs b) b→l'<+:H (qjp vs b') b'→b<b'→l<+:l'∨l'<+:l:=by
  intro b b' l l' h2 h3 h3' hlt;by_cases hl':l'=[]
  ·right;rw[hl'];exact List.nil_prefix
  have hne:H (qjp vs b') b'≠[]:=fun e=>by rw[e] at h3';exact hl' (List.prefix_nil.1 h3')
  have:=c.agree h2 (b' - b).toNat b' (qjp vs b') (by omega) hlt hne;rw[←List.prefix_iff_eq_take.1 h3] at this;exact List.prefix_or_prefix_of_prefix this h3'
 rcases Int.lt_trichotomy b b' with hb|hb|hb
 ·exact key b b' l l' h2 h3 h3' hb
 ·subst hb;exact List.prefix_or_prefix_of_prefix h3 h3'
 ·exact(key b' b l' l h2' h3' h3 hb).symm
theorem Com.le{b:Int}{n k:Nat}(h:Com vs H b n)(hk:k≤n):Com vs H b k:=by
 obtain⟨x,h1,h2⟩:=h;exact⟨x,h1,h2.mono (fun a ha=>zL hk ha)⟩
theorem Stab.pre{B:Int}{l l':List Ent}(h:Stab vs H B l)(hp:l'<+:l):Stab vs H B l':=by
 rcases h with h|⟨b,h1,h2,h3⟩
 ·left;rw[h] at hp;exact List.prefix_nil.1 hp
 ·exact .inr ⟨b,h1,h2.le hp.length_le,hp.trans h3⟩
theorem Stab.base{B B':Int}{l:List Ent}(h:Stab vs H B l)(hB:B≤B'):Stab vs H B' l:=by
 rcases h with h|⟨b,h1,h2,h3⟩
 ·exact .inl h
 ·exact .inr ⟨b,by omega,h2,h3⟩
end
theorem qid{l:List Ent}(h:qax l=true):∀(j i:Nat) (hj:j<l.length) (hi:i≤j),(l[i]'(by omega)).v≤(l[j]).v:=by
 intro j;induction j with
 | zero=>
  intro i hj hi;have:i=0:=by omega
  subst this;exact Int.le_refl _
 | succ j ih=>
  intro i hj hi;by_cases he:i=j+1
  ·subst he;exact Int.le_refl _
  have h1:=ih i (by omega) (by omega);have h2:=(qc6 h).2 (j+1) hj;rw[qcK (zY hj)] at h2;have hp:qev l (j+1)=(l[j]).v:=by unfold qev;rw[Nat.add_sub_cancel,zY (by omega)]
  unfold qcP at h2;rw[hp] at h2;split at h2
  ·simp only[zB,Bool.or_eq_true,zE] at h2;have:=h2.1;omega
  ·next hn=>omega
theorem qsL{l:List Ent}(h:qax l=true){e:Ent}(he:e∈l):e.v≤qca l:=by
 obtain⟨i,hi,rfl⟩:=List.mem_iff_getElem.1 he;have:=qid h (l.length - 1) i (by omega) (by omega);unfold qca;rw[zY (by omega)];exact this
theorem qjH{l:List Ent}{b:Int}(h:qaY l b=true){e:Ent}(he:e∈l):e.v≤b:=by
 unfold qaY at h;split at h
 ·simp only[zE] at h;rw[List.eq_nil_of_length_eq_zero h] at he;cases he
 ·simp only[zB,zE] at h;have:=qsL h.2.1 he;omega
theorem qpP{l:List Ent}(h:l≠[]):∃e∈l,e.v=qca l:=by
 have hp:0<l.length:=List.length_pos_iff.2 h;refine⟨l[l.length - 1],List.getElem_mem _,?_⟩;unfold qca;rw[zY (by omega)]
def upd(H:qc8)(p b:Int)(l:List Ent):qc8:=fun q c=>if q=p∧c=b then l else H q c
theorem qfP(H:qc8)(p b:Int)(l:List Ent):upd H p b l p b=l:=by unfold upd;rw[if_pos ⟨rfl,rfl⟩]
theorem qdR{H:qc8}{p b:Int}{l:List Ent}{q c:Int}(h:q≠p∨c≠b):upd H p b l q c=H q c:=by
 unfold upd;rw[if_neg (by rintro⟨h1,h2⟩;rcases h with h|h;exact h h1;exact h h2)]
theorem qbf{mem:List St}(hn:(mem.map St.self).Nodup){i:Nat}{s s':St}(hi:mem[i]?=some s){t:St}(ht:t∈mem.set i s'):t=s'∨(t∈mem∧t.self≠s.self):=by
 obtain⟨hl,hs⟩:=zZ hi;obtain⟨j,hj,rfl⟩:=List.mem_iff_getElem.1 ht;rw[List.length_set] at hj;rw[List.getElem_set];split
 ·exact .inl rfl
 ·next hne=>
  refine .inr ⟨List.getElem_mem _,fun he=>hne ?_⟩;exact qei hn (by simpa using hl) (by simpa using hj) (by simp only[List.getElem_map];rw[he,←hs])
theorem qdv{mem:List St}{i:Nat}{s s':St}(hi:mem[i]?=some s){t:St}(ht:t∈mem):t=s∨t∈mem.set i s':=by
 obtain⟨hl,hs⟩:=zZ hi;obtain⟨j,hj,rfl⟩:=List.mem_iff_getElem.1 ht;by_cases he:i=j
 ·subst he;exact .inl hs
 ·refine .inr (List.mem_iff_getElem.2 ⟨j,by rw[List.length_set];exact hj,?_⟩);rw[List.getElem_set_ne he]
theorem qmb{mem:List St}{i:Nat}{s s':St}(hi:mem[i]?=some s)(h:s'.self=s.self):(mem.set i s').map St.self=mem.map St.self:=by
 obtain⟨hl,hs⟩:=zZ hi;rw[List.map_set,h,←hs];apply List.ext_getElem
 ·simp
 ·intro j h1 h2;rw[List.getElem_set];split
  ·next he=>subst he;simp
  ·rfl
def qvo(vs:List Vw)(mem:List St)(H:qc8)(s s':St):Prop:=
 (s'.base=s.base∧s.log<+:s'.log∧(s'.log=s.log∨s.base=tgt s))∨
 (s.base<tgt s∧s'.base=tgt s∧∃ch,qom vs mem H (tgt s) ch∧ch++[qab (qad s.views).1 (qad s.views).2]<+:s'.log∧∀p,H p (tgt s)≠[]→ch++[qab (qad s.views).1 (qad s.views).2]<+:H p (tgt s))
section
variable {vs:List Vw} {mem:List St} {H:qc8} {S S':qdT} {i:Nat} {s s':St}
theorem Core.grow(c:Core vs mem H S)(hi:mem[i]?=some s)(hself:s'.self=s.self)(hvws:s'.views=s.views)(hS:∀p,S p<+:S' p)(hb:qvo vs mem H s s') :
  Grow vs mem H S vs (mem.set i s') (upd H s.self s'.base s'.log) S':=by
 have hsm:s∈mem:=zX hi;have hl:=(zZ hi).1;have ht:tgt s'=tgt s:=by unfold tgt;rw[hvws]
 obtain⟨c1,c2⟩:=c.cur s hsm;refine⟨List.prefix_rfl,⟨c.vld,c.vld⟩,fun t htm=>?_,fun p b=>?_,fun p b hne t htm he=>?_,hS⟩
 ·rcases qdv (s':=s') hi htm with rfl|h
  ·exact⟨s',List.mem_set hl _,hself,by omega⟩
  ·exact⟨t,h,rfl,Int.le_refl _⟩
 ·by_cases hpb:p=s.self∧b=s'.base
  ·obtain⟨rfl,rfl⟩:=hpb;rw[qfP];rcases hb with ⟨h1,h2,_⟩|⟨h1,h2,_⟩
   ·rw[h1,c1];exact h2
   ·rw[h2,c2 _ h1];exact List.nil_prefix
  ·rw[qdR (by rcases Classical.em (p=s.self) with h|h;exact .inr (fun e=>hpb ⟨h,e⟩);exact .inl h)];exact List.prefix_rfl
 ·have hpb:p=s.self∧b=s'.base:=by
   apply Classical.byContradiction;intro hpb;exact hne (qdR (by rcases Classical.em (p=s.self) with h|h;exact .inr (fun e=>hpb ⟨h,e⟩);exact .inl h))
  obtain⟨rfl,rfl⟩:=hpb;rcases qbf c.ids hi htm with rfl|⟨_,h⟩
  ·rw[ht];rcases hb with ⟨h1,_,h3⟩|⟨_,h2,_⟩
   ·rcases h3 with h3|h3
    ·exact absurd (by rw[qfP,h1,c1];exact h3) hne
    ·omega
   ·omega
  ·exact absurd he h
theorem Core.step(c:Core vs mem H S)(hi:mem[i]?=some s)(hv:VS s')(hself:s'.self=s.self)(hvws:s'.views=s.views)(hS:∀p,p≠s.self→S' p=S p)(hSu:S s.self<+:S' s.self)
  (hb:qvo vs mem H s s') (hled:s.self=qjp vs s'.base∨s'.log<+:H (qjp vs s'.base) s'.base) (hstab:Stab vs H s'.base (s'.log.take s'.stable.toNat))
  (hm:∀m∈s'.marks,m.2≤((H m.1 s'.base).length:Int)) (hf:∀f∈s'.fls,qsd mem H (tgt s) f)
  (hp:s'.sent=((S' s.self).length:Int)∧s'.pend=(S' s.self).drop (qar (s'.log.take s'.stable.toNat) s.self)) (hg:∀e∈s'.log,GoodE vs S' e) :
  Core vs (mem.set i s') (upd H s.self s'.base s'.log) S'∧∀a m,qcv vs mem H S a m→qcv vs (mem.set i s') (upd H s.self s'.base s'.log) S' a m:=by
 have hSall:∀p,S p<+:S' p:=fun p=>by
  by_cases h:p=s.self
  ·subst h;exact hSu
  ·rw[hS p h];exact List.prefix_rfl
 have g:=c.grow hi hself hvws hSall hb;refine⟨?_,fun a m h=>g.msg h⟩;have hsm:s∈mem:=zX hi;have ht:tgt s'=tgt s:=by unfold tgt;rw[hvws]
 obtain⟨c1,c2⟩:=c.cur s hsm;have hle:s.base≤s'.base:=by rcases hb with ⟨h1,_⟩|⟨h1,h2,_⟩<;>omega
 have split:∀p b,(p=s.self∧b=s'.base)∨(p≠s.self∨b≠s'.base):=fun p b=>by
  rcases Classical.em (p=s.self) with h|h
  ·rcases Classical.em (b=s'.base) with h'|h'
   ·exact .inl ⟨h,h'⟩
   ·exact .inr (.inr h')
  ·exact .inr (.inl h)
 refine⟨c.vld,fun t htm=>?_,by rw[qmb hi hself];exact c.ids,fun t htm=>?_,fun p hp=>?_,fun p b hne=>?_,fun p b=>?_,fun p b hne=>?_,fun t htm=>?_,fun t htm m hmm=>?_,fun t htm f hff=>?_,fun t htm=>?_,fun p b e he=>?_⟩
 ·rcases qbf c.ids hi htm with rfl|⟨h,_⟩
  ·exact⟨hv,by rw[hvws];exact(c.ok s hsm).2⟩
  ·exact c.ok t h
 ·rcases qbf c.ids hi htm with rfl|⟨h,h'⟩
  ·rw[hself];refine⟨qfP _ _ _ _,fun b hb'=>?_⟩;rw[qdR (.inr (by omega))];exact c2 b (by omega)
  ·obtain⟨k1,k2⟩:=c.cur t h;exact⟨by rw[qdR (.inl h')];exact k1,fun b hb'=>by rw[qdR (.inl h')];exact k2 b hb'⟩
 ·have hps:p≠s.self:=fun e=>hp s' (List.mem_set (zZ hi).1 _) (by rw[hself];exact e.symm);obtain⟨k1,k2⟩:=c.out p (fun t htm he=>by
   rcases qdv (s':=s') hi htm with rfl|h
   ·exact hps he.symm
   ·exact hp t h he)
  exact⟨fun b=>by rw[qdR (.inl hps)];exact k1 b,by rw[hS p hps];exact k2⟩
 ·rcases split p b with ⟨rfl,rfl⟩|h
  ·rw[qfP] at hne⊢;have hbd:=hv.based;have hn1:s'.base≠-1:=fun e=>by
    unfold qaY at hbd;rw[if_pos e] at hbd;simp only[zE] at hbd;exact hne (List.eq_nil_of_length_eq_zero hbd)
   refine⟨hbd,hn1,?_⟩;rcases hv.known with hk|⟨x,hk,hx⟩
   ·exact absurd hk hn1
   ·rw[hvws] at hk;rw[hself] at hx;exact⟨x,qeg (c.ok s hsm).2 hk,hx⟩
  ·rw[qdR h] at hne⊢;exact c.log p b hne
 ·rcases split p b with ⟨rfl,rfl⟩|h
  ·rw[qfP];by_cases hq:qjp vs s'.base=s.self
   ·rw[hq,qfP];exact List.prefix_rfl
   ·rw[qdR (.inl hq)];rcases hled with h|h
    ·exact absurd h.symm hq
    ·exact h
  ·rw[qdR h];exact(c.led p b).trans (g.up _ _)
 ·have old:∀q,H q b≠[]→(b≠s'.base∨s'.base=s.base)→qvi vs (mem.set i s') (upd H s.self s'.base s'.log) b:=fun q hq hor=>by
   obtain⟨x,ch,k1,k2,k3⟩:=c.born q b hq;refine⟨x,ch,k1,g.birth k1 k2,fun r hr=>?_⟩;rcases split r b with ⟨rfl,rfl⟩|h
   ·have hb0:s'.base=s.base:=by rcases hor with h|h;exact absurd rfl h;exact h
    have hbk:s.base≠-1:=by rw[←hb0];exact(c.log q _ hq).2.1
    have hsl:H s.self s'.base≠[]:=by rw[hb0,c1];exact List.ne_nil_of_length_pos ((c.ok s hsm).1.log hbk).1
    exact(k3 _ hsl).trans (g.up _ _)
   ·rw[qdR h] at hr⊢;exact k3 r hr
  by_cases hbb:b=s'.base
  ·subst hbb;rcases hb with ⟨h1,h2,h3⟩|⟨h1,h2,ch,h3,h4,h5⟩
   ·have hbk:s.base≠-1:=by
     rcases split p s'.base with ⟨rfl,_⟩|h
     ·rw[qfP] at hne;intro e;have hbd:=hv.based;unfold qaY at hbd;rw[if_pos (by omega)] at hbd;simp only[zE] at hbd;exact hne (List.eq_nil_of_length_eq_zero hbd)
     ·rw[qdR h] at hne;rw[←h1];exact(c.log p _ hne).2.1
    exact old s.self (by rw[h1,c1];exact List.ne_nil_of_length_pos ((c.ok s hsm).1.log hbk).1) (.inr h1)
   ·rw[h2];have hk:=qbw (c.ok s hsm).1 (c.ok s hsm).2;refine⟨_,ch,hk,by rw[←h2];exact g.birth (by rw[h2];exact hk) (by rw[h2];exact h3),fun r hr=>?_⟩;rcases split r (tgt s) with ⟨rfl,_⟩|h
    ·have e:upd H s.self (tgt s) s'.log s.self (tgt s)=s'.log:=qfP _ _ _ _;rw[e];exact h4
    ·rw[h2] at h;rw[qdR h] at hr⊢;exact h5 r hr
  ·rw[qdR (.inr hbb)] at hne;exact old p hne (.inl hbb)
 ·rcases qbf c.ids hi htm with rfl|⟨h,_⟩
  ·exact g.stab hstab
  ·exact g.stab (c.stab t h)
 ·rcases qbf c.ids hi htm with rfl|⟨h,_⟩
  ·have:=hm m hmm;have:=(g.up m.1 t.base).length_le;omega
  ·have:=c.marks t h m hmm;have:=(g.up m.1 t.base).length_le;omega
 ·rcases qbf c.ids hi htm with rfl|⟨h,_⟩
  ·rw[ht];exact g.flok (hf f hff)
  ·exact g.flok (c.fls t h f hff)
 ·rcases qbf c.ids hi htm with rfl|⟨h,h'⟩
  ·rw[hself];exact hp
  ·rw[hS _ h'];exact c.pend t h
 ·rcases split p b with ⟨rfl,rfl⟩|h
  ·rw[qfP] at he;exact hg e he
  ·rw[qdR h] at he;exact(c.good p b e he).mono List.prefix_rfl hSall
end
def Step1(vs:List Vw)(mem:List St)(H:qc8)(S:qdT)(i:Nat)(s':St)(S':qdT):Prop:=
 ∃H',Core vs (mem.set i s') H' S'∧∀a m,qcv vs mem H S a m→qcv vs (mem.set i s') H' S' a m
theorem Step1.next{vs:List Vw}{mem:List St}{H:qc8}{S S' S'':qdT}{i:Nat}{s' s'':St}(h:Step1 vs mem H S i s' S')(hi:i<mem.length)
  (k:∀mem' H',Core vs mem' H' S'→mem'[i]?=some s'→(∀a m,qcv vs mem H S a m→qcv vs mem' H' S' a m)→Step1 vs mem' H' S' i s'' S''):Step1 vs mem H S i s'' S'':=by
 obtain⟨H1,c1,a1⟩:=h;obtain⟨H2,c2,a2⟩:=k _ H1 c1 (by rw[List.getElem?_set_self hi]) a1;rw[List.set_set] at c2 a2;exact⟨H2,c2,fun a m hm=>a2 a m (a1 a m hm)⟩
theorem VS.base_le{s:St}(h:VS s):s.base≤tgt s:=by
 have h1:=qaV h.last;unfold tgt;rcases h.known with hk|⟨v,hk,_⟩
 ·omega
 ·obtain⟨k1,k2⟩:=qbb hk;have:=(qb4 h.vs k1).2.1;omega
theorem qdI{s:St}(ho:qan s=true):s.base=tgt s:=by unfold qan at ho;simpa[tgt] using ho
theorem qcB{s:St}(h:VS s)(ho:qan s=false):s.base<tgt s:=by
 have h1:=h.base_le;have h2:s.base≠tgt s:=by unfold qan at ho;simpa[tgt] using ho
 omega
section
variable {vs:List Vw} {mem:List St} {H:qc8} {S S':qdT} {i:Nat} {s s':St}
theorem Core.here(c:Core vs mem H S)(hi:mem[i]?=some s):s∈mem∧VS s∧s.views<+:vs∧i<mem.length:=
 have hm:=zX hi
 ⟨hm,(c.ok s hm).1,(c.ok s hm).2,(zZ hi).1⟩
theorem Core.refl(c:Core vs mem H S)(hi:mem[i]?=some s):Step1 vs mem H S i s S:=by
 have e:mem.set i s=mem:=by
  obtain⟨hl,hs⟩:=zZ hi;rw[←hs];exact List.set_getElem_self _
 refine⟨H,?_,fun a m h=>?_⟩
 ·rw[e];exact c
 ·rw[e];exact h
theorem Core.tweak(c:Core vs mem H S)(hi:mem[i]?=some s)(hv:VS s')(hself:s'.self=s.self)(hvws:s'.views=s.views)(hbase:s'.base=s.base)(hlog:s'.log=s.log)
  (hstab:Stab vs H s.base (s.log.take s'.stable.toNat)) (hm:∀m∈s'.marks,m.2≤((H m.1 s.base).length:Int)) (hf:∀f∈s'.fls,qsd mem H (tgt s) f)
  (hp:s'.sent=((S s.self).length:Int)∧s'.pend=(S s.self).drop (qar (s.log.take s'.stable.toNat) s.self)):Step1 vs mem H S i s' S:=by
 obtain⟨hsm,hvs,hpre,hl⟩:=c.here hi;have c1:=(c.cur s hsm).1;obtain⟨k1,k2⟩:=c.step hi hv hself hvws (fun _ _=>rfl) List.prefix_rfl (.inl ⟨hbase,by rw[hlog];exact List.prefix_rfl,.inl hlog⟩) (.inr (by rw[hbase,hlog,←c1];exact c.led _ _))
  (by rw[hbase,hlog];exact hstab) (by rw[hbase];exact hm) hf (by rw[hlog];exact hp) (fun e he=>c.good s.self s.base e (by rw[c1,←hlog];exact he))
 exact⟨_,k1,k2⟩
theorem Core.extend(c:Core vs mem H S)(hi:mem[i]?=some s)(ho:qan s=true){ex:List Ent}(hv:VS {s with log:=s.log++ex})(hled:qas s=true∨s.log++ex<+:H (qjp vs s.base) s.base)
  (hg:∀e∈ex,GoodE vs S e):Step1 vs mem H S i {s with log:=s.log++ex} S:=by
 obtain⟨hsm,hvs,hpre,hl⟩:=c.here hi;have c1:=(c.cur s hsm).1;have hst:=hvs.st;have hst0:=hvs.st0;have e1:(s.log++ex).take s.stable.toNat=s.log.take s.stable.toNat:=List.take_append_of_le_length (by omega);obtain⟨k1,k2⟩:=c.step hi hv rfl rfl (fun _ _=>rfl) List.prefix_rfl (.inl ⟨rfl,List.prefix_append _ _,.inr (qdI ho)⟩) (by
   rcases hled with h|h
   ·left;rw[qeC (by show qaQ vs s.base=_;rw[qdI ho];exact qbw hvs hpre)];unfold qas at h;simp only[zE] at h;exact h.symm
   ·exact .inr h)
  (by show Stab vs H s.base ((s.log++ex).take _);rw[e1];exact c.stab s hsm) (c.marks s hsm) (c.fls s hsm) (by show _∧s.pend=(S s.self).drop (qar ((s.log++ex).take _) _);rw[e1];exact c.pend s hsm)
  (fun e he=>by
   rcases List.mem_append.1 he with he|he
   ·exact c.good s.self s.base e (by rw[c1];exact he)
   ·exact hg e he)
 exact⟨_,k1,k2⟩
theorem qkm{L:List (List UInt8)}{s:St}{k:Nat}{q:Int}(h1:s.sent=(L.length:Int))(h2:s.pend=L.drop k)(h3:(k:Int)<q)(h4:q≤s.sent):1≤q∧L[(q - 1).toNat]?=some (qcg s q):=by
 refine⟨by omega,?_⟩;unfold qcg;have hk:k+((s.pend.length:Int) - 1 - (s.sent - q)).toNat=(q - 1).toNat:=by rw[h2,zD];omega
 have:s.pend[((s.pend.length:Int) - 1 - (s.sent - q)).toNat]?=L[(q - 1).toNat]?:=by
  rw[h2,List.getElem?_drop,←h2,hk]
 rw[this,zY (by omega)];rfl
theorem own_ne{o:Int}(h:qcl o=true):o≠0:=by unfold qcl at h;simp at h;omega
theorem Core.base_mem(c:Core vs mem H S)(hi:mem[i]?=some s)(ho:qan s=true):∃x∈vs,s.base=x.1:=by
 obtain⟨hsm,hvs,hpre,hl⟩:=c.here hi;obtain⟨k1,k2⟩:=qbb (qbw hvs hpre);exact⟨_,k1,by rw[qdI ho];exact k2.symm⟩
theorem Core.take(c:Core vs mem H S)(hi:mem[i]?=some s)(ho:qan s=true)(hl:qas s=true):Step1 vs mem H S i (qbo s) S:=by
 obtain⟨hsm,hvs,hpre,hlen⟩:=c.here hi;obtain⟨p1,p2⟩:=c.pend s hsm;have hw:=qcp s.log s.stable.toNat s.self;refine c.extend hi ho (ex:=(List.range (qbV s)).map fun i:Nat=>⟨s.base,s.self,qar s.log s.self+1+i,qcg s (qar s.log s.self+1+i)⟩) ((Good.begin hvs []).take ho).vs (.inl hl) (fun e he=>?_);obtain⟨j,hj,rfl⟩:=List.mem_map.1 he;have hj':=List.mem_range.1 hj;unfold qbV at hj';refine .inr ⟨own_ne hvs.self,qkm (q:=(qar s.log s.self:Int)+1+j) p1 p2 (by omega) (by omega),c.base_mem hi ho⟩
theorem Core.raise(c:Core vs mem H S)(hi:mem[i]?=some s){n:Int}(hn:s.stable<n)(hl:n≤s.log.length)(hst:Stab vs H s.base (s.log.take n.toNat)) :
  Step1 vs mem H S i {s with pend:=s.pend.drop (qar (qcQ s.log s.stable n) s.self),stable:=n} S:=by
 obtain⟨hsm,hvs,hpre,hlen⟩:=c.here hi;have h0:=hvs.st0;obtain⟨p1,p2⟩:=c.pend s hsm;refine c.tweak hi (hvs.raise hn hl) rfl rfl rfl rfl hst (c.marks s hsm) (c.fls s hsm) ⟨p1,?_⟩;show s.pend.drop _=_;have e1:s.log.take n.toNat=s.log.take s.stable.toNat++qcQ s.log s.stable n:=by
  unfold qcQ;rw[show s.log.take s.stable.toNat=(s.log.take n.toNat).take s.stable.toNat by rw[List.take_take,Nat.min_eq_left (by omega)],List.take_append_drop]
 show s.pend.drop (qar (qcQ s.log s.stable n) s.self)=(S s.self).drop (qar (s.log.take n.toNat) s.self);rw[e1,qbI,p2,List.drop_drop]
theorem Core.raiseF(c:Core vs mem H S)(hi:mem[i]?=some s){n:Int}(hl:n≤s.log.length)(hst:s.stable<n→Stab vs H s.base (s.log.take n.toNat))(pk:List (Int×List UInt8))(dl:List Ent) :
  Step1 vs mem H S i (raiseF ⟨s,pk,dl⟩ n).s S:=by
 unfold Proofs.YtponbabbabnaeaaGreat.raiseF;split
 ·exact c.refl hi
 ·next h=>exact c.raise hi (by simp only at h;omega) hl (hst (by simp only at h;omega))
theorem qrC{l:List Int}{k:Nat}{y:Int}(hk:k≤l.length)(hy:(qeD l)[l.length - k]?=some y):k≤l.countP (fun x=>decide (y≤x)):=by
 rw[(qcI l).symm.countP_eq];have h1:((qeD l).drop (l.length - k)).countP (fun x=>decide (y≤x))=k:=by
  rw[List.countP_eq_length.2,zD,qeZ]
  ·omega
  ·intro x hx;obtain⟨j,hj,rfl⟩:=List.mem_iff_getElem.1 hx;rw[List.getElem_drop];obtain⟨hy1,rfl⟩:=zZ hy;rw[zD] at hj;simp only[zE];rcases Nat.eq_zero_or_pos j with h0|h0
   ·subst h0;exact Int.le_refl _
   ·exact List.pairwise_iff_getElem.1 (qg5 l) _ _ hy1 (by omega) (by omega)
 have h2:=List.Sublist.countP_le (p:=fun x=>decide (y≤x)) (List.drop_sublist (l.length - k) (qeD l));omega
theorem Core.announce(c:Core vs mem H S)(hi:mem[i]?=some s)(ho:qan s=true)(hl:qas s=true)(pk:List (Int×List UInt8))(dl:List Ent):Step1 vs mem H S i (qam ⟨s,pk,dl⟩).s S:=by
 obtain⟨hsm,hvs,hpre,hlen⟩:=c.here hi;have c1:=(c.cur s hsm).1;unfold qam;simp only;split
 ·exact c.refl hi
 ·next hneed=>
  obtain⟨m1,m2,m3⟩:=qeK (qf0 (qb2.2 hvs));obtain⟨k,hk⟩:∃k:Nat,qfB (qad s.views).2.length=k:=⟨(qfB (qad s.views).2.length).toNat,by omega⟩;rw[hk] at hneed⊢;have hkl:k≤(qb8 s).length:=by omega
  rw[show (((qb8 s).length:Int) - k).toNat=(qb8 s).length - k by omega];cases hx:(qeD (qb8 s))[(qb8 s).length - k]? with
  | none=>exact c.raiseF hi (by simp) (fun h=>by have:=hvs.st0;simp only[Option.getD_none] at h;omega) pk dl
  | some y=>
   have hy1:y∈qb8 s:=(qcI _).mem_iff.1 (zX hx);have hyl:y≤s.log.length:=by
    unfold qb8 at hy1;rcases zC.1 hy1 with rfl|hy1
    ·exact Int.le_refl _
    ·obtain⟨m,hm,rfl⟩:=List.mem_map.1 hy1;exact(hvs.mks m hm).2.2.2
   simp only[Option.getD_some];refine c.raiseF hi hyl (fun hlt=>?_) pk dl;have h0:=hvs.st0;have hcom:Com vs H s.base y.toNat:=by
    refine⟨qad s.views,by rw[qdI ho];exact qbw hvs hpre,s.self::(s.marks.filter fun m=>decide (y≤m.2)).map Prod.fst,?_,?_,?_⟩
    ·refine List.nodup_cons.2 ⟨fun hm=>?_,?_⟩
     ·obtain⟨m,hm,he⟩:=List.mem_map.1 hm;exact(hvs.mks m (List.mem_filter.1 hm).1).1 he
     ·have h1:((s.marks.filter fun m=>decide (y≤m.2)).map Prod.fst).Pairwise (·<·):=List.Pairwise.sublist ((List.filter_sublist).map _) hvs.mka.1;exact List.Pairwise.imp (fun h=>by omega) h1
    ·intro a ha;rcases zC.1 ha with rfl|ha
     ·exact⟨qbq.1 (hvs.lead_has hl),by show y.toNat≤(H s.self s.base).length;rw[c1];omega⟩
     ·obtain⟨m,hm,rfl⟩:=List.mem_map.1 ha;obtain⟨hm1,hm2⟩:=List.mem_filter.1 hm;simp only[zE] at hm2;refine⟨qbq.1 (hvs.mks m hm1).2.1,?_⟩;have:=c.marks s hsm m hm1;show y.toNat≤(H m.1 s.base).length;omega
    ·rw[hk];have h1:=qrC hkl hx;unfold qb8 at h1;rw[List.countP_cons,List.countP_map,List.countP_eq_length_filter] at h1;simp only[zK,zP];have e1:((fun x=>decide (y≤x))∘fun m:Int×Int=>m.2)=fun m=>decide (y≤m.2):=rfl;rw[e1] at h1;split at h1<;>omega
   refine .inr ⟨s.base,Int.le_refl _,?_,?_⟩
   ·rw[zT,Nat.min_eq_left (by omega)];exact hcom
   ·exact(List.take_prefix _ _).trans (by have:=c.led s.self s.base;rw[c1] at this;exact this)
theorem Core.enter(c:Core vs mem H S)(hi:mem[i]?=some s)(ho:qan s=false){l:List Ent}(hv:VS {s with base:=tgt s,log:=l,fls:=[]})(hpre0:l.take s.stable.toNat=s.log.take s.stable.toNat)
  {ch:List Ent} (hb:qom vs mem H (tgt s) ch) (h1:ch++[qab (qad s.views).1 (qad s.views).2]<+:l) (h2:∀p,H p (tgt s)≠[]→ch++[qab (qad s.views).1 (qad s.views).2]<+:H p (tgt s))
  (hled:s.self=qa1 (qad s.views)∨l<+:H (qa1 (qad s.views)) (tgt s)) (hg:∀e∈l,GoodE vs S e):Step1 vs mem H S i {s with base:=tgt s,log:=l,fls:=[]} S:=by
 obtain⟨hsm,hvs,hpre,hlen⟩:=c.here hi;have hlt:=qcB hvs ho;have hm:s.marks=[]:=by
  rcases hvs.mk0 with hm|⟨hm,_⟩
  ·exact hm
  ·rw[ho] at hm;cases hm
 obtain⟨k1,k2⟩:=c.step hi hv rfl rfl (fun _ _=>rfl) List.prefix_rfl (.inr ⟨hlt,rfl,ch,hb,h1,h2⟩) (by rw[show qjp vs ({s with base:=tgt s,log:=l,fls:=[]}:St).base=qa1 (qad s.views) from qeC (qbw hvs hpre)];exact hled)
  (by show Stab vs H (tgt s) (l.take s.stable.toNat);rw[hpre0];exact(c.stab s hsm).base (by omega)) (fun m hm'=>by have:m∈s.marks:=hm';rw[hm] at this;cases this) (fun f hf=>by cases hf)
  (by show _∧s.pend=(S s.self).drop (qar (l.take s.stable.toNat) s.self);rw[hpre0];exact c.pend s hsm) hg
 exact⟨_,k1,k2⟩
end
theorem qn8 {P : Prop} (h : P := by
 exact⟨(qgc _).1,(qgc _).2,zO _,fun e=>by simp only at e;omega⟩) : P := h
theorem qtx(r:Rd):(qdS r).1≤1099511627776:=by
 unfold qdS;split
 ·simp
 ·simp only;omega
theorem qiB:∀(n:Nat) (r:Rd) (out:List Ent),(∀e∈out,e.p.length≤6000)→(qcs n r out).1.length≤out.length+n∧∀e∈(qcs n r out).1,e.p.length≤6000
 | 0,_,out,h=>⟨zR _,h⟩
 | n+1,r,out,h=>by
  unfold qcs;split
  ·exact⟨Nat.le_add_right _ _,h⟩
  ·have:=qiB n (qqd r).2 (out++[(qqd r).1]) (fun e he=>by
    rcases List.mem_append.1 he with he|he
    ·exact h e he
    ·simp only[zC,zN,or_false] at he;subst he;exact qje _)
   refine⟨zL this.1 (by simp;omega),this.2⟩
theorem qnG:∀(n:Nat) (r:Rd) (out:List Ent),r.2=true→(qcs n r out).1=out
 | 0,_,_,_=>rfl
 | n+1,r,out,h=>by unfold qcs;rw[if_pos h]
theorem qgc(r:Rd):(qdo r).1.length≤2000∧∀e∈(qdo r).1,e.p.length≤6000:=by
 unfold qdo;by_cases h:2000<(qdS r).1
 ·rw[if_pos h,qnG _ _ _ rfl];exact⟨zO _,fun e he=>by cases he⟩
 ·rw[if_neg h];have:=qiB (qdS r).1.toNat (qdS r).2 [] (fun e he=>by cases he);have h0:=qjB r;exact⟨zL this.1 (by simp;omega),this.2⟩
theorem qqK{kind:Int}{r r':Rd}{m:Msg}(h:qeP kind r=some (m,r')):m.ents.length≤2000∧(∀e∈m.ents,e.p.length≤6000)∧m.pay.length≤6000∧(m.kind=12→0≤m.first∧m.first≤1099511627776):=by
 unfold qeP at h;simp only at h
 repeat' split at h
 all_goals first|cases h|(simp only[zJ,Prod.mk.injEq] at h;obtain⟨rfl,_⟩:=h)
 ·exact⟨zO _,(fun e he=>by cases he),qje _,fun e=>by simp only at e;omega⟩
 ·exact⟨(qgc _).1,(qgc _).2,zO _,fun _=>⟨qjB _,qtx _⟩⟩
 ·exact⟨zO _,(fun e he=>by cases he),zO _,fun e=>by simp only at e;omega⟩
 ·exact qn8
 ·exact qn8
theorem qrB{frame:List UInt8}{m:Msg}(h:qa7 frame=some m):m.ents.length≤2000∧(∀e∈m.ents,e.p.length≤6000)∧m.pay.length≤6000∧(m.kind=12→0≤m.first∧m.first≤1099511627776):=by
 unfold qa7 at h;simp only at h;split at h
 ·cases h
 ·split at h
  ·cases h
  ·next m' r hb=>
   split at h
   ·simp only[zJ] at h;subst h;exact qqK hb
   ·cases h
end Go.Proofs.YtponbabbabnaeaaGreat
