/- Part 6: contracts of functions. Conditions: as each theorem says. -/
import Derived.Test.YtponbabbabnaeaaGreatQh05
set_option maxRecDepth 100000
set_option maxHeartbeats 40000000
set_option linter.unusedVariables false
namespace Go.Proofs.YtponbabbabnaeaaGreat
open Tryz
open Go.RowKit
theorem OI{P:Prop}(h:P:=by
 refine⟨?_,?_,?_,?_,?_,?_,?_,?_,?_,?_⟩
 .simpa using h.cell_new 0
 .simpa using h.cell_new 1
 .simpa using h.cell_new 2
 .simpa using h.cell_new 3
 .simpa using h.cell_new 4
 .simpa using h.cell_new 5
 .simpa using h.cell_new 6
 .simpa using h.cell_new 7
 .simpa using h.cell_new 8
 .have:=h.size;simp at this;omega):P:=h
theorem JD{w w':World}{b:BM}(h:V (w.alloc (.cells b.cells 28)) w') :
  w'.cell? (Z w.heap.size 0)=some (I b.self)/\w'.cell? (Z w.heap.size 1)=some (.slice b.Av b.vs.length b.cv)/\w'.cell? (Z w.heap.size 2)=some (I b.base)/\w'.cell? (Z w.heap.size 3)=some (.slice b.Al b.log.length b.cl)/\w'.cell? (Z w.heap.size 4)=some (I b.stable)/\w'.cell? (Z w.heap.size 5)=some (I b.sent)/\w'.cell? (Z w.heap.size 6)=some (.slice b.Ap b.pend.length b.cp)/\w'.cell? (Z w.heap.size 7)=some (.slice b.Am b.marks.length b.cm)/\w'.cell? (Z w.heap.size 8)=some (.slice b.Af b.fls.length b.cf)/\w.heap.size<w'.heap.size:=by
 exact OI
theorem open_b(b:BM)(w:World)(h:b.Reads w)(q:0<b.vs.length)(j:b.Fits)(r:Bool)(u:AD b.st=r) :
  Calls prog 40 #[.agg b.cells] w λe w'=>e=.returned (.bool r)/\V w w':=by
 subst u;exact FQ b w h q j
theorem Jw(b:BM)(w:World)(h:b.Reads w)(q:0<b.vs.length)(j:b.Fits)(r:Bool)(u:AE b.st=r) :
  Calls prog 41 #[.agg b.cells] w λe w'=>e=.returned (.bool r)/\V w w':=by
 subst u;exact Gh b w h q j
abbrev BM.cells2(b:BM)(Am Af:Option Addr):Array Value:=#[.int .i64 b.self,.slice b.Av b.vs.length b.cv,.int .i64 b.base,.slice b.Al b.log.length b.cl,.int .i64 b.stable,.int .i64 b.sent,.slice b.Ap b.pend.length b.cp,.slice Am b.marks.length b.cm,.slice Af b.fls.length b.cf]
theorem Iz{w w':World}{b:BM}{q j:Option Addr}(h:V (w.alloc (.cells (b.cells2 q j) 28)) w') :
  w'.cell? (Z w.heap.size 0)=some (I b.self)/\w'.cell? (Z w.heap.size 1)=some (.slice b.Av b.vs.length b.cv)/\w'.cell? (Z w.heap.size 2)=some (I b.base)/\w'.cell? (Z w.heap.size 3)=some (.slice b.Al b.log.length b.cl)/\w'.cell? (Z w.heap.size 4)=some (I b.stable)/\w'.cell? (Z w.heap.size 5)=some (I b.sent)/\w'.cell? (Z w.heap.size 6)=some (.slice b.Ap b.pend.length b.cp)/\w'.cell? (Z w.heap.size 7)=some (.slice q b.marks.length b.cm)/\w'.cell? (Z w.heap.size 8)=some (.slice j b.fls.length b.cf)/\w.heap.size<w'.heap.size:=by
 exact OI
theorem YX(b:BM)(q j:Option Addr)(w:World)(u:b.Am=q)(y:b.Af=j)(h:b.Reads w)(D:0<b.vs.length)(z:b.Fits)(r:Bool)(F:AD b.st=r) :
  Calls prog 40 #[.agg #[I b.self,.slice b.Av b.vs.length b.cv,I b.base,.slice b.Al b.log.length b.cl,I b.stable,I b.sent,.slice b.Ap b.pend.length b.cp,.slice q b.marks.length b.cm,.slice j b.fls.length b.cf]] w λe w'=>e=.returned (.bool r)/\V w w':=by
 subst u y;exact open_b b w h D z r F
theorem YI(b:BM)(q j:Option Addr)(w:World)(u:b.Am=q)(y:b.Af=j)(h:b.Reads w)(D:0<b.vs.length)(z:b.Fits)(r:Bool)(F:AE b.st=r) :
  Calls prog 41 #[.agg #[I b.self,.slice b.Av b.vs.length b.cv,I b.base,.slice b.Al b.log.length b.cl,I b.stable,I b.sent,.slice b.Ap b.pend.length b.cp,.slice q b.marks.length b.cm,.slice j b.fls.length b.cf]] w λe w'=>e=.returned (.bool r)/\V w w':=by
 subst u y;exact Jw b w h D z r F
def LV(s:St):Bool:=(decide (0<s.marks.length)&&(!AD s||!AE s))||(decide (0<s.fls.length)&&(AD s||!AE s))
theorem Xz(s:St):Dp s=(!LV s&&((List.range s.marks.length).all (DE s)&&(List.range s.fls.length).all (Ea s))):=by
 unfold Dp LV;have h:decide (s.marks.length=0)=!decide (0<s.marks.length):=by rw[Bool.eq_iff_iff];simp
 have j:decide (s.fls.length=0)=!decide (0<s.fls.length):=by rw[Bool.eq_iff_iff];simp
 rw[h,j];cases decide (0<s.marks.length)<;>cases decide (0<s.fls.length)<;>cases AD s<;>cases AE s<;>simp
theorem Fs{w:World}{A:Option Addr}{l:List (Int×Int)}{i:Nat}(h:Row w A (AA.cells l))(K:i<l.length) :
  ∃b q m,A=some (Z b q)/\b<w.heap.size/\w.cell? (Z b (q+i*2))=some (I (Prod.fst m))/\w.cell? (Z b (q+i*2+1))=some (I m.2)/\O (l[i]?=some m):=by
 obtain⟨b,q,m,z,D,F,_,G⟩:=Elem.Box.at_ (E:=AA) (w:=w) (A:=A) (l:=l) ⟨h,λa _=>⟨trivial,λr Q=>by simp[AA] at Q⟩⟩ K;have y:∀j u,(AA.f m)[j]?=some u->w.cell? (Z b (q+i*2+j))=some u:=F.o;exact⟨b,q,m,z,D,by simpa using y 0 _ rfl,y 1 _ rfl,G⟩
theorem Fd{w:World}{A:Option Addr}{l:List FlM}{i:Nat}(h:flE.Box w A l)(Q:i<l.length) :
  ∃b q f,A=some (Z b q)/\b<w.heap.size/\w.cell? (Z b (q+i*3))=some (I (FlM.m f))/\w.cell? (Z b (q+i*3+1))=some (I f.b)/\w.cell? (Z b (q+i*3+2))=some (.slice f.A f.log.length f.c)/\O (Row w f.A (Aa.cells f.log))/\O (l[i]?=some f):=by
 obtain⟨b,q,f,z,D,F,G,K⟩:=h.at_ Q;have y:∀j u,(flE.f f)[j]?=some u->w.cell? (Z b (q+i*3+j))=some u:=F.o;exact⟨b,q,f,z,D,by simpa using y 0 _ rfl,y 1 _ rfl,y 2 _ rfl,J (G.o.2 (f.A,Aa.cells f.log) (by simp[flE])),K⟩
theorem DJ(n:Int)(A:Option Addr)(k c:Nat)(w:World):(Instr.field 46 (.agg #[I n,.slice A k c]) 1).run prog w=.ok (.slice A k c) w:=by
 simp[Instr.field,asAgg,go_sem]
theorem W8{l:List (Int×Int)}{k:Nat}{m:Int×Int}(h:l[k]?=some m):F4 l (k+1)=m.1:=by unfold F4;rw[if_neg U,Nat.add_sub_cancel,h];rfl
theorem Ui{l:List Fls}{k:Nat}{m:Fls}(h:l[k]?=some m):F2 l (k+1)=m.1:=by unfold F2;rw[if_neg U,Nat.add_sub_cancel,h];rfl
theorem QY{n k:Nat}{p:Nat->Bool}(j:k<n)(h:p k=false):(List.range n).all p=false:=by
 rw[List.all_eq_false];exact⟨k,List.mem_range.2 j,by simp[h]⟩
theorem PO{n:Nat}{p:Nat->Bool}(h:∀j,j<n->p j=true):(List.range n).all p=true:=by
 rw[List.all_eq_true];exact λj q=>h j (List.mem_range.1 q)
theorem Ov{k:Nat}{p:Nat->Bool}(h:∀j,j<k->p j=true)(q:p k=true):∀j,j<k+1->p j=true:=by
 intro j u;rcases Nat.lt_or_ge j k with h1|h1
 .exact h j h1
 .rw[show j=k by omega];exact q
theorem II{b:BM}{k:Nat}(j:k<b.marks.length)(q:Dp b.st=(!false&&((List.range b.st.marks.length).all (DE b.st)&&(List.range b.st.fls.length).all (Ea b.st))))(h:DE b.st k=false):false=Dp b.st:=by
 rw[q,QY (n:=b.st.marks.length) (k:=k) j h];rfl
theorem Jx(b:BM):b.st.fls.length=b.fls.length:=by show (b.fls.map FlM.v).length=_;rw[zP]
theorem LL{b:BM}{k:Nat}(j:k<b.fls.length)(q:Dp b.st=(!false&&((List.range b.st.marks.length).all (DE b.st)&&(List.range b.st.fls.length).all (Ea b.st))))(u:(List.range b.st.marks.length).all (DE b.st)=true)(h:Ea b.st k=false):false=Dp b.st:=by
 rw[q,u,QY (n:=b.st.fls.length) (k:=k) (by rw[Jx];exact j) h];rfl
theorem ZF{b:BM}(u:Dp b.st=(!false&&((List.range b.st.marks.length).all (DE b.st)&&(List.range b.st.fls.length).all (Ea b.st))))(y:(List.range b.st.marks.length).all (DE b.st)=true)(h:∀j,j<b.fls.length->Ea b.st j=true):true=Dp b.st:=by
 rw[u,y,PO (n:=b.st.fls.length) (λj q=>h j (by rw[Jx] at q;exact q))];rfl
theorem ZX{s:St}{k:Nat}{m:Int×Int}(h:s.marks[k]?=some m):DE s k=Fw s k m:=by unfold DE;rw[h]
theorem ZV{s:St}{k:Nat}{f:Fls}(h:s.fls[k]?=some f):Ea s k=GB s k f:=by unfold Ea;rw[h]
theorem Sp(b:BM)(Am Af:Option Addr)(w:World)(ay:b.Am=Am)(ax:b.Af=Af)(h:b.Reads w)(hp:0<b.vs.length)(hf:b.Fits) :
  Calls prog 92 #[.agg #[I b.self,.slice b.Av b.vs.length b.cv,I b.base,.slice b.Al b.log.length b.cl,I b.stable,I b.sent,.slice b.Ap b.pend.length b.cp,.slice Am b.marks.length b.cm,.slice Af b.fls.length b.cf]] w λe w'=>e=.returned (.bool (Dp b.st))/\V w w':=by
 have H0:=J (V.new w (.cells (b.cells2 Am Af) 28));have HR:=J (h.ext H0.o);have hn:b.vs.length<=1000000000:=by have:=hf.vs;omega
 have bw:b.marks.length<=1000000000:=by have:=hf.marks;omega
 have br:b.fls.length<=1000000000:=by have:=hf.fls;omega
 have bv:b.log.length<=1000000000:=by have:=hf.log;omega
 have ac:=Eu hf.vx;have ae:=J hf;have aj:=J ay;have ai:=J ax;clear h hf ay ax;have HE:=J (Xz b.st);obtain⟨ak,ab⟩:∃x,LV b.st=x:=⟨_,rfl⟩;rw[ab] at HE;have Q:O (((decide (0<b.marks.length)&&(!AD b.st||!AE b.st))||(decide (0<b.fls.length)&&(AD b.st||!AE b.st)))=ak):=J (by
  rw[<-ab];show _=((decide (0<b.marks.length)&&_)||(decide (0<(b.fls.map FlM.v).length)&&_));rw[zP])
 clear ab;obtain⟨ob,ao⟩:∃x,AD b.st=x:=⟨_,rfl⟩;obtain⟨lb,an⟩:∃x,AE b.st=x:=⟨_,rfl⟩;have bg:=J ao;have bd:=J an;rw[ao,an] at Q;clear ao an;unfold BM.cells2 at H0 HR;go_enter func92,ntmps92;go_upto_region 1 with fail;go_cut [36] (λbn wx=>bn=.bool ak/\V (w.alloc (.cells (b.cells2 Am Af) 28)) wx)
 case first=>
  obtain⟨bm,a9⟩:∃x,decide (0<b.marks.length)=x:=⟨_,rfl⟩;obtain⟨R,az⟩:∃x,decide (0<b.fls.length)=x:=⟨_,rfl⟩;have bp:decide ((0:Int)<(b.marks.length:Int))=bm:=by rw[<-a9,Bool.eq_iff_iff];simp
  have bo:decide ((0:Int)<(b.fls.length:Int))=R:=by rw[<-az,Bool.eq_iff_iff];simp
  rw[a9,az] at Q;have X:=J (V.refl (w.alloc (.cells (b.cells2 Am Af) 28)));cases bm<;>cases R<;>cases ob<;>cases lb<;>
   (go_wp2_with (first
    | (go_at_call 40;refine(YX b Am Af _ aj.o ai.o (HR.o.ext X.o) hp ae.o _ bg.o).mono ?_;rintro e wn ⟨rfl,ad⟩;have X:=J (V.trans X.o ad);clear ad;obtain⟨q0,q1,q2,q3,q4,q5,q6,q7,q8,zz⟩:=Iz X.o)
    | (go_at_call 41;refine(YI b Am Af _ aj.o ai.o (HR.o.ext X.o) hp ae.o _ bd.o).mono ?_;rintro e wn ⟨rfl,ad⟩;have X:=J (V.trans X.o ad);clear ad;obtain⟨q0,q1,q2,q3,q4,q5,q6,q7,q8,zz⟩:=Iz X.o))
    go_meet
    case rel=>exact⟨by rw[<-Q.o];rfl,X.o⟩)
 case rest=>
  obtain⟨rfl,aw⟩:=hcut;have X1:=J aw;clear aw;obtain⟨q0,q1,q2,q3,q4,q5,q6,q7,q8,z1⟩:=Iz X1.o;clear Q;cases ak;rotate_left
  .go_wp2;go_ret;exact⟨AC (by rw[HE.o];rfl),H0.o.trans X1.o⟩
  obtain⟨⟨ln,y⟩,ag⟩:∃v,Ar (vws b.vs)=v:=⟨_,rfl⟩;have HL:=J ag;have be:O (Ar b.st.views=(ln,y)):=J ag;rw[ag] at ac;have ah:y.length<=9223372036854775807:=by simp only at ac;omega
  clear ag ac;have bq:=DJ;go_wp2;go_loopw [3,40] (λR i wr=>∃k:Nat,k<=b.marks.length/\i=I k/\R=I (F4 b.marks k)/\O (∀j,j<k->DE b.st j=true)/\V (w.alloc (.cells (b.cells2 Am Af) 28)) wr) (λ_ i _=>b.marks.length - (intOf i).toNat)
  case atStart=>exact⟨0,zO _,rfl,rfl,J (λj hj=>absurd hj (Nat.not_lt_zero _)),X1.o⟩
  case round=>
   obtain⟨k,hk,rfl,rfl,HT,ar⟩:=hrel;have HS:=J ar;clear ar;obtain⟨p0,p1,p2,p3,p4,p5,p6,p7,p8,zr⟩:=Iz HS.o;by_cases W:k<b.marks.length
   .obtain⟨bb,bl,m,rfl,hb,c0,c1,HM⟩:=Fs (show Row wr Am (AA.cells b.marks) by rw[<-aj.o];exact(HR.o.ext HS.o).marks) W;have HN:=J (W8 HM.o);have D:O (DE b.st k=(decide (F4 b.marks k<m.1)&&(decide (m.1≠b.self)&&(AG y m.1&&(decide (0<=m.2)&&decide (m.2<=b.log.length)))))):=J (by
     rw[ZX (s:=b.st) HM.o,Fw,be.o];rfl)
    have F:=J (HS.o.alloc (.cells #[I m.1,I m.2] 123));have RV:=J ((HR.o.ext F.o.drew).vs);have s0:(wr.alloc (.cells #[I m.1,I m.2] 123)).cell? (Y w 0)=some (I b.self):=by simpa using F.o.cell_new 0
    have s1:(wr.alloc (.cells #[I m.1,I m.2] 123)).cell? (Y w 1)=some (.slice b.Av b.vs.length b.cv):=by simpa using F.o.cell_new 1
    have s2:(wr.alloc (.cells #[I m.1,I m.2] 123)).cell? (Y w 3)=some (.slice b.Al b.log.length b.cl):=by simpa using F.o.cell_new 3
    have s3:(wr.alloc (.cells #[I m.1,I m.2] 123)).cell? (Y wr 0)=some (I m.1):=zj;have s4:(wr.alloc (.cells #[I m.1,I m.2] 123)).cell? (Y wr 1)=some (I m.2):=zj;generalize F4 b.marks k=R at *;by_cases h1:R<m.1;rotate_left
    .have al:decide (m.1<=R)=true:=decide_eq_true U;have H1:=J h1;clear h1;go_wp2;go_quiet (fail);go_wp2;go_ret;exact⟨AC (II W HE.o (by rw[D.o,decide_eq_false (Int.not_lt.2 H1.o)];rfl)),H0.o.trans (F.o.drewN _)⟩
    have H1:=J h1;have al:decide (m.1<=R)=false:=decide_eq_false U;clear h1;by_cases h2:m.1=b.self
    .have bh:(m.1 == b.self)=true:=by simp[h2]
     have H2:=J h2;clear h2;go_wp2;go_quiet (fail);go_wp2;go_ret;exact⟨AC (II W HE.o (by rw[D.o,decide_eq_false (p:=m.1≠b.self) (λhh=>hh H2.o)];simp)),H0.o.trans (F.o.drewN _)⟩
    have bh:(m.1 == b.self)=false:=beq_eq_false_iff_ne.2 h2;have H2:=J h2;clear h2;cases h3:AG y m.1
    .have HH:=J h3;clear h3;go_wp2;refine wp_region_held_drew (S:=λw'=>w'.cell? (Y w 0)=some (I b.self)/\w'.cell? (Y w 1)=some (.slice b.Av b.vs.length b.cv)/\w'.cell? (Y w 3)=some (.slice b.Al b.log.length b.cl)/\w'.cell? (Y wr 0)=some (I m.1)/\w'.cell? (Y wr 1)=some (I m.2)) zh ⟨s0,s1,s2,s3,s4⟩ (λyH=>?_);refine AH 0 44 ?_;refine AH 1 45 ?_;refine AH 2 46 ?_;refine AH 3 47 ?_;refine AH 4 48 ?_;refine AH 5 49 ?_;refine AH 6 50 ?_;refine AH 7 51 ?_;refine AH 8 52 ?_;refine AH 9 53 ?_;refine AH 10 54 ?_;refine AH 11 55 ?_;refine AH 12 56 ?_;refine AH 13 57 ?_;refine AH 16 60 ?_;refine AH 17 61 ?_;refine wpAnyH_ready (rs:=[14]) zh zj ?_;refine AllReadyH.cons (o:=⟨some 58,_,_,_,_,_⟩) rfl (λK hK=>?_) AllReadyH.nil;go_simp;go_at_call 49;refine(Ep b.Av b.cv b.vs _ RV.o hp hn ln y HL.o).mono ?_;rintro e z ⟨A4,c4,rfl,_,_,G,q⟩;have u:=J ((F.o.drew).trans q);have r0:z.cell? (Y w 0)=some (I b.self):=(by first|(simpa using u.o.cell_new 0)|(rw[q.cell zj];simp));have r1:z.cell? (Y w 1)=some (.slice b.Av b.vs.length b.cv):=(by first|(simpa using u.o.cell_new 1)|(rw[q.cell zj];simp));have r2:z.cell? (Y w 3)=some (.slice b.Al b.log.length b.cl):=(by first|(simpa using u.o.cell_new 3)|(rw[q.cell zj];simp));have r3:z.cell? (Y wr 0)=some (I m.1):=(by first|(simpa using u.o.cell_new 0)|(rw[q.cell zj];simp));have r4:z.cell? (Y wr 1)=some (I m.2):=(by first|(simpa using u.o.cell_new 1)|(rw[q.cell zj];simp));clear yH q;refine hK.out _ _ ⟨r0,r1,r2,r3,r4⟩ (λyH=>?_)
     try simp only[Act.put,l1,l2,l3]
     refine AH 15 59 ?_;refine wpAnyH_ready (rs:=[18]) zh zj ?_;refine AllReadyH.cons (o:=⟨some 62,_,_,_,_,_⟩) rfl (λK hK=>?_) AllReadyH.nil;go_simp;go_at_call 85;refine(D4 A4 c4 y m.1 _ G.o ah _ HH.o).mono ?_;rintro e w5 ⟨rfl,aq⟩;subst aq;clear yH;refine hK.out _ _ ⟨r0,r1,r2,r3,r4⟩ (λyH=>?_)
     try simp only[Act.put,l1,l2,l3]
     refine AH 19 63 ?_;refine AH 20 64 ?_;refine AH 21 65 ?_;refine wpAnyH_take (i:=22) (oi:=⟨some 66,_,_,_,_,_⟩) (v:=undef) rfl zh zh zh (λ_ _ _ h=>h) (Or.inr ⟨zi,rfl⟩) zp ?_
     try simp only[Act.put,l1,l2,l3]
     refine wpAnyH_take (i:=23) (oi:=⟨some 67,_,_,_,_,_⟩) (v:=undef) rfl zh zh zh (λ_ _ _ h=>h) (Or.inr ⟨zi,rfl⟩) zp ?_
     try simp only[Act.put,l1,l2,l3]
     refine wpAnyH_take (i:=24) (oi:=⟨some 68,_,_,_,_,_⟩) (v:=undef) rfl zh zh zh (λ_ _ _ h=>h) (Or.inr ⟨zi,rfl⟩) zp ?_
     try simp only[Act.put,l1,l2,l3]
     refine AH 25 69 ?_;refine AH 26 70 ?_;refine wpAnyH_take (i:=27) (oi:=⟨some 71,_,_,_,_,_⟩) (v:=undef) rfl zh zh zh (λ_ _ _ h=>h) (Or.inr ⟨zi,rfl⟩) zp ?_
     try simp only[Act.put,l1,l2,l3]
     refine wpAnyH_take (i:=28) (oi:=⟨some 72,_,_,_,_,_⟩) (v:=undef) rfl zh zh zh (λ_ _ _ h=>h) (Or.inr ⟨zi,rfl⟩) zp ?_
     try simp only[Act.put,l1,l2,l3]
     refine wpAnyH_take (i:=29) (oi:=⟨some 73,_,_,_,_,_⟩) (v:=undef) rfl zh zh zh (λ_ _ _ h=>h) (Or.inr ⟨zi,rfl⟩) zp ?_
     try simp only[Act.put,l1,l2,l3]
     refine wpAnyH_take (i:=30) (oi:=⟨some 74,_,_,_,_,_⟩) (v:=undef) rfl zh zh zh (λ_ _ _ h=>h) (Or.inr ⟨zi,rfl⟩) zp ?_
     try simp only[Act.put,l1,l2,l3]
     refine wpAnyH_take (i:=31) (oi:=⟨some 75,_,_,_,_,_⟩) (v:=undef) rfl zh zh zh (λ_ _ _ h=>h) (Or.inr ⟨zi,rfl⟩) zp ?_
     try simp only[Act.put,l1,l2,l3]
     refine wpAnyH_take (i:=32) (oi:=⟨some 76,_,_,_,_,_⟩) (v:=undef) rfl zh zh zh (λ_ _ _ h=>h) (Or.inr ⟨zi,rfl⟩) zp ?_
     try simp only[Act.put,l1,l2,l3]
     refine AH 33 77 ?_;refine wpAnyH_done zh ?_ _;go_wp2;go_ret;exact⟨AC (II W HE.o (by rw[D.o,HH.o];simp)),H0.o.trans u.o⟩
    have HH:=J h3;clear h3;by_cases h4:m.2<0
    .have bi:decide (m.2<0)=true:=decide_eq_true h4;have H4:=J h4;clear h4;go_wp2;refine wp_region_held_drew (S:=λw'=>w'.cell? (Y w 0)=some (I b.self)/\w'.cell? (Y w 1)=some (.slice b.Av b.vs.length b.cv)/\w'.cell? (Y w 3)=some (.slice b.Al b.log.length b.cl)/\w'.cell? (Y wr 0)=some (I m.1)/\w'.cell? (Y wr 1)=some (I m.2)) zh ⟨s0,s1,s2,s3,s4⟩ (λyH=>?_);refine AH 0 44 ?_;refine AH 1 45 ?_;refine AH 2 46 ?_;refine AH 3 47 ?_;refine AH 4 48 ?_;refine AH 5 49 ?_;refine AH 6 50 ?_;refine AH 7 51 ?_;refine AH 8 52 ?_;refine AH 9 53 ?_;refine AH 10 54 ?_;refine AH 11 55 ?_;refine AH 12 56 ?_;refine AH 13 57 ?_;refine AH 16 60 ?_;refine AH 17 61 ?_;refine wpAnyH_ready (rs:=[14]) zh zj ?_;refine AllReadyH.cons (o:=⟨some 58,_,_,_,_,_⟩) rfl (λK hK=>?_) AllReadyH.nil;go_simp;go_at_call 49;refine(Ep b.Av b.cv b.vs _ RV.o hp hn ln y HL.o).mono ?_;rintro e z ⟨A4,c4,rfl,_,_,G,q⟩;have u:=J ((F.o.drew).trans q);have r0:z.cell? (Y w 0)=some (I b.self):=(by first|(simpa using u.o.cell_new 0)|(rw[q.cell zj];simp));have r1:z.cell? (Y w 1)=some (.slice b.Av b.vs.length b.cv):=(by first|(simpa using u.o.cell_new 1)|(rw[q.cell zj];simp));have r2:z.cell? (Y w 3)=some (.slice b.Al b.log.length b.cl):=(by first|(simpa using u.o.cell_new 3)|(rw[q.cell zj];simp));have r3:z.cell? (Y wr 0)=some (I m.1):=(by first|(simpa using u.o.cell_new 0)|(rw[q.cell zj];simp));have r4:z.cell? (Y wr 1)=some (I m.2):=(by first|(simpa using u.o.cell_new 1)|(rw[q.cell zj];simp));clear yH q;refine hK.out _ _ ⟨r0,r1,r2,r3,r4⟩ (λyH=>?_)
     try simp only[Act.put,l1,l2,l3]
     refine AH 15 59 ?_;refine wpAnyH_ready (rs:=[18]) zh zj ?_;refine AllReadyH.cons (o:=⟨some 62,_,_,_,_,_⟩) rfl (λK hK=>?_) AllReadyH.nil;go_simp;go_at_call 85;refine(D4 A4 c4 y m.1 _ G.o ah _ HH.o).mono ?_;rintro e w5 ⟨rfl,aq⟩;subst aq;clear yH;refine hK.out _ _ ⟨r0,r1,r2,r3,r4⟩ (λyH=>?_)
     try simp only[Act.put,l1,l2,l3]
     refine AH 19 63 ?_;refine AH 20 64 ?_;refine AH 21 65 ?_;refine AH 22 66 ?_;refine AH 23 67 ?_;refine AH 24 68 ?_;refine AH 25 69 ?_;refine AH 26 70 ?_;refine wpAnyH_take (i:=27) (oi:=⟨some 71,_,_,_,_,_⟩) (v:=undef) rfl zh zh zh (λ_ _ _ h=>h) (Or.inr ⟨zi,rfl⟩) zp ?_
     try simp only[Act.put,l1,l2,l3]
     refine wpAnyH_take (i:=28) (oi:=⟨some 72,_,_,_,_,_⟩) (v:=undef) rfl zh zh zh (λ_ _ _ h=>h) (Or.inr ⟨zi,rfl⟩) zp ?_
     try simp only[Act.put,l1,l2,l3]
     refine wpAnyH_take (i:=29) (oi:=⟨some 73,_,_,_,_,_⟩) (v:=undef) rfl zh zh zh (λ_ _ _ h=>h) (Or.inr ⟨zi,rfl⟩) zp ?_
     try simp only[Act.put,l1,l2,l3]
     refine wpAnyH_take (i:=30) (oi:=⟨some 74,_,_,_,_,_⟩) (v:=undef) rfl zh zh zh (λ_ _ _ h=>h) (Or.inr ⟨zi,rfl⟩) zp ?_
     try simp only[Act.put,l1,l2,l3]
     refine wpAnyH_take (i:=31) (oi:=⟨some 75,_,_,_,_,_⟩) (v:=undef) rfl zh zh zh (λ_ _ _ h=>h) (Or.inr ⟨zi,rfl⟩) zp ?_
     try simp only[Act.put,l1,l2,l3]
     refine wpAnyH_take (i:=32) (oi:=⟨some 76,_,_,_,_,_⟩) (v:=undef) rfl zh zh zh (λ_ _ _ h=>h) (Or.inr ⟨zi,rfl⟩) zp ?_
     try simp only[Act.put,l1,l2,l3]
     refine AH 33 77 ?_;refine wpAnyH_done zh ?_ _;go_wp2;go_ret;exact⟨AC (II W HE.o (by rw[D.o,decide_eq_false (p:=0<=m.2) (by have:=H4.o;omega)];simp)),H0.o.trans u.o⟩
    have bi:decide (m.2<0)=false:=decide_eq_false h4;have H4:=J h4;clear h4;by_cases h5:(b.log.length:Int)<m.2
    .have bj:decide ((b.log.length:Int)<m.2)=true:=decide_eq_true h5;have H5:=J h5;clear h5;go_wp2;go_region_held3 (λw'=>w'.cell? (Y w 0)=some (I b.self)/\w'.cell? (Y w 1)=some (.slice b.Av b.vs.length b.cv)/\w'.cell? (Y w 3)=some (.slice b.Al b.log.length b.cl)/\w'.cell? (Y wr 0)=some (I m.1)/\w'.cell? (Y wr 1)=some (I m.2))
      (first|exact⟨s0,s1,s2,s3,s4⟩|exact⟨r0,r1,r2,r3,r4⟩)
      (first
       | (go_at_call 49;(with_reducible refine(Ep b.Av b.cv b.vs _ (by exact RV.o) hp hn ln y (by exact HL.o)).mono ?_);rintro e z ⟨A4,c4,rfl,_,_,G,q⟩;have u:=J (V.trans (F.o.drew) q);have r0:z.cell? ⟨w.heap.size,0,none⟩=some (.int .i64 b.self):=(by first|(simpa using u.o.cell_new 0)|(rw[q.cell zj];simp));have r1:z.cell? ⟨w.heap.size,1,none⟩=some (.slice b.Av b.vs.length b.cv):=(by first|(simpa using u.o.cell_new 1)|(rw[q.cell zj];simp));have r2:z.cell? ⟨w.heap.size,3,none⟩=some (.slice b.Al b.log.length b.cl):=(by first|(simpa using u.o.cell_new 3)|(rw[q.cell zj];simp));have r3:z.cell? ⟨wr.heap.size,0,none⟩=some (.int .i64 m.1):=(by first|(simpa using u.o.cell_new 0)|(rw[q.cell zj];simp));have r4:z.cell? ⟨wr.heap.size,1,none⟩=some (.int .i64 m.2):=(by first|(simpa using u.o.cell_new 1)|(rw[q.cell zj];simp));clear q)
       | (go_at_call 85;(with_reducible refine(D4 A4 c4 y m.1 _ (by exact G.o) ah _ (by exact HH.o)).mono ?_);rintro e w5 ⟨rfl,rfl⟩))
     go_wp2;go_ret;exact⟨AC (II W HE.o (by rw[D.o,decide_eq_false (p:=m.2<=(b.log.length:Int)) (by have:=H5.o;omega)];simp)),H0.o.trans u.o⟩
    .have bj:decide ((b.log.length:Int)<m.2)=false:=decide_eq_false h5;have H5:=J h5;clear h5;go_wp2;go_region_held3 (λw'=>w'.cell? (Y w 0)=some (I b.self)/\w'.cell? (Y w 1)=some (.slice b.Av b.vs.length b.cv)/\w'.cell? (Y w 3)=some (.slice b.Al b.log.length b.cl)/\w'.cell? (Y wr 0)=some (I m.1)/\w'.cell? (Y wr 1)=some (I m.2))
      (first|exact⟨s0,s1,s2,s3,s4⟩|exact⟨r0,r1,r2,r3,r4⟩)
      (first
       | (go_at_call 49;(with_reducible refine(Ep b.Av b.cv b.vs _ (by exact RV.o) hp hn ln y (by exact HL.o)).mono ?_);rintro e z ⟨A4,c4,rfl,_,_,G,q⟩;have u:=J (V.trans (F.o.drew) q);have r0:z.cell? ⟨w.heap.size,0,none⟩=some (.int .i64 b.self):=(by first|(simpa using u.o.cell_new 0)|(rw[q.cell zj];simp));have r1:z.cell? ⟨w.heap.size,1,none⟩=some (.slice b.Av b.vs.length b.cv):=(by first|(simpa using u.o.cell_new 1)|(rw[q.cell zj];simp));have r2:z.cell? ⟨w.heap.size,3,none⟩=some (.slice b.Al b.log.length b.cl):=(by first|(simpa using u.o.cell_new 3)|(rw[q.cell zj];simp));have r3:z.cell? ⟨wr.heap.size,0,none⟩=some (.int .i64 m.1):=(by first|(simpa using u.o.cell_new 0)|(rw[q.cell zj];simp));have r4:z.cell? ⟨wr.heap.size,1,none⟩=some (.int .i64 m.2):=(by first|(simpa using u.o.cell_new 1)|(rw[q.cell zj];simp));clear q)
       | (go_at_call 85;(with_reducible refine(D4 A4 c4 y m.1 _ (by exact G.o) ah _ (by exact HH.o)).mono ?_);rintro e w5 ⟨rfl,rfl⟩))
     go_wp2;go_roundw
     case rel=>exact⟨k+1,U,by go_num,by rw[HN.o],J (Ov HT.o (by rw[D.o,decide_eq_true H1.o,decide_eq_true (p:=m.1≠b.self) H2.o,HH.o,decide_eq_true (p:=0<=m.2) (by have:=H4.o;omega),decide_eq_true (p:=m.2<=(b.log.length:Int)) (by have:=H5.o;omega)];rfl)),u.o⟩
     case measure=>simp[intOf]<;>omega
   .have af:=J (PO (n:=b.st.marks.length) (p:=DE b.st) (λj hj=>HT.o j (by have:b.st.marks.length=b.marks.length:=rfl;omega)));obtain⟨wo,rfl⟩:∃x,x=wr:=⟨wr,rfl⟩;go_wp2;go_loopw [3,84] (λR i wr=>∃k:Nat,k<=b.fls.length/\i=I k/\R=I (F2 b.st.fls k)/\O (∀j,j<k->Ea b.st j=true)/\V (w.alloc (.cells (b.cells2 Am Af) 28)) wr) (λ_ i _=>b.fls.length - (intOf i).toNat)
    case atStart=>exact⟨0,zO _,rfl,rfl,J (λj hj=>absurd hj (Nat.not_lt_zero _)),HS.o⟩
    case round=>
     obtain⟨k2,bu,rfl,rfl,av,au⟩:=hrel;have HQ:=J au;clear au;obtain⟨t0,t1,t2,t3,t4,t5,t6,t7,t8,zt⟩:=Iz HQ.o;have bt:b.st.fls.length=b.fls.length:=by show (b.fls.map FlM.v).length=_;rw[zP]
     by_cases T:k2<b.fls.length
     .obtain⟨bb,bl,f,rfl,hb,c0,c1,c2,bc,HF⟩:=Fd (show flE.Box wr Af b.fls by rw[<-ai.o];exact(HR.o.ext HQ.o).fls) T;have ap:b.st.fls[k2]?=some f.v:=by show (b.fls.map FlM.v)[k2]?=_;rw[zM,HF.o];rfl
      have HN:=J (Ui ap);have D:O (Ea b.st k2=(decide (F2 b.st.fls k2<f.m)&&(AQ f.m&&Bh (vws b.vs) f.v))):=J (by rw[ZV ap];rfl);have am:=ae.o.fl f (zX HF.o);have bk:f.log.length<=1000000000:=by have:=am.1;omega
      have ba:=J am.2;clear ap am;have F:=J (V.new wr (.cells #[I f.m,I f.b,.slice f.A f.log.length f.c] 80));generalize F2 b.st.fls k2=R at *;by_cases h1:R<f.m;rotate_left
      .have al:decide (f.m<=R)=true:=decide_eq_true U;have H1:=J h1;clear h1;go_wp2;go_ret;exact⟨AC (LL T HE.o af.o (by rw[D.o,decide_eq_false (Int.not_lt.2 H1.o)];rfl)),H0.o.trans (HQ.o.trans F.o)⟩
      have H1:=J h1;have al:decide (f.m<=R)=false:=decide_eq_false U;clear h1;go_wp2_with fail;refine(IQ f.m _).mono ?_;cases hid:AQ f.m
      .have HD:=J hid;clear hid;rintro r z ⟨rfl,rfl⟩;go_wp2;go_ret;exact⟨AC (LL T HE.o af.o (by rw[D.o,HD.o];simp)),H0.o.trans (HQ.o.trans F.o)⟩
      have HD:=J hid;clear hid;rintro r z ⟨rfl,rfl⟩;go_wp2_with fail;refine(MF b.Av b.cv b.vs f _ (HR.o.ext (HQ.o.trans F.o)).vs (bc.o.ext F.o) hn ae.o.vx bk ba.o).mono ?_;cases hps:Bh (vws b.vs) f.v
      .have HP:=J hps;clear hps;rintro r w5 ⟨rfl,aa⟩;have X5:=HQ.o.t (F.o.trans aa);clear aa;go_wp2;go_ret;exact⟨AC (LL T HE.o af.o (by rw[D.o,HP.o];simp)),H0.o.trans X5.o⟩
      .have HP:=J hps;clear hps;rintro r w5 ⟨rfl,aa⟩;have X5:=HQ.o.t (F.o.trans aa);have u0:w5.cell? (Y wr 0)=some (I f.m):=by rw[aa.cell zj];simp
       clear aa;go_wp2;go_roundw
       case rel=>exact⟨k2+1,U,by go_num,by rw[HN.o];rfl,J (Ov av.o (by rw[D.o,decide_eq_true H1.o,HD.o,HP.o];rfl)),X5.o⟩
       case measure=>simp[intOf]<;>omega
     .go_wp2;go_ret;exact⟨AC (ZF HE.o af.o (λj hj=>av.o j U)),H0.o.trans HQ.o⟩
theorem Sr(b:BM)(w:World)(h:b.Reads w)(q:0<b.vs.length)(j:b.Fits) :
  Calls prog 92 #[.agg b.cells] w λe w'=>e=.returned (.bool (Dp b.st))/\V w w':=Sp b b.Am b.Af w rfl rfl h q j
def FW(l p:List Ent):Bool:=decide (p.length<=l.length)&&CD (l.take p.length) p
theorem Row.take_ents{w:World}{A:Option Addr}{l:List Ent}(h:Row w A (Aa.cells l))(n:Nat):Row w A (Aa.cells (l.take n)):=by
 intro q;have D:Aa.cells l=Aa.cells (l.take n)++Aa.cells (l.drop n):=by rw[<-Aa.cells_append,List.take_append_drop]
 obtain⟨b,y,F,G,K⟩:=h (by rw[D];simp[q]);refine⟨b,y,F,G,λj u z=>K j u ?_⟩;rw[D,List.getElem?_append_left (zZ z).1];exact z
theorem Xr(A j:Option Addr)(n c q:Nat)(xs ys:List Ent)(w:World)(y:n=xs.length)(h:Row w A (Aa.cells xs))(u:Row w j (Aa.cells ys))(z:xs.length<=1000000000) :
  Calls prog 179 #[.slice A n c,.slice j ys.length q] w λe w'=>e=.returned (.bool (CD xs ys))/\Still w w':=by
 subst y;exact Nc A j c q xs ys w h u z
theorem Um(A z:Option Addr)(c G:Nat)(l p:List Ent)(w:World)(h:Row w A (Aa.cells l))(K:Row w z (Aa.cells p))(W:l.length<=1000000000)(T:l.length<=c) :
  Calls prog 130 #[.slice A l.length c,.slice z p.length G] w λe w'=>e=.returned (.bool (FW l p))/\V w w':=by
 have H:=J (h.take_ents p.length);have Q:=J K;clear h K;by_cases j:p.length<=l.length
 .have D:=J j;have q:decide ((p.length:Int)<=(l.length:Int))=true:=decide_eq_true U;have X:(0:Int)<=(p.length:Int):=U;have k2:(p.length:Int)<=(c:Int):=U;have k3:p.length<=c:=U;have u:(l.take p.length).length=p.length:=by rw[zT];omega
  have F:=J u;clear j u;go_enter func130,ntmps130;go_wp2_with fail;refine(Xr A z p.length c G (l.take p.length) p _ F.o.symm H.o Q.o (by rw[F.o];omega)).mono ?_;rintro e w1 ⟨rfl,y⟩;have R:=J y.ext;clear y;go_wp2;go_ret;exact⟨AC (by rw[FW,decide_eq_true D.o];rfl),R.o⟩
 .have D:=J j;have q:decide ((p.length:Int)<=(l.length:Int))=false:=decide_eq_false U;clear j;go_enter func130,ntmps130;go_wp2;go_ret;exact⟨AC (by rw[FW,decide_eq_false D.o];rfl),V.refl _⟩
abbrev BM.cells3(b:BM)(st:Int)(Ap:Option Addr):Array Value:=#[.int .i64 b.self,.slice b.Av b.vs.length b.cv,.int .i64 b.base,.slice b.Al b.log.length b.cl,.int .i64 st,.int .i64 b.sent,.slice Ap b.pend.length b.cp,.slice b.Am b.marks.length b.cm,.slice b.Af b.fls.length b.cf]
theorem EI{w w':World}{b:BM}{st:Int}{j:Option Addr}(h:V (w.alloc (.cells (b.cells3 st j) 28)) w') :
  w'.cell? (Z w.heap.size 0)=some (I b.self)/\w'.cell? (Z w.heap.size 1)=some (.slice b.Av b.vs.length b.cv)/\w'.cell? (Z w.heap.size 2)=some (I b.base)/\w'.cell? (Z w.heap.size 3)=some (.slice b.Al b.log.length b.cl)/\w'.cell? (Z w.heap.size 4)=some (I st)/\w'.cell? (Z w.heap.size 5)=some (I b.sent)/\w'.cell? (Z w.heap.size 6)=some (.slice j b.pend.length b.cp)/\w'.cell? (Z w.heap.size 7)=some (.slice b.Am b.marks.length b.cm)/\w'.cell? (Z w.heap.size 8)=some (.slice b.Af b.fls.length b.cf)/\w.heap.size<w'.heap.size:=by
 refine⟨?_,?_,?_,?_,?_,?_,?_,?_,?_,?_⟩
 .simpa using h.cell_new 0
 .simpa using h.cell_new 1
 .simpa using h.cell_new 2
 .simpa using h.cell_new 3
 .simpa using h.cell_new 4
 .simpa using h.cell_new 5
 .simpa using h.cell_new 6
 .simpa using h.cell_new 7
 .simpa using h.cell_new 8
 .have:=h.size;simp at this;omega
theorem IH(A:Option Addr)(c:Nat)(l:List Ent)(o:Int)(w:World)(h:Row w A (Aa.cells l))(j:l.length<=1000000000)(n:Nat)(q:Aq l o=n) :
  Calls prog 91 #[.slice A l.length c,I o] w λe w'=>e=.returned (I n)/\V w w':=by
 subst q;exact Em A c l o w h j
theorem Ra(A:Option Addr)(k c:Nat)(l:List Ent)(o:Int)(w:World)(j:k=l.length)(h:Row w A (Aa.cells l))(q:l.length<=1000000000)(n:Nat)(u:Aq l o=n) :
  Calls prog 91 #[.slice A k c,I o] w λe w'=>e=.returned (I n)/\V w w':=by
 subst j;exact IH A c l o w h q n u
def knB(s:St):Bool:=decide (s.base = -1)||(match Br s.views s.base with|none=>false|some v=>AG v.2 s.self)
theorem Wi(s:St):AM s=(AQ s.self&&(Bv s.views&&(decide (0<=s.sent)&&(decide (s.sent<=1099511627776)&&(Bi s.log s.base&&(knB s&&(decide ((Aq s.log s.self:Int)<=s.sent)&&(decide (0<=s.stable)&&(decide (s.stable<=s.log.length)&&(decide (s.pend.length<=32)&&(decide ((s.pend.length:Int)=s.sent - Aq (s.log.take s.stable.toNat) s.self)&&((s.pend.all λp=>decide (p.length<=6000))&&Dp s)))))))))))):=by
 unfold AM knB;rfl
theorem Z7{s:St}(h:s.base = -1):knB s=true:=by unfold knB;rw[decide_eq_true h];rfl
theorem ZA{s:St}(j:s.base≠-1)(h:Br s.views s.base=none):knB s=false:=by unfold knB;rw[decide_eq_false j,h];rfl
theorem Yu{s:St}{v:Vw}(j:s.base≠-1)(h:Br s.views s.base=some v):knB s=AG v.2 s.self:=by unfold knB;rw[decide_eq_false j,h];rfl
theorem Z2{l:List Vw}(h:Bv l=true):0<l.length:=by
 unfold Bv at h;simp only[zB,zE] at h;omega
theorem Gm{w:World}{A:Option Addr}{l:List (List UInt8)}{i:Nat}(h:Row w A (AU.cells l))(K:i<l.length) :
  ∃b q p,A=some (Z b q)/\b<w.heap.size/\w.cell? (Z b (q+i))=some (.string (Ah p))/\O (l[i]?=some p):=by
 obtain⟨b,q,p,z,D,F,_,G⟩:=Elem.Box.at_ (E:=AU) (w:=w) (A:=A) (l:=l) ⟨h,λa _=>⟨trivial,λr Q=>by simp[AU] at Q⟩⟩ K;have y:∀j u,(AU.f p)[j]?=some u->w.cell? (Z b (q+i*1+j))=some u:=F.o;exact⟨b,q,p,z,D,by simpa using y 0 _ rfl,G⟩
theorem YO{l:List (List UInt8)}{k:Nat}{p:List UInt8}(h:l[k]?=some p)(j:¬p.length<=6000):(l.all λp=>decide (p.length<=6000))=false:=by
 rw[List.all_eq_false];exact⟨p,zX h,by simpa using j⟩
theorem Wc{l:List (List UInt8)}{k:Nat}{p:List UInt8}(h:l[k]?=some p)(q:p.length<=6000)(j:((l.take k).all λp=>decide (p.length<=6000))=true):((l.take (k+1)).all λp=>decide (p.length<=6000))=true:=by
 rw[Cz h,List.all_append,j];simp[q]
theorem Tg(b:BM)(st:Int)(j:Option Addr)(w:World)(q:b.stable=st)(u:b.Ap=j)(h:b.Reads w)(z:0<b.vs.length)(y:b.Fits) :
  Calls prog 92 #[.agg #[I b.self,.slice b.Av b.vs.length b.cv,I b.base,.slice b.Al b.log.length b.cl,I st,I b.sent,.slice j b.pend.length b.cp,.slice b.Am b.marks.length b.cm,.slice b.Af b.fls.length b.cf]] w λe w'=>e=.returned (.bool (Dp b.st))/\V w w':=by
 subst q u;exact Sr b w h z y
theorem Tu(b:BM)(st:Int)(X:Option Addr)(w:World)(bk:b.stable=st)(bj:b.Ap=X)(h:b.Reads w)(hf:b.Fits) :
  Calls prog 23 #[.agg #[I b.self,.slice b.Av b.vs.length b.cv,I b.base,.slice b.Al b.log.length b.cl,I st,I b.sent,.slice X b.pend.length b.cp,.slice b.Am b.marks.length b.cm,.slice b.Af b.fls.length b.cf]] w λe w'=>e=.returned (.bool (AM b.st))/\V w w':=by
 have R:=J (V.new w (.cells (b.cells3 st X) 28));have HR:=J (h.ext R.o);have hn:b.vs.length<=1000000000:=by have:=hf.vs;omega
 have ad:b.log.length<=1000000000:=by have:=hf.log;omega
 have b2:b.pend.length<=1000000000:=by have:=hf.pend;omega
 have b0:b.log.length<=b.cl:=hf.cl.1;have ac:=J hf;have aa:=J bk;have au:=J bj;have T:=J (Wi b.st);clear h hf bk bj;unfold BM.cells3 at R HR;go_enter func23,ntmps23;go_wp2_with fail;refine(IQ b.self _).mono ?_;cases h1:AQ b.self
 .have H1:=J (show AQ b.st.self=false from h1);clear h1;rintro e w1 ⟨rfl,rfl⟩;go_wp2;go_ret;exact⟨AC (by rw[T.o,H1.o];rfl),R.o⟩
 have H1:=J (show AQ b.st.self=true from h1);clear h1;rintro e w1 ⟨rfl,rfl⟩;go_wp2_with fail;refine(Su b.Av b.cv b.vs _ HR.o.vs hn ac.o.vx).mono ?_;cases h2:Bv (vws b.vs)
 .have H2:=J (show Bv b.st.views=false from h2);clear h2;rintro e w1 ⟨rfl,ae⟩;have X1:=J ae;clear ae;go_wp2;go_ret;exact⟨AC (by rw[T.o,H2.o];simp),R.o.trans X1.o⟩
 have H2:=J (show Bv b.st.views=true from h2);have hp:0<b.vs.length:=by have:=Z2 h2;rwa [AW] at this
 clear h2;rintro e w1 ⟨rfl,ae⟩;have X1:=J ae;clear ae;obtain⟨q,p1,p2,y,z,D,F,p7,p8,zz⟩:=EI X1.o;by_cases h3:b.sent<0
 .have bd:decide (b.sent<0)=true:=decide_eq_true h3;have H3:=J (show decide (0<=b.st.sent)=false from decide_eq_false (by show ¬0<=b.sent;omega));clear h3;go_wp2;go_ret;exact⟨AC (by rw[T.o,H3.o];simp),R.o.trans X1.o⟩
 have bd:decide (b.sent<0)=false:=decide_eq_false h3;have H3:=J (show decide (0<=b.st.sent)=true from decide_eq_true (by show 0<=b.sent;omega));by_cases h4:1099511627776<b.sent
 .have be:decide (1099511627776<b.sent)=true:=decide_eq_true h4;have H4:=J (show decide (b.st.sent<=1099511627776)=false from decide_eq_false (by show ¬b.sent<=1099511627776;omega));clear h4 h3;go_wp2;go_ret;exact⟨AC (by rw[T.o,H4.o];simp),R.o.trans X1.o⟩
 have be:decide (1099511627776<b.sent)=false:=decide_eq_false h4;have H4:=J (show decide (b.st.sent<=1099511627776)=true from decide_eq_true (by show b.sent<=1099511627776;omega));have bo:=J (show 0<=b.sent/\b.sent<=1099511627776 by omega);clear h3 h4;go_wp2_with fail;refine(Gc b.Al b.cl b.log b.base _ (HR.o.ext X1.o).log ad ac.o.lp).mono ?_;cases h5:Bi b.log b.base
 .have H5:=J (show Bi b.st.log b.st.base=false from h5);clear h5;rintro e w2 ⟨rfl,af⟩;have X2:=X1.o.t af;clear af;go_wp2;go_ret;exact⟨AC (by rw[T.o,H5.o];simp),R.o.trans X2.o⟩
 have H5:=J (show Bi b.st.log b.st.base=true from h5);clear h5;rintro e w2 ⟨rfl,af⟩;have X2:=X1.o.t af;clear af bd be X1;clear q p1 p2 y z D F p7 p8 zz;obtain⟨q,p1,p2,y,z,D,F,p7,p8,zz⟩:=EI X2.o;go_upto_if 37 with fail;go_cut [2] (λ_ wx=>O (knB b.st=true)/\V (w.alloc (.cells (b.cells3 st X) 28)) wx)
 case first=>
  by_cases hb:b.base = -1
  .have HB:=J (Z7 (s:=b.st) hb);have bp:(b.base != -1)=false:=by simp[hb]
   clear hb;go_wp2;go_meet
   case rel=>exact⟨HB,X2.o⟩
  .have HB:=J hb;have bp:(b.base != -1)=true:=by simp[hb]
   clear hb;go_wp2_with fail;refine(NP b.Av b.cv b.vs b.base _ (HR.o.ext X2.o).vs hn).mono ?_;cases hk:Br (vws b.vs) b.base with
   | none=>
    have HK:=J (ZA (s:=b.st) HB.o hk);clear hk;rintro e w3 ⟨A3,c3,rfl,_,_,_,ag⟩;have G:=X2.o.t ag;clear ag;simp only[Option.getD_none,Option.isSome_none,List.length_nil];go_wp2;go_ret;exact⟨AC (by rw[T.o,HK.o];simp),R.o.trans (G.o.alloc _)⟩
   | some v=>
    obtain⟨vn,xs⟩:=v;have HK:=J (Yu (s:=b.st) HB.o hk);have bx:xs.length<=9223372036854775807:=by
     have:=List.mem_of_find?_eq_some hk;obtain⟨u,hu,hv⟩:=List.mem_map.1 this;have:=ac.o.vx u hu;have e:u.xs=xs:=by have:=congrArg Prod.snd hv;exact this
     rw[e] at this;omega
    clear hk;rintro e w3 ⟨A3,c3,rfl,_,_,aw,ag⟩;have G:=X2.o.t ag;clear ag;simp only[Option.getD_some,Option.isSome_some] at aw|-;obtain⟨y0,_,_,_,_,_,_,_,_,yz⟩:=EI G.o;go_wp2_with fail;refine(D4 A3 c3 xs b.self _ (aw.o.ext (V.new _ _)) bx _ rfl).mono ?_;cases hh:AG xs b.self
    .have HH:=J (show AG (vn,xs).2 b.st.self=false from hh);clear hh;rintro e w4 ⟨rfl,rfl⟩;go_wp2;go_ret;exact⟨AC (by rw[T.o,HK.o,HH.o];simp),R.o.trans (G.o.alloc _)⟩
    .have HH:=J (show AG (vn,xs).2 b.st.self=true from hh);clear hh;rintro e w4 ⟨rfl,rfl⟩;go_wp2;go_meet
     case rel=>exact⟨J (by rw[HK.o];exact HH.o),G.o.alloc _⟩
 case rest=>
  obtain⟨bn,a9⟩:=hcut;have G:=J a9;clear a9 X2 q p1 p2 y z D F p7 p8 zz;obtain⟨q,p1,p2,y,z,D,F,p7,p8,zz⟩:=EI G.o;have RL:=J ((HR.o.ext G.o.drew).log);obtain⟨no,aj⟩:∃n,Aq b.log b.self=n:=⟨_,rfl⟩;have ah:=J aj;have al:O (Aq b.st.log b.st.self=no):=J aj;have b1:no<=b.log.length:=by rw[<-aj];exact QJ _ _
  clear aj;by_cases h6:b.sent<(no:Int)
  .have bf:decide (b.sent<(no:Int))=true:=decide_eq_true h6;have H6:=J (show decide ((Aq b.st.log b.st.self:Int)<=b.st.sent)=false from decide_eq_false (by rw[al.o];show ¬(no:Int)<=b.sent;omega));clear h6;go_wp2;refine wp_region_held_drew (S:=λw'=>w'.cell? (Y w 0)=some (I b.self)/\w'.cell? (Y w 3)=some (.slice b.Al b.log.length b.cl)/\w'.cell? (Y w 4)=some (I st)/\w'.cell? (Y w 5)=some (I b.sent)/\w'.cell? (Y w 6)=some (.slice X b.pend.length b.cp)) zh ⟨q,y,z,D,F⟩ (λyH=>?_);refine AH 0 56 ?_;refine AH 1 57 ?_;refine AH 2 58 ?_;refine AH 3 59 ?_;refine AH 5 61 ?_;refine AH 6 62 ?_;refine wpAnyH_ready (rs:=[4]) zh zj ?_;refine AllReadyH.cons (o:=⟨some 60,_,_,_,_,_⟩) rfl (λK hK=>?_) AllReadyH.nil;go_simp;go_at_call 91;refine(IH b.Al b.cl b.log b.self _ RL.o ad no ah.o).mono ?_;rintro e w4 ⟨rfl,j⟩;have Q:=J ((G.o.drew).trans j);clear yH j q p1 p2 y z D F p7 p8 zz;obtain⟨q,p1,p2,y,z,D,F,p7,p8,zz⟩:=EI Q.o;refine hK.out _ _ ⟨q,y,z,D,F⟩ (λyH=>?_)
   try simp only[Act.put,l1,l2,l3]
   refine AH 7 63 ?_;refine AH 8 64 ?_;refine wpAnyH_take (i:=9) (oi:=⟨some 65,_,_,_,_,_⟩) (v:=undef) rfl zh zh zh (λ_ _ _ h=>h) (Or.inr ⟨zi,rfl⟩) zp ?_
   try simp only[Act.put,l1,l2,l3]
   refine wpAnyH_take (i:=10) (oi:=⟨some 66,_,_,_,_,_⟩) (v:=undef) rfl zh zh zh (λ_ _ _ h=>h) (Or.inr ⟨zi,rfl⟩) zp ?_
   try simp only[Act.put,l1,l2,l3]
   refine wpAnyH_take (i:=11) (oi:=⟨some 67,_,_,_,_,_⟩) (v:=undef) rfl zh zh zh (λ_ _ _ h=>h) (Or.inr ⟨zi,rfl⟩) zp ?_
   try simp only[Act.put,l1,l2,l3]
   refine AH 12 68 ?_;refine AH 13 69 ?_;refine wpAnyH_take (i:=14) (oi:=⟨some 70,_,_,_,_,_⟩) (v:=undef) rfl zh zh zh (λ_ _ _ h=>h) (Or.inr ⟨zi,rfl⟩) zp ?_
   try simp only[Act.put,l1,l2,l3]
   refine wpAnyH_take (i:=15) (oi:=⟨some 71,_,_,_,_,_⟩) (v:=undef) rfl zh zh zh (λ_ _ _ h=>h) (Or.inr ⟨zi,rfl⟩) zp ?_
   try simp only[Act.put,l1,l2,l3]
   refine wpAnyH_take (i:=16) (oi:=⟨some 72,_,_,_,_,_⟩) (v:=undef) rfl zh zh zh (λ_ _ _ h=>h) (Or.inr ⟨zi,rfl⟩) zp ?_
   try simp only[Act.put,l1,l2,l3]
   refine wpAnyH_take (i:=17) (oi:=⟨some 73,_,_,_,_,_⟩) (v:=undef) rfl zh zh zh (λ_ _ _ h=>h) (Or.inr ⟨zi,rfl⟩) zp ?_
   try simp only[Act.put,l1,l2,l3]
   refine wpAnyH_take (i:=18) (oi:=⟨some 74,_,_,_,_,_⟩) (v:=undef) rfl zh zh zh (λ_ _ _ h=>h) (Or.inr ⟨zi,rfl⟩) zp ?_
   try simp only[Act.put,l1,l2,l3]
   refine wpAnyH_take (i:=19) (oi:=⟨some 75,_,_,_,_,_⟩) (v:=undef) rfl zh zh zh (λ_ _ _ h=>h) (Or.inr ⟨zi,rfl⟩) zp ?_
   try simp only[Act.put,l1,l2,l3]
   refine AH 20 76 ?_;refine wpAnyH_done zh ?_ _;go_wp2;go_ret;exact⟨AC (by rw[T.o,H6.o];simp),R.o.trans Q.o⟩
  have bf:decide (b.sent<(no:Int))=false:=decide_eq_false h6;have H6:=J (show decide ((Aq b.st.log b.st.self:Int)<=b.st.sent)=true from decide_eq_true (by rw[al.o];show (no:Int)<=b.sent;omega));clear h6;by_cases h7:st<0
  .have bg:decide (st<0)=true:=decide_eq_true h7;have H7:=J (show decide (0<=b.st.stable)=false from decide_eq_false (by show ¬0<=b.stable;rw[aa.o];omega));clear h7;go_wp2;refine wp_region_held_drew (S:=λw'=>w'.cell? (Y w 0)=some (I b.self)/\w'.cell? (Y w 3)=some (.slice b.Al b.log.length b.cl)/\w'.cell? (Y w 4)=some (I st)/\w'.cell? (Y w 5)=some (I b.sent)/\w'.cell? (Y w 6)=some (.slice X b.pend.length b.cp)) zh ⟨q,y,z,D,F⟩ (λyH=>?_);refine AH 0 56 ?_;refine AH 1 57 ?_;refine AH 2 58 ?_;refine AH 3 59 ?_;refine AH 5 61 ?_;refine AH 6 62 ?_;refine wpAnyH_ready (rs:=[4]) zh zj ?_;refine AllReadyH.cons (o:=⟨some 60,_,_,_,_,_⟩) rfl (λK hK=>?_) AllReadyH.nil;go_simp;go_at_call 91;refine(IH b.Al b.cl b.log b.self _ RL.o ad no ah.o).mono ?_;rintro e w4 ⟨rfl,j⟩;have Q:=J ((G.o.drew).trans j);clear yH j q p1 p2 y z D F p7 p8 zz;obtain⟨q,p1,p2,y,z,D,F,p7,p8,zz⟩:=EI Q.o;refine hK.out _ _ ⟨q,y,z,D,F⟩ (λyH=>?_)
   try simp only[Act.put,l1,l2,l3]
   refine AH 7 63 ?_;refine AH 8 64 ?_;refine AH 9 65 ?_;refine AH 10 66 ?_;refine AH 11 67 ?_;refine AH 12 68 ?_;refine AH 13 69 ?_;refine wpAnyH_take (i:=14) (oi:=⟨some 70,_,_,_,_,_⟩) (v:=undef) rfl zh zh zh (λ_ _ _ h=>h) (Or.inr ⟨zi,rfl⟩) zp ?_
   try simp only[Act.put,l1,l2,l3]
   refine wpAnyH_take (i:=15) (oi:=⟨some 71,_,_,_,_,_⟩) (v:=undef) rfl zh zh zh (λ_ _ _ h=>h) (Or.inr ⟨zi,rfl⟩) zp ?_
   try simp only[Act.put,l1,l2,l3]
   refine wpAnyH_take (i:=16) (oi:=⟨some 72,_,_,_,_,_⟩) (v:=undef) rfl zh zh zh (λ_ _ _ h=>h) (Or.inr ⟨zi,rfl⟩) zp ?_
   try simp only[Act.put,l1,l2,l3]
   refine wpAnyH_take (i:=17) (oi:=⟨some 73,_,_,_,_,_⟩) (v:=undef) rfl zh zh zh (λ_ _ _ h=>h) (Or.inr ⟨zi,rfl⟩) zp ?_
   try simp only[Act.put,l1,l2,l3]
   refine wpAnyH_take (i:=18) (oi:=⟨some 74,_,_,_,_,_⟩) (v:=undef) rfl zh zh zh (λ_ _ _ h=>h) (Or.inr ⟨zi,rfl⟩) zp ?_
   try simp only[Act.put,l1,l2,l3]
   refine wpAnyH_take (i:=19) (oi:=⟨some 75,_,_,_,_,_⟩) (v:=undef) rfl zh zh zh (λ_ _ _ h=>h) (Or.inr ⟨zi,rfl⟩) zp ?_
   try simp only[Act.put,l1,l2,l3]
   refine AH 20 76 ?_;refine wpAnyH_done zh ?_ _;go_wp2;go_ret;exact⟨AC (by rw[T.o,H7.o];simp),R.o.trans Q.o⟩
  have bg:decide (st<0)=false:=decide_eq_false h7;have H7:=J (show decide (0<=b.st.stable)=true from decide_eq_true (by show 0<=b.stable;rw[aa.o];omega));by_cases h8:(b.log.length:Int)<st
  .have bh:decide ((b.log.length:Int)<st)=true:=decide_eq_true h8;have H8:=J (show decide (b.st.stable<=(b.st.log.length:Int))=false from decide_eq_false (by show ¬b.stable<=(b.log.length:Int);rw[aa.o];omega));clear h8 h7;go_wp2;go_region_held3 (λw'=>w'.cell? (Y w 0)=some (I b.self)/\w'.cell? (Y w 3)=some (.slice b.Al b.log.length b.cl)/\w'.cell? (Y w 4)=some (I st)/\w'.cell? (Y w 5)=some (I b.sent)/\w'.cell? (Y w 6)=some (.slice X b.pend.length b.cp))
    (first|exact⟨q,y,z,D,F⟩)
    (first
     | (go_at_call 91;(with_reducible refine(IH b.Al b.cl b.log b.self _ (by exact RL.o) ad no (by exact ah.o)).mono ?_);rintro e w4 ⟨rfl,j⟩;have Q:=J (V.trans (G.o.drew) j);clear j;obtain⟨q,p1,p2,y,z,D,F,p7,p8,zz⟩:=EI Q.o))
   go_wp2;go_ret;exact⟨AC (by rw[T.o,H8.o];simp),R.o.trans Q.o⟩
  have bh:decide ((b.log.length:Int)<st)=false:=decide_eq_false h8;have H8:=J (show decide (b.st.stable<=(b.st.log.length:Int))=true from decide_eq_true (by show b.stable<=(b.log.length:Int);rw[aa.o];omega));have ay:=J (show 0<=st/\st<=(b.log.length:Int) by omega);clear h8 h7;go_wp2;go_region_held3 (λw'=>w'.cell? (Y w 0)=some (I b.self)/\w'.cell? (Y w 3)=some (.slice b.Al b.log.length b.cl)/\w'.cell? (Y w 4)=some (I st)/\w'.cell? (Y w 5)=some (I b.sent)/\w'.cell? (Y w 6)=some (.slice X b.pend.length b.cp))
   (first|exact⟨q,y,z,D,F⟩)
   (first
    | (go_at_call 91;(with_reducible refine(IH b.Al b.cl b.log b.self _ (by exact RL.o) ad no (by exact ah.o)).mono ?_);rintro e w4 ⟨rfl,j⟩;have Q:=J (V.trans (G.o.drew) j);clear j;obtain⟨q,p1,p2,y,z,D,F,p7,p8,zz⟩:=EI Q.o))
  have X5:=Q;clear G RL bf bg bh Q;have G:=X5;clear X5;obtain⟨n,bt⟩:∃n:Nat,st=(n:Int):=⟨st.toNat,by have:=ay.o;omega⟩;subst bt;have bu:n<=b.log.length:=by have:=ay.o;omega
  have k1:(0:Int)<=(n:Int):=U;have k2:(n:Int)<=(b.cl:Int):=U;have k3:n<=b.cl:=U;have bl:n=(b.log.take n).length:=by rw[zT];omega
  have az:=J bl;clear bl;obtain⟨nb,W⟩:∃k,Aq (b.log.take n) b.self=k:=⟨_,rfl⟩;have av:=J W;have ak:O (Aq (b.st.log.take b.st.stable.toNat) b.st.self=nb):=J (by
   show Aq (b.log.take b.stable.toNat) b.self=nb;rw[aa.o];exact W)
  have bz:nb<=b.log.length:=by rw[<-W];exact zL (G1 _ _ _) bu
  have bq:=ac.o.log;have bv:=bo.o;have bw:IntKind.i64.wrap (b.sent - (nb:Int))=b.sent - (nb:Int):=IntWalk.i64_in _ U;clear W bv bq;have aq:=J ((HR.o.ext G.o.drew).log.take_ents n);have an:(b.log.take n).length<=1000000000:=by rw[zT];omega
  by_cases h9:32<b.pend.length
  .have bi:decide ((32:Int)<(b.pend.length:Int))=true:=decide_eq_true U;have H9:=J (show decide (b.st.pend.length<=32)=false from decide_eq_false (by show ¬b.pend.length<=32;omega));go_wp2;go_quiet (fail);go_wp2;go_ret;exact⟨AC (by rw[T.o,H9.o];simp),R.o.trans (G.o.drewN _)⟩
  have bi:decide ((32:Int)<(b.pend.length:Int))=false:=decide_eq_false U;have H9:=J (show decide (b.st.pend.length<=32)=true from decide_eq_true (by show b.pend.length<=32;omega));clear h9;by_cases ab:(b.pend.length:Int)=b.sent - (nb:Int);rotate_left
  .have am:((b.pend.length:Int) != b.sent - (nb:Int))=true:=by simp[ab]
   have ao:=J (show decide ((b.st.pend.length:Int)=b.st.sent - Aq (b.st.log.take b.st.stable.toNat) b.st.self)=false from decide_eq_false (by rw[ak.o];exact ab));clear ab;go_wp2;go_region_held3 (λw'=>w'.cell? (Y w 0)=some (I b.self)/\w'.cell? (Y w 3)=some (.slice b.Al b.log.length b.cl)/\w'.cell? (Y w 4)=some (I (n:Int))/\w'.cell? (Y w 5)=some (I b.sent)/\w'.cell? (Y w 6)=some (.slice X b.pend.length b.cp))
    (first|exact⟨q,y,z,D,F⟩)
    (first
     | (go_at_call 91;(with_reducible refine(Ra b.Al n b.cl (b.log.take n) b.self _ (by exact az.o) (by exact aq.o) an nb (by exact av.o)).mono ?_);rintro e w4 ⟨rfl,j⟩;have Q:=J (V.trans (G.o.drew) j);clear j;obtain⟨q,p1,p2,y,z,D,F,p7,p8,zz⟩:=EI Q.o))
   go_wp2;go_ret;exact⟨AC (by rw[T.o,ao.o];simp),R.o.trans Q.o⟩
  have am:((b.pend.length:Int) != b.sent - (nb:Int))=false:=by simp[ab]
  have ao:=J (show decide ((b.st.pend.length:Int)=b.st.sent - Aq (b.st.log.take b.st.stable.toNat) b.st.self)=true from decide_eq_true (by rw[ak.o];exact ab));clear ab;go_wp2;go_region_held3 (λw'=>w'.cell? (Y w 0)=some (I b.self)/\w'.cell? (Y w 3)=some (.slice b.Al b.log.length b.cl)/\w'.cell? (Y w 4)=some (I (n:Int))/\w'.cell? (Y w 5)=some (I b.sent)/\w'.cell? (Y w 6)=some (.slice X b.pend.length b.cp))
   (first|exact⟨q,y,z,D,F⟩)
   (first
    | (go_at_call 91;(with_reducible refine(Ra b.Al n b.cl (b.log.take n) b.self _ (by exact az.o) (by exact aq.o) an nb (by exact av.o)).mono ?_);rintro e w4 ⟨rfl,j⟩;have Q:=J (V.trans (G.o.drew) j);clear j;obtain⟨q,p1,p2,y,z,D,F,p7,p8,zz⟩:=EI Q.o))
  have X6:=Q;clear G aq bi am Q bw;go_wp2;go_loopw [101] (λi wr=>∃k:Nat,k<=b.pend.length/\i=I k/\O (((b.pend.take k).all λp=>decide (p.length<=6000))=true)/\V (w.alloc (.cells (b.cells3 (n:Int) X) 28)) wr) (λi _=>b.pend.length - (intOf i).toNat)
  case atStart=>exact⟨0,zO _,rfl,J rfl,X6.o⟩
  case round=>
   obtain⟨k,hk,rfl,HT,ax⟩:=hrel;have HS:=J ax;clear ax;by_cases br:k<b.pend.length
   .obtain⟨bb,b4,p,rfl,hb,c0,HP⟩:=Gm (show Row wr X (AU.cells b.pend) by rw[<-au.o];exact(HR.o.ext HS.o).pend) br;have b3:=CZ p;by_cases ai:p.length<=6000
    .have ap:=J ai;have ba:¬6000<p.length:=U;have bc:decide ((6000:Int)<(p.length:Int))=false:=decide_eq_false U;clear ai;go_wp2;go_roundw
     case rel=>exact⟨k+1,U,by go_num,J (Wc HP.o ap.o HT.o),HS.o⟩
     case measure=>simp[intOf];omega
    .have ap:=J (show (b.st.pend.all λp=>decide (p.length<=6000))=false from YO HP.o ai);have ba:6000<p.length:=U;have bc:decide ((6000:Int)<(p.length:Int))=true:=decide_eq_true U;clear ai;go_wp2;go_ret;exact⟨AC (by rw[T.o,ap.o];simp),R.o.trans HS.o⟩
   .have ar:=J (show (b.st.pend.all λp=>decide (p.length<=6000))=true from by
     have:=HT.o;rw[List.take_of_length_le U] at this;exact this)
    obtain⟨t0,t1,t2,t3,t4,t5,t6,t7,t8,tz⟩:=EI HS.o;go_wp2_with fail;refine(Tg b (n:Int) X _ aa.o au.o (HR.o.ext HS.o) hp ac.o).mono ?_;rintro e w7 ⟨rfl,bm⟩;have X7:=HS.o.t bm;clear bm;go_wp2;go_ret;exact⟨AC (by rw[T.o,H1.o,H2.o,H3.o,H4.o,H5.o,bn.o,H6.o,H7.o,H8.o,H9.o,ao.o,ar.o];simp),R.o.trans X7.o⟩
theorem GH(b:BM)(w:World)(h:b.Reads w)(j:b.Fits) :
  Calls prog 23 #[.agg b.cells] w λe w'=>e=.returned (.bool (AM b.st))/\V w w':=Tu b b.stable b.Ap w rfl rfl h j
theorem Sk:∀(l:List VwM) (k:Nat) (a:VwM),k<l.length->AL.cells (l.set k a)=((AL.cells l).set (k*2) (I a.n)).set (k*2+1) (.slice a.A a.xs.length a.c):=by
 intro l;induction l with
 | nil=>intro k a h;simp at h
 | cons x l q=>
  intro k a h
  match k with
  | 0=>rfl
  | k+1=>
   rw[List.set_cons_succ,AL.cells_cons,AL.cells_cons,q k a (by simpa using h)];have j:(k+1)*2=k*2+1+1:=U;rw[j];rfl
theorem I1{w:World}{p:Addr}{u:Value}{A:Option Addr}{vs:List Value}(h:Row w A vs)(z:∀q,vs≠[]->A=some q->q.block≠p.block):Row (w.setCell p u) A vs:=by
 intro F;obtain⟨b,y,D,G,K⟩:=h F;refine⟨b,y,D,by rw[show (w.setCell p u).heap.size=w.heap.size from by simp[World.setCell]];exact G,λj v R=>?_⟩;have Q:(w.setCell p u).heap[b]?=w.heap[b]?:=Below.heap_setCell _ _ _ _ (z _ F D);exact(World.cell?_of_block (a:=⟨b,y+j,none⟩) Q).trans (K j v R)
theorem Vl{w:World}{B g cap:Nat}{l:List VwM}{k:Nat}{a:VwM}(h:AL.OB w B (.slice (some (Z g 0)) l.length cap) l)(hk:k<l.length)(ha:AL.ok a)(hr:Row w a.A (Ai a.xs))(F:Apt (.slice (some (Z g 0)) l.length cap) (a.A,Ai a.xs)) :
  AL.OB ((w.setCell (Z g (k*2)) (I a.n)).setCell (Z g (k*2+1)) (.slice a.A a.xs.length a.c)) B (.slice (some (Z g 0)) l.length cap) (l.set k a):=by
 have D:∀{r:Option Addr×List Value},Row w r.1 r.2->Apt (.slice (some (Z g 0)) l.length cap) r->Row ((w.setCell (Z g (k*2)) (I a.n)).setCell (Z g (k*2+1)) (.slice a.A a.xs.length a.c)) r.1 r.2:=λQ z=>
  I1 (I1 Q (λq y u=>Ne.symm (z q g y u rfl))) (λq y u=>Ne.symm (z q g y u rfl))
 refine⟨?_,λq u=>?_⟩
 .obtain⟨Q,z⟩:=h.1;refine⟨by rw[AL.cells_len],.inr ?_⟩;rcases z with ⟨z,_⟩|⟨g',K,G,R,T,hh,W,X,h6,h7⟩
  .cases z
  .simp only[Value.slice.injEq,zJ,Addr.mk.injEq,and_true,true_and] at R;obtain⟨rfl,rfl⟩:=R;refine⟨g,cap,(G.setIfInBounds (k*2) (I a.n)).setIfInBounds (k*2+1) (.slice a.A a.xs.length a.c),by rw[List.length_set],T,?_,by rw[List.length_set];exact W,X,by simpa using h6,?_⟩
   .exact heap_setCell_same _ _ _ _ _ _ (heap_setCell_same _ _ _ _ _ _ hh)
   .rw[List.length_set,Array.toList_setIfInBounds,Array.toList_setIfInBounds,List.take_set,List.take_set,h7,Sk l k a hk]
 .rcases List.mem_or_eq_of_mem_set u with u|rfl
  .exact⟨(h.2 q u).1,λr j=>⟨D ((h.2 q u).2 r j).1 ((h.2 q u).2 r j).2,((h.2 q u).2 r j).2⟩⟩
  .refine⟨ha,λr j=>?_⟩;simp only[AL,zC,zN,or_false] at j;subst j;exact⟨D (r:=(q.A,Ai q.xs)) hr F,F⟩
theorem Yb{l:List VwM}{k:Nat}{n:Int}{X A:Option Addr}{q c:Nat}{xs:List Int}(h:l[k]?=some ⟨n,X,q,xs⟩):vws (l.set k ⟨n,A,c,xs⟩)=vws l:=by
 unfold vws;rw[List.map_set];apply List.ext_getElem?;intro i;by_cases j:k=i
 .subst j;rw[List.getElem?_set];obtain⟨y,u⟩:=zZ h;simp[y,u,VwM.v]
 .rw[List.getElem?_set];simp[j]
theorem Wz{w:World}{B:Nat}{A:Option Addr}{n c:Nat}{l:List VwM}(h:AL.OB w B (.slice A n c) l)(F:0<l.length):∃g,A=some (Z g 0)/\n=l.length/\g<w.heap.size/\w.frozen? (Z g 0)=false:=by
 obtain⟨_,y⟩:=h.1;rcases y with ⟨_,D⟩|⟨g,cap,u,q,_,j,_⟩
 .omega
 .simp only[Value.slice.injEq] at q;have z:g<w.heap.size:=by
   rcases Nat.lt_or_ge g w.heap.size with hlt|hge
   .exact hlt
   .rw[Array.getElem?_eq_none hge] at j;cases j
  exact⟨g,q.1,q.2.1,z,by simp[World.frozen?,j]⟩
theorem Pd{w:World}{B g c n:Nat}{l:List VwM}(h:AL.OB w B (.slice (some (Z g 0)) n c) l)(i:Nat):w.frozen? (Z g i)=false:=by
 obtain⟨_,j⟩:=h.1;rcases j with ⟨j,_⟩|⟨z,cap,u,q,_,y,_⟩
 .cases j
 .simp only[Value.slice.injEq,zJ,Addr.mk.injEq,and_true] at q;obtain⟨rfl,_⟩:=q;simp[World.frozen?,y]
def Hr(w:World)(A:Option Addr)(xs:List Value):Prop:=∀p,xs≠[]->A=some p->w.heap.size<=p.block
theorem YA{w:World}{l:List VwM}{k:Nat}{a:VwM}(h:∀i v,i<k->l[i]?=some v->Hr w v.A (Ai v.xs))(q:Hr w a.A (Ai a.xs)):∀i v,i<k+1->(l.set k a)[i]?=some v->Hr w v.A (Ai v.xs):=by
 intro i v u j;rw[List.getElem?_set] at j;split at j
 .split at j
  .cases j;exact q
  .cases j
 .exact h i v U j
theorem Sq(A:Option Addr)(c:Nat)(l:List VwM)(w:World)(h:AL.Box w A l)(hn:l.length<=1000000)(hx:∀v∈l,v.xs.length<=1000000) :
  Calls prog 93 #[.slice A l.length c] w λe w'=>∃z,O (vws z=vws l)/\O (∀v∈z,Hr w v.A (Ai v.xs))/\AL.Gives w z e w':=by
 have H:=J h;have ai:=J (show ∀v∈vws l,v.2.length<=1000000 from λv Q=>by obtain⟨u,hu,rfl⟩:=List.mem_map.1 Q;exact hx u hu);clear h hx;go_enter func93,ntmps93;go_wp2_with fail;refine(TP A c l _ H.o hn).mono ?_;rintro e w1 ⟨A1,c1,rfl,aj,ak,ab,ac⟩;have HO:=J ab;have X1:=J ac;clear ab ac;go_wp2;go_loopw [9] (λi wr=>∃(k:Nat) (z:List VwM),k<=l.length/\i=I k/\O (z.length=l.length)/\O (vws z=vws l)/\O (∀i v,i<k->z[i]?=some v->Hr w v.A (Ai v.xs))/\O (AL.OB wr w.heap.size (.slice A1 l.length c1) z)/\V w wr) (λi _=>l.length - (intOf i).toNat)
 case atStart=>exact⟨0,l,zO _,rfl,J rfl,J rfl,J (λi v hi=>absurd hi (Nat.not_lt_zero _)),HO,X1.o⟩
 case round=>
  obtain⟨k,z,hk,rfl,j,F,W,q,aa⟩:=hrel;have HS:=J aa;clear aa;by_cases an:k<l.length
  .have D:k<z.length:=by rw[j.o];exact an
   obtain⟨g,rfl,ap,hg,_⟩:=Wz q.o U;clear ap;have ae:O (AL.Box wr (some (Z g 0)) z):=J (by
    obtain⟨A',c',Q,_,_,K⟩:=q.o.slice;simp only[Value.slice.injEq] at Q;rw[Q.1];exact K)
   obtain⟨b,av,n,X,cx,xs,hA,K,c0,G,HR,ar,au,HX⟩:=DK ae.o D;simp only[zJ,Addr.mk.injEq,and_true] at hA;obtain⟨rfl,rfl⟩:=hA;simp only[Nat.zero_add] at c0 G;have aq:xs.length<=1000000:=ai.o _ (by rw[<-F.o];exact zX (Dw HX.o));have f0:=Pd q.o (k*2);have f1:=Pd q.o (k*2+1);go_wp2_with fail;refine(Mm n X cx xs _ HR.o aq).mono ?_;rintro e w2 ⟨A2,c2,rfl,al,am,ah,T,y⟩;have af:=q.o.e y;have X2:=HS.o.t y;have d0:w2.cell? (Z g (k*2))=some (I n):=by rw[y.cell (by exact K)];exact c0
   have d1:w2.cell? (Z g (k*2+1))=some (.slice X xs.length cx):=by rw[y.cell (by exact K)];exact G
   have g0:w2.frozen? (Z g (k*2))=false:=by rw[y.frozen (by exact K)];exact f0
   have g1:w2.frozen? (Z g (k*2+1))=false:=by rw[y.frozen (by exact K)];exact f1
   have ad:O (Apt (.slice (some (Z g 0)) z.length c1) (A2,Ai xs)):=J (Hg (E:=AL) (wc:=wr) (B:=w.heap.size) (l:=z) T.o (by rw[j.o];exact q.o.1));have ag:=J (Vl (k:=k) (a:=⟨n,A2,c2,xs⟩) (by rw[j.o];exact af.o) D ⟨al,am⟩ ah.o ad.o);have R:O (w.heap.size<=g):=J (q.o.1.lt g rfl).1;clear y c0 G f0 f1;go_wp2;go_roundw
   case rel=>exact⟨k+1,z.set k ⟨n,A2,c2,xs⟩,U,by go_num,J (by rw[List.length_set];exact j.o),J (by rw[Yb HX.o];exact F.o),J (YA W.o (λp ao hp=>zL HS.o.size (T.o p ao hp))),J (by have:=ag.o;rw[j.o] at this;exact this),(X2.o.set (by exact R.o) _).set (by exact R.o) _⟩
   case measure=>simp[intOf];omega
  .go_wp2;go_ret;exact⟨z,F,J (λv Q=>by obtain⟨i,hi,he⟩:=List.mem_iff_getElem.1 Q;exact W.o i v (by have:=j.o;omega) (by rw[<-he];exact zY hi)),A1,c1,by rw[j.o];rfl,by rw[j.o];exact aj,ak,by rw[j.o];exact q.o,HS.o⟩
end Go.Proofs.YtponbabbabnaeaaGreat
