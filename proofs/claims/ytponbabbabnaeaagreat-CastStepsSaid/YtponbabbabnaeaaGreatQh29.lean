/- Part 29: contracts of functions. Conditions: as each theorem says. -/
import Derived.Test.YtponbabbabnaeaaGreatQh28
set_option maxRecDepth 100000
set_option maxHeartbeats 40000000
set_option linter.unusedVariables false
namespace Go.Proofs.YtponbabbabnaeaaGreat
open Proofs.Tryz
open Go.RowKit
theorem RU{P:Prop}(h:P:=by
 obtain⟨G,F,BG,u,aw⟩:=ES w b.cells #[I kd,I nm,I sq,I sa,I sb,I ln,I bs,.string (Ah ap),.slice A es.length c];go_enter func78,ntmps78;go_upto_region 1 with fail;generalize (((w.alloc (.cells b.cells 28)).alloc (.cells #[I kd,I nm,I sq,I sa,I sb,I ln,I bs,.string (Ah ap),.slice A es.length c] 115)).alloc (.cells Yq 28))=u1 at *;replace H:=H.o.e G.o;obtain⟨R,T,W,q3,q4,q5,q6,q7,q8⟩:=nine F.o;obtain⟨g0,g1,g2,g3,g4,g5,g6,g7,g8⟩:=nine BG.o;obtain⟨z0,z1,z2,z3,z4,z5,z6,z7,z8⟩:=u.o.free9;obtain⟨k0,k1,k2,k3,k4,k5,k6,k7,k8⟩:=nine u.o;have ci:=DJ;go_wp2_with (first
  | (go_at_call 59
     refine(bq.o▸Cy b _ H.o.r aq H.o.f).mono ?_;rintro e w2 ⟨rfl,j⟩;replace H:=H.o.e j;replace F:=F.o.e j;replace BG:=BG.o.e j;replace u:=u.o.e j;replace G:=G.o.t j;clear j R T W q3 q4 q5 q6 q7 q8 g0 g1 g2 g3 g4 g5 g6 g7 g8 z0 z1 z2 z3 z4 z5 z6 z7 z8 k0 k1 k2 k3 k4 k5 k6 k7 k8;obtain⟨R,T,W,q3,q4,q5,q6,q7,q8⟩:=nine F.o;obtain⟨g0,g1,g2,g3,g4,g5,g6,g7,g8⟩:=nine BG.o;obtain⟨z0,z1,z2,z3,z4,z5,z6,z7,z8⟩:=u.o.free9;obtain⟨k0,k1,k2,k3,k4,k5,k6,k7,k8⟩:=nine u.o)
  | (go_at_call 57
     refine(Cb b _ H.o.r aq H.o.f tn ts HT.o).mono ?_;rintro e w3 ⟨A5,c5,rfl,_,_,bp,j⟩;have b8:=J bp;clear bp;replace H:=H.o.e j;replace F:=F.o.e j;replace BG:=BG.o.e j;replace u:=u.o.e j;replace G:=G.o.t j;clear j R T W q3 q4 q5 q6 q7 q8 g0 g1 g2 g3 g4 g5 g6 g7 g8 z0 z1 z2 z3 z4 z5 z6 z7 z8 k0 k1 k2 k3 k4 k5 k6 k7 k8;obtain⟨R,T,W,q3,q4,q5,q6,q7,q8⟩:=nine F.o;obtain⟨g0,g1,g2,g3,g4,g5,g6,g7,g8⟩:=nine BG.o;obtain⟨z0,z1,z2,z3,z4,z5,z6,z7,z8⟩:=u.o.free9;obtain⟨k0,k1,k2,k3,k4,k5,k6,k7,k8⟩:=nine u.o)
  | (go_at_call 116
     refine(HC.o▸De A5 c5 ts fr _ b8.o U).mono ?_;rintro e w9 ⟨rfl,rfl⟩))
 refine Fi (v1:=Zq) results78 rfl rfl u.o (λwz hz=>?_);have WQ:=J (Lit.wrote (N:=w.heap.size) (M:=w.heap.size+3) hz U U);clear hz;rw[HF.o];exact⟨b,none,0,rfl,zR _,zO _,rfl,H.o.lit OF.o WQ.o,Row.nil _ _,λ_ h=>absurd rfl h,WQ.o.ext G.o (zR _),λ_ _ _ h=>h⟩):P:=h
theorem RD{P:Prop}(h:P:=by
 obtain⟨G,F,BG,u,aw⟩:=ES w b.cells #[I kd,I nm,I sq,I sa,I sb,I ln,I bs,.string (Ah ap),.slice A es.length c];go_enter func78,ntmps78;go_upto_region 1 with fail;generalize (((w.alloc (.cells b.cells 28)).alloc (.cells #[I kd,I nm,I sq,I sa,I sb,I ln,I bs,.string (Ah ap),.slice A es.length c] 115)).alloc (.cells Yq 28))=u1 at *;replace H:=H.o.e G.o;obtain⟨R,T,W,q3,q4,q5,q6,q7,q8⟩:=nine F.o;obtain⟨g0,g1,g2,g3,g4,g5,g6,g7,g8⟩:=nine BG.o;obtain⟨z0,z1,z2,z3,z4,z5,z6,z7,z8⟩:=u.o.free9;obtain⟨k0,k1,k2,k3,k4,k5,k6,k7,k8⟩:=nine u.o;have ci:=DJ;go_wp2_with (first
  | (go_at_call 59
     refine(bq.o▸Cy b _ H.o.r aq H.o.f).mono ?_;rintro e w2 ⟨rfl,j⟩;replace H:=H.o.e j;replace F:=F.o.e j;replace BG:=BG.o.e j;replace u:=u.o.e j;replace G:=G.o.t j;clear j R T W q3 q4 q5 q6 q7 q8 g0 g1 g2 g3 g4 g5 g6 g7 g8 z0 z1 z2 z3 z4 z5 z6 z7 z8 k0 k1 k2 k3 k4 k5 k6 k7 k8;obtain⟨R,T,W,q3,q4,q5,q6,q7,q8⟩:=nine F.o;obtain⟨g0,g1,g2,g3,g4,g5,g6,g7,g8⟩:=nine BG.o;obtain⟨z0,z1,z2,z3,z4,z5,z6,z7,z8⟩:=u.o.free9;obtain⟨k0,k1,k2,k3,k4,k5,k6,k7,k8⟩:=nine u.o))
 refine Fi (v1:=Zq) results78 rfl rfl u.o (λwz hz=>?_);have WQ:=J (Lit.wrote (N:=w.heap.size) (M:=w.heap.size+3) hz U U);clear hz;rw[HF.o];exact⟨b,none,0,rfl,zR _,zO _,rfl,H.o.lit OF.o WQ.o,Row.nil _ _,λ_ h=>absurd rfl h,WQ.o.ext G.o (zR _),λ_ _ _ h=>h⟩):P:=h
theorem Zs{s:St}(h:VS s)(m:Int):AY s m<=s.log.length:=by
 unfold AY;split
 .exact Int.le_refl _
 .cases hm:B9 s.marks m with
  | none=>simp
  | some n=>exact(h.mks _ (Ig hm)).2.2.2
theorem Pe{s:St}(h:VS s)(j:List Int):Cv s j<=s.log.length:=by
 rcases(Jb s j j 0).2.2 with h1|⟨m,_,_,h1⟩
 .unfold Cv;rw[h1];omega
 .unfold Cv;rw[h1];exact Zs h m
theorem N8{s:St}(h:VS s)(n:Int):Aq (Bm s.log s.stable n) s.self<=s.pend.length:=IF (Ft (Cm.2 h)) n
theorem G5{W:World}{v:Value}{l:List (Int×Int)}:∀q∈l,AA.ok q/\∀r∈AA.inn q,Row W r.1 r.2/\Apt v r:=λ_ _=>⟨trivial,λr h=>by simp[AA] at h⟩
section
variable {w:World} {b:BM} {N M:Nat} {A:Option Addr} {c:Nat}
theorem BM.Ok.withMarks(h:b.Ok w){l:List (Int×Int)}(q:Row w A (AA.cells l))(j:l.length<=100000):({b with Am:=A,cm:=c,marks:=l}:BM).Ok w:=
 ⟨⟨h.r.vs,h.r.log,h.r.pend,q,h.r.fls⟩,⟨h.f.vs,h.f.vx,h.f.log,h.f.lp,h.f.pend,h.f.pp,j,h.f.fls,h.f.fl,h.f.cl⟩,h.cp⟩
theorem BM.Off.withMarks(h:b.Off N M){l:List (Int×Int)}(j:OffR N M A (AA.cells l)):({b with Am:=A,cm:=c,marks:=l}:BM).Off N M:=⟨h.vs,h.vi,h.log,h.pend,j,h.fls,h.fi⟩
end
def Er(s:St)(fr:Int)(m:Msg):Cs:=if (AD s&&AE s)=true/\m.num=s.base/\AG (Ar s.views).2 fr=true/\m.first<=s.log.length then Cf ⟨{s with marks:=CF s.marks fr m.first},[],[]⟩ else ⟨s,[],[]⟩
theorem UV(b:BM)(fr kd nm sq sa sb ln bs:Int)(ap:List UInt8)(A:Option Addr)(c:Nat)(es:List Ent)(w:World)(h:b.Ok w)(hv:VS b.st)(cj:fr≠b.self)(ck:0<=ln)(cy:b.marks.length<=1000) :
  Calls prog 78 #[.agg b.cells,I fr,.agg #[I kd,I nm,I sq,I sa,I sb,I ln,I bs,.string (Ah ap),.slice A es.length c]] w (RSd w b (Er b.st fr ⟨kd,nm,ln,sb,ap,es⟩).s (Er b.st fr ⟨kd,nm,ln,sb,ap,es⟩).dl):=by
 have H:=J h;have OF:=J h.far3;have VV:=J hv;have aq:0<b.vs.length:=by have:=(DY hv.vs).1;rw[show b.st.views=vws b.vs from rfl,AW] at this;exact this
 obtain⟨⟨tn,ts⟩,ht⟩:∃v,Ar (vws b.vs)=v:=⟨_,rfl⟩;have HT:=J ht;have cn:=Eu h.f.vx;rw[ht] at cn;simp only at cn;obtain⟨M,hM⟩:∃m,m=(⟨kd,nm,ln,sb,ap,es⟩:Msg):=⟨_,rfl⟩;rw[<-hM];have HM:=J hM;have ce:=J cj;clear h hv ht hM cj;cases hld:(AD b.st&&AE b.st) with
 | false=>
  have bq:=J hld;have HF:O (Er b.st fr M=⟨b.st,[],[]⟩):=J (if_neg (λh=>by rw[hld] at h;exact absurd h.1 zd));exact RD
 | true=>
  have bq:=J hld;by_cases h1:nm=b.base;rotate_left
  .have d1:(nm != b.base)=true:=by simpa using h1
   have H1:=J h1;clear h1;have HF:O (Er b.st fr M=⟨b.st,[],[]⟩):=J (if_neg (λh=>H1.o (by have:=h.2.1;rw[HM.o] at this;exact this)));exact RD
  have d1:(nm != b.base)=false:=by simpa using h1
  have H1:=J h1;clear h1;cases hc:AG ts fr with
  | false=>
   have HC:=J hc;have HF:O (Er b.st fr M=⟨b.st,[],[]⟩):=J (if_neg (λh=>by have:=h.2.2.1;rw[show b.st.views=vws b.vs from rfl,HT.o,hc] at this;cases this));exact RU
  | true=>
   have HC:=J hc;by_cases h2:ln<=(b.log.length:Int);rotate_left
   .have d2:decide ((b.log.length:Int)<ln)=true:=decide_eq_true U;have H2:=J h2;clear h2;have HF:O (Er b.st fr M=⟨b.st,[],[]⟩):=J (if_neg (λh=>H2.o (by have:=h.2.2.2;rw[HM.o] at this;exact this)));exact RU
   have d2:decide ((b.log.length:Int)<ln)=false:=decide_eq_false U;have H2:=J h2;clear h2;obtain⟨MK,cb⟩:∃l,l=LE b.st fr ln:=⟨_,rfl⟩;have co:=J cb;have cd:O (MK=CF b.st.marks fr ln):=J (by rw[cb];exact Wv VV.o ce.o ck);clear cb;have bn:AD b.st=true/\AE b.st=true:=by simpa using hld
   have a9:O (VS {b.st with marks:=MK}):=J (by rw[cd.o];exact VV.o.ack bn.1 bn.2 ce.o (by rw[show b.st.views=vws b.vs from rfl,HT.o];exact hc) ck H2.o);have bc:O (Er b.st fr M=Be ⟨{b.st with marks:=MK},[],[]⟩ (Cv {b.st with marks:=MK} ts)):=J (by
    have e:Er b.st fr M=Cf ⟨{b.st with marks:=MK},[],[]⟩:=by rw[cd.o,HM.o];exact if_pos ⟨hld,H1.o,by rw[show b.st.views=vws b.vs from rfl,HT.o];exact hc,H2.o⟩
    rw[e,JM a9.o bn.2];rw[show (Ar ({b.st with marks:=MK}:St).views).2=ts from by show (Ar (vws b.vs)).2=ts;rw[HT.o]])
   clear hld hc bn;obtain⟨G,F,BG,u,aw⟩:=ES w b.cells #[I kd,I nm,I sq,I sa,I sb,I ln,I bs,.string (Ah ap),.slice A es.length c];go_enter func78,ntmps78;go_upto_region 1 with fail;generalize (((w.alloc (.cells b.cells 28)).alloc (.cells #[I kd,I nm,I sq,I sa,I sb,I ln,I bs,.string (Ah ap),.slice A es.length c] 115)).alloc (.cells Yq 28))=u1 at *;replace H:=H.o.e G.o;obtain⟨R,T,W,q3,q4,q5,q6,q7,q8⟩:=nine F.o;obtain⟨g0,g1,g2,g3,g4,g5,g6,g7,g8⟩:=nine BG.o;obtain⟨z0,z1,z2,z3,z4,z5,z6,z7,z8⟩:=u.o.free9;obtain⟨k0,k1,k2,k3,k4,k5,k6,k7,k8⟩:=nine u.o;have ci:=DJ;go_upto_region 3 with (first
    | (go_at_call 59
       refine(bq.o▸Cy b _ H.o.r aq H.o.f).mono ?_;rintro e w2 ⟨rfl,j⟩;replace H:=H.o.e j;replace F:=F.o.e j;replace BG:=BG.o.e j;replace u:=u.o.e j;replace G:=G.o.t j;clear j R T W q3 q4 q5 q6 q7 q8 g0 g1 g2 g3 g4 g5 g6 g7 g8 z0 z1 z2 z3 z4 z5 z6 z7 z8 k0 k1 k2 k3 k4 k5 k6 k7 k8;obtain⟨R,T,W,q3,q4,q5,q6,q7,q8⟩:=nine F.o;obtain⟨g0,g1,g2,g3,g4,g5,g6,g7,g8⟩:=nine BG.o;obtain⟨z0,z1,z2,z3,z4,z5,z6,z7,z8⟩:=u.o.free9;obtain⟨k0,k1,k2,k3,k4,k5,k6,k7,k8⟩:=nine u.o)
    | (go_at_call 57
       refine(Cb b _ H.o.r aq H.o.f tn ts HT.o).mono ?_;rintro e w3 ⟨A5,c5,rfl,_,_,bp,j⟩;have b8:=J bp;clear bp;replace H:=H.o.e j;replace F:=F.o.e j;replace BG:=BG.o.e j;replace u:=u.o.e j;replace G:=G.o.t j;clear j R T W q3 q4 q5 q6 q7 q8 g0 g1 g2 g3 g4 g5 g6 g7 g8 z0 z1 z2 z3 z4 z5 z6 z7 z8 k0 k1 k2 k3 k4 k5 k6 k7 k8;obtain⟨R,T,W,q3,q4,q5,q6,q7,q8⟩:=nine F.o;obtain⟨g0,g1,g2,g3,g4,g5,g6,g7,g8⟩:=nine BG.o;obtain⟨z0,z1,z2,z3,z4,z5,z6,z7,z8⟩:=u.o.free9;obtain⟨k0,k1,k2,k3,k4,k5,k6,k7,k8⟩:=nine u.o)
    | (go_at_call 116
       refine(HC.o▸De A5 c5 ts fr _ b8.o U).mono ?_;rintro e w9 ⟨rfl,rfl⟩))
   clear R T W q3 q4 q5 q6 q7 q8 g0 g1 g2 g3 g4 g5 g6 g7 g8 z0 z1 z2 z3 z4 z5 z6 z7 z8 k0 k1 k2 k3 k4 k5 k6 k7 k8;have HN:=F.o.n9;have HG:=λw' (x:V w3 w')=>nine (BG.o.ext x);simp only[N9] at HN;obtain⟨ak,ch⟩:∃x,AY b.st fr=x:=⟨_,rfl⟩;have b0:=J ch;clear ch;obtain⟨mx,cw⟩:∃x,max ln ak=x:=⟨_,rfl⟩;have cq:=J cw;obtain⟨X,hX⟩:∃x,x=Bk Prod.fst (fr,mx):=⟨_,rfl⟩;have HX:=J hX;clear hX;have cg:O (MK=En (fr,ln) (b.marks.foldl X ([],false))):=J (by rw[co.o,HX.o,<-cq.o,<-b0.o];rfl);go_wp2;go_loopw [8,9,10] (λs d i wr=>∃(k:Nat) (A':Option Addr) (c':Nat) (out:List (Int×Int)) (dn:Bool),k<=b.marks.length/\s=.slice A' out.length c'/\d=.bool dn/\i=I k/\out.length<=2*k/\O ((b.marks.take k).foldl X ([],false)=(out,dn))/\O (AA.OB wr w3.heap.size (.slice A' out.length c') out)/\O (V w3 wr)) (λ_ _ i _=>b.marks.length - (intOf i).toNat)
   case atStart=>exact⟨0,none,0,[],false,zO _,rfl,rfl,rfl,zj,J rfl,J (Elem.OB.nil _ _),J (V.refl _)⟩
   case round=>
    obtain⟨k,A1,c1,out,dn,hk,rfl,rfl,rfl,bn,HS,HO,XE⟩:=hrel;obtain⟨w4,rfl⟩:∃x,x=wr:=⟨wr,rfl⟩;have bt:=(HN _ XE.o).2.2.2.2.2.2.2.1;by_cases cu:k<b.marks.length;rotate_left
    .have ct:k=b.marks.length:=U;subst ct;rw[List.take_length] at HS;have bw:w.heap.size+3<=w3.heap.size:=u.o.lt;have cx:=(HG _ XE.o).2.2.2.2.2.1;have bu:=F.o.e XE.o;cases dn with
     | true=>
      have X9:=XE;obtain⟨R,T,W,q3,q4,q5,q6,q7,q8⟩:=nine bu.o;obtain⟨y0,y1,y2,y3,y4,y5,y6,y7,y8⟩:=bu.o.free9;clear bt;go_upto_region 17 with fail;clear R T W q3 q4 q5 q6 q7 q8 y0 y1 y2 y3 y4 y5 y6 y7 y8;have be:O (out=MK):=J (by rw[cg.o,HS.o];rfl);replace H:=H.o.e X9.o;replace F:=F.o.e X9.o;replace u:=u.o.e X9.o;replace G:=G.o.t X9.o;have cc:w.heap.size+3<=w3.heap.size:=bw;have bg:O (OffR w.heap.size (w.heap.size+3) A1 (AA.cells out)):=J (DP HO.o.1 cc);have az:O (Row w4 A1 (AA.cells out)):=J (by obtain⟨_,_,he,_,_,hr⟩:=HO.o.slice;cases he;exact hr.1);have K3:O (Wrote w.heap.size w4 (w4.setCell (Y w 7) (.slice A1 out.length c1))):=J (Wrote.set w.heap.size 7 _ _);have L3:O (Lit w.heap.size (w.heap.size+3) w4 (w4.setCell (Y w 7) (.slice A1 out.length c1))):=J (Lit.wrote K3.o (zR _) U);have B3:O (BIs (w4.setCell (Y w 7) (.slice A1 out.length c1)) w.heap.size #[I b.self,.slice b.Av b.vs.length b.cv,I b.base,.slice b.Al b.log.length b.cl,I b.stable,I b.sent,.slice b.Ap b.pend.length b.cp,.slice A1 out.length c1,.slice b.Af b.fls.length b.cf] 28):=J (F.o.set 7 _);replace H:=J (H.o.lit OF.o L3.o);replace az:=J (az.o.lit bg.o L3.o);replace u:=J (u.o.wrote U K3.o);replace G:=J (L3.o.ext G.o (zR _));clear K3 L3 F;generalize (w4.setCell (Y w 7) (.slice A1 out.length c1))=w7 at *;obtain⟨R,T,W,q3,q4,q5,q6,q7,q8⟩:=nine B3.o;have H2:O (({b with Am:=A1,cm:=c1,marks:=out}:BM).Ok w7):=J (H.o.withMarks az.o U);have b9:O (({b with Am:=A1,cm:=c1,marks:=out}:BM).Off w.heap.size (w.heap.size+3)):=J (OF.o.withMarks bg.o);have ac:O (({b with Am:=A1,cm:=c1,marks:=out}:BM).st={b.st with marks:=MK}):=J (by rw[<-be.o];rfl);rw[<-ac.o] at a9 bc;obtain⟨bi,an⟩:∃x,Cv ({b with Am:=A1,cm:=c1,marks:=out}:BM).st ts=x:=⟨_,rfl⟩;have b1:O (Cv ({b with Am:=A1,cm:=c1,marks:=out}:BM).st ts=bi):=J an;rw[an] at bc;clear an;go_wp2_with fail;refine(JT ({b with Am:=A1,cm:=c1,marks:=out}:BM) _ tn ts H2.o aq HT.o VV.o.st0 (by have:=Pe a9.o ts;exact this) (N8 a9.o _)).mono ?_;rw[b1.o];rintro e w8 ⟨b2,A7,c7,rfl,bj,ca,bo,bl,bk,bm,bb,ba⟩;have hz:w.heap.size+3<=w7.heap.size:=u.o.lt;have ae:=J bo;have b6:=J bl;have bd:=J bk;have ay:=J bm;have b5:=J ba;have b4:=J (ba _ _ hz b9.o);replace u:=u.o.e bb;replace G:=G.o.t bb;clear bo bl bk bm ba bb R T W q3 q4 q5 q6 q7 q8;obtain⟨z0,z1,z2,z3,z4,z5,z6,z7,z8⟩:=u.o.free9;obtain⟨k0,k1,k2,k3,k4,k5,k6,k7,k8⟩:=nine u.o;unfold BM.cells;obtain⟨D,hD⟩:∃x,x=(Be ⟨({b with Am:=A1,cm:=c1,marks:=out}:BM).st,[],[]⟩ bi).dl:=⟨_,rfl⟩;rw[<-hD] at bj bd ay;rw[<-hD];have b3:=J hD;clear hD;go_wp2;refine Fi (v1:=.slice A7 D.length c7) results78 rfl rfl u.o (λwz hz=>?_);have WQ:=J (Lit.wrote (N:=w.heap.size) (M:=w.heap.size+3) hz U U);clear hz;rw[bc.o,<-b3.o];exact⟨b2,A7,c7,rfl,bj,ca,ae.o,b6.o.lit b4.o WQ.o,bd.o.lit (ay.o.offR hz) WQ.o,λp hx hq=>by have:=ay.o p hx hq;omega,WQ.o.ext G.o (zR _),λN M hM hb=>b5.o N M U (hb.withMarks (DP HO.o.1 U))⟩
     | false=>
      go_upto_region 17 with (first
       | (at_builtin
          have aa:O (Row (w4.alloc (.cells #[I fr,I ln] 123)) (some (Y w4 0)) (AA.cells [(fr,ln)])):=J (Gg _ _ _);have OW:=J (Elem.OB.ext (HO.o) (V.new w4 (.cells #[I fr,I ln] 123)));have XW:=J (V.trans (XE.o) (V.new w4 (.cells #[I fr,I ln] 123)));refine By AA rfl (.tmp 80) (.tmp 85) rfl _ w3.heap.size _ out zi _ 1 1 [(fr,ln)] zi rfl aa.o OW.o G5 (by  omega) XW.o.size ?_;intro bx wa ho hg hs;obtain⟨y,hL⟩:∃z,z=out++[(fr,ln)]:=⟨_,rfl⟩;rw[<-hL] at ho;have aj:=J hL;have af:O (y.length=out.length+1):=J (by rw[hL];simp);clear hL;have ah:O (V w3 wa):=J (hg.below XW.o XW.o.size (λq hq=>(OW.o.1.lt q hq).1));obtain⟨K,Q,rfl,_,_,_⟩:=ho.slice;have ab:=J ho;clear ho hg hs aa OW XW;have bv:=F.o.e ah.o;obtain⟨R,T,W,q3,q4,q5,q6,q7,q8⟩:=nine bv.o;obtain⟨y0,y1,y2,y3,y4,y5,y6,y7,y8⟩:=bv.o.free9))
      have X9:=ah;clear bt;clear R T W q3 q4 q5 q6 q7 q8 y0 y1 y2 y3 y4 y5 y6 y7 y8;have be:O (y=MK):=J (by rw[cg.o,HS.o];rw[aj.o];rfl);replace H:=H.o.e X9.o;replace F:=F.o.e X9.o;replace u:=u.o.e X9.o;replace G:=G.o.t X9.o;have cc:w.heap.size+3<=w3.heap.size:=bw;have bg:O (OffR w.heap.size (w.heap.size+3) K (AA.cells y)):=J (DP ab.o.1 cc);have az:O (Row wa K (AA.cells y)):=J (by obtain⟨_,_,he,_,_,hr⟩:=ab.o.slice;cases he;exact hr.1);have K3:O (Wrote w.heap.size wa (wa.setCell (Y w 7) (.slice K y.length Q))):=J (Wrote.set w.heap.size 7 _ _);have L3:O (Lit w.heap.size (w.heap.size+3) wa (wa.setCell (Y w 7) (.slice K y.length Q))):=J (Lit.wrote K3.o (zR _) U);have B3:O (BIs (wa.setCell (Y w 7) (.slice K y.length Q)) w.heap.size #[I b.self,.slice b.Av b.vs.length b.cv,I b.base,.slice b.Al b.log.length b.cl,I b.stable,I b.sent,.slice b.Ap b.pend.length b.cp,.slice K y.length Q,.slice b.Af b.fls.length b.cf] 28):=J (F.o.set 7 _);replace H:=J (H.o.lit OF.o L3.o);replace az:=J (az.o.lit bg.o L3.o);replace u:=J (u.o.wrote U K3.o);replace G:=J (L3.o.ext G.o (zR _));clear K3 L3 F;generalize (wa.setCell (Y w 7) (.slice K y.length Q))=w7 at *;obtain⟨R,T,W,q3,q4,q5,q6,q7,q8⟩:=nine B3.o;have H2:O (({b with Am:=K,cm:=Q,marks:=y}:BM).Ok w7):=J (H.o.withMarks az.o (by have:=af.o;omega));have b9:O (({b with Am:=K,cm:=Q,marks:=y}:BM).Off w.heap.size (w.heap.size+3)):=J (OF.o.withMarks bg.o);have ac:O (({b with Am:=K,cm:=Q,marks:=y}:BM).st={b.st with marks:=MK}):=J (by rw[<-be.o];rfl);rw[<-ac.o] at a9 bc;obtain⟨bi,an⟩:∃x,Cv ({b with Am:=K,cm:=Q,marks:=y}:BM).st ts=x:=⟨_,rfl⟩;have b1:O (Cv ({b with Am:=K,cm:=Q,marks:=y}:BM).st ts=bi):=J an;rw[an] at bc;clear an;go_wp2_with fail;refine(JT ({b with Am:=K,cm:=Q,marks:=y}:BM) _ tn ts H2.o aq HT.o VV.o.st0 (by have:=Pe a9.o ts;exact this) (N8 a9.o _)).mono ?_;rw[b1.o];rintro e w8 ⟨b2,A7,c7,rfl,bj,ca,bo,bl,bk,bm,bb,ba⟩;have hz:w.heap.size+3<=w7.heap.size:=u.o.lt;have ae:=J bo;have b6:=J bl;have bd:=J bk;have ay:=J bm;have b5:=J ba;have b4:=J (ba _ _ hz b9.o);replace u:=u.o.e bb;replace G:=G.o.t bb;clear bo bl bk bm ba bb R T W q3 q4 q5 q6 q7 q8;obtain⟨z0,z1,z2,z3,z4,z5,z6,z7,z8⟩:=u.o.free9;obtain⟨k0,k1,k2,k3,k4,k5,k6,k7,k8⟩:=nine u.o;unfold BM.cells;obtain⟨D,hD⟩:∃x,x=(Be ⟨({b with Am:=K,cm:=Q,marks:=y}:BM).st,[],[]⟩ bi).dl:=⟨_,rfl⟩;rw[<-hD] at bj bd ay;rw[<-hD];have b3:=J hD;clear hD;go_wp2;refine Fi (v1:=.slice A7 D.length c7) results78 rfl rfl u.o (λwz hz=>?_);have WQ:=J (Lit.wrote (N:=w.heap.size) (M:=w.heap.size+3) hz U U);clear hz;rw[bc.o,<-b3.o];exact⟨b2,A7,c7,rfl,bj,ca,ae.o,b6.o.lit b4.o WQ.o,bd.o.lit (ay.o.offR hz) WQ.o,λp hx hq=>by have:=ay.o p hx hq;omega,WQ.o.ext G.o (zR _),λN M hM hb=>b5.o N M U (hb.withMarks (DP ab.o.1 U))⟩
    obtain⟨mb,mo,ma,ml,hA,hv,HV⟩:=Ln H.o.r.marks cu;rw[hA] at bt;obtain⟨v0,v1⟩:=hv _ XE.o;have ac:=J (Ii (f:=X) (a:=(([]:List (Int×Int)),false)) HV);rw[HS.o] at ac;go_upto_region 9 with fail;clear bt v0 v1 hA;have X5:O (V w4 (w4.alloc (.cells #[I ma,I ml] 123))):=J (V.new _ _);have BE:O (BIs (w4.alloc (.cells #[I ma,I ml] 123)) w4.heap.size #[I ma,I ml] 123):=J (BIs.new _ _ _);have HQ:O (∀q,(Value.slice A1 out.length c1).ownBlock=some q->q<w4.heap.size):=J (λq hq=>(HO.o.1.lt q hq).2);generalize (w4.alloc (.cells #[I ma,I ml] 123))=w5 at *;generalize w4.heap.size=re at *;have ad:=BE.o.n2;have bh:=XE.o.t X5.o;have bf:=HO.o.e X5.o;clear XE HO X5 hv;cases dn with
    | true=>
     by_cases ai:ma=fr
     .have hd:(ma != fr)=false:=by simpa using ai
      have ae:O ((b.marks.take (k+1)).foldl X ([],false)=(out,true)):=J (by rw[ac.o,HX.o];simp[Bk,ai]);clear ac;have t0:=(ad _ (V.refl _)).1;have t1:=(ad _ (V.refl _)).2.1;go_wp2;go_roundw
      case rel=>exact⟨k+1,A1,c1,out,true,U,rfl,rfl,by go_num,by  omega,ae,bf,bh⟩
      case measure=>simp[intOf];omega
     .have hd:(ma != fr)=true:=by simpa using ai
      have ae:O ((b.marks.take (k+1)).foldl X ([],false)=(out++[(ma,ml)],true)):=J (by rw[ac.o,HX.o];simp[Bk,ai]);clear ac;have t0:=(ad _ (V.refl _)).1;have t1:=(ad _ (V.refl _)).2.1;go_wp2_with (first
       | (at_builtin
          have aa:O (Row (w5.alloc (.cells #[I ma,I ml] 123)) (some (Y w5 0)) (AA.cells [(ma,ml)])):=J (Gg _ _ _);have OW:=J (Elem.OB.ext (bf.o) (V.new w5 (.cells #[I ma,I ml] 123)));have XW:=J (V.trans (bh.o) (V.new w5 (.cells #[I ma,I ml] 123)));refine By AA rfl (.tmp 74) (.tmp 76) rfl _ w3.heap.size _ out zi _ 1 1 [(ma,ml)] zi rfl aa.o OW.o G5 (by  omega) XW.o.size ?_;intro bz wb ho hg hs;obtain⟨ag,hL⟩:∃z,z=out++[(ma,ml)]:=⟨_,rfl⟩;rw[<-hL] at ho;have al:=J hL;have ao:O (ag.length=out.length+1):=J (by rw[hL];simp);clear hL;have au:O (V w3 wb):=J (hg.below XW.o XW.o.size (λq hq=>(OW.o.1.lt q hq).1));obtain⟨ar,av,rfl,_,_,_⟩:=ho.slice;have am:=J ho;clear ho hg hs aa OW XW))
      clear t0 t1;go_roundw
      case rel=>exact⟨k+1,ar,av,ag,true,U,rfl,rfl,by go_num,by have:=ao.o;omega,J (by rw[al.o];exact ae.o),am,au⟩
      case measure=>simp[intOf];omega
    | false=>
     by_cases br:fr<=ma
     .have cr:decide (fr<=ma)=true:=decide_eq_true br;by_cases ai:ma=fr
      .have hd:(ma != fr)=false:=by simpa using ai
       have ae:O ((b.marks.take (k+1)).foldl X ([],false)=(out++[(fr,mx)],true)):=J (by rw[ac.o,HX.o];simp[Bk,ai]);clear ac;have t0:=(ad _ (V.refl _)).1;have t1:=(ad _ (V.refl _)).2.1;go_upto_region 10 with fail;clear t0 t1;refine eD 12 bh.o λhH=>?_;refine ec 0 ?_;refine eb 4 ?_;refine eE 6 (b0.o▸G9 b fr _ (H.o.r.ext hH) H.o.f) ?_;rintro _ w6 ⟨rfl,hx⟩;have b7:=bf.o.e (zW.trans hx);have ax:=J (zW.trans hx);refine⟨_,rfl,hH.trans hx,λhH=>?_⟩;clear hx;refine eb 7 ?_;refine eF 9 ?_;refine eJ 9 (d:=some 68) (w':=(w6.alloc (.cells #[I fr,I mx] 123))) (hH.trans (V.new _ _)) λhH=>?_;have aa:O (Row (w6.alloc (.cells #[I fr,I mx] 123)) (some (Y w6 0)) (AA.cells [(fr,mx)])):=J (Gg _ _ _);have OW:=J (Elem.OB.ext b7.o (V.new w6 (.cells #[I fr,I mx] 123)));have T9:=J (ad _ (ax.o.trans (V.new w6 (.cells #[I fr,I mx] 123)))).1;have S9:=J (ad _ (ax.o.trans (V.new w6 (.cells #[I fr,I mx] 123)))).2.1;have Z9:=J (Nat.lt_of_lt_of_le BE.o.lt (ax.o.trans (V.new w6 (.cells #[I fr,I mx] 123))).size);generalize (w6.alloc (.cells #[I fr,I mx] 123))=v9 at *;refine eF 10 ?_;refine eK 10 69 AA (.tmp 59) (.tmp 68) rfl rfl rfl rfl v9 w3.heap.size _ out zi _ 1 1 [(fr,mx)] zi rfl aa.o zd OW.o G5 U hH.size ?_;intro bx wa ho hg hs;have T0:=J ((G8 hg Z9.o (λq hq=>Nat.ne_of_lt (HQ.o q hq))).trans T9.o);have T1:=J ((G8 hg Z9.o (λq hq=>Nat.ne_of_lt (HQ.o q hq))).trans S9.o);obtain⟨y,hL⟩:∃z,z=out++[(fr,mx)]:=⟨_,rfl⟩;rw[<-hL] at ho;have aj:=J hL;have af:O (y.length=out.length+1):=J (by rw[hL];simp);clear hL;have ah:O (V w3 wa):=J (hg.below hH hH.size (λq hq=>(OW.o.1.lt q hq).1));obtain⟨K,Q,rfl,_,_,_⟩:=ho.slice;have ab:=J ho;clear ho hg hs aa OW hH;refine⟨ah.o,λhH=>?_⟩;refine ea 11 ?_;refine eA ?_;clear hH;have t0:wa.cell? (Z re 0)=some (I ma):=T0.o;have t1:wa.cell? (Z re 1)=some (I ml):=T1.o;go_wp2;go_roundw
       case rel=>exact⟨k+1,K,Q,y,true,U,rfl,rfl,by go_num,by have:=af.o;omega,J (by rw[aj.o];exact ae.o),ab,ah⟩
       case measure=>simp[intOf];omega
      .have hd:(ma != fr)=true:=by simpa using ai
       have ae:O ((b.marks.take (k+1)).foldl X ([],false)=(out++[(fr,mx)]++[(ma,ml)],true)):=J (by rw[ac.o,HX.o];simp[Bk,br,ai]);clear ac;have t0:=(ad _ (V.refl _)).1;have t1:=(ad _ (V.refl _)).2.1;go_upto_region 10 with fail;clear t0 t1;refine eD 12 bh.o λhH=>?_;refine ec 0 ?_;refine eb 4 ?_;refine eE 6 (b0.o▸G9 b fr _ (H.o.r.ext hH) H.o.f) ?_;rintro _ w6 ⟨rfl,hx⟩;have b7:=bf.o.e (zW.trans hx);have ax:=J (zW.trans hx);refine⟨_,rfl,hH.trans hx,λhH=>?_⟩;clear hx;refine eb 7 ?_;refine eF 9 ?_;refine eJ 9 (d:=some 68) (w':=(w6.alloc (.cells #[I fr,I mx] 123))) (hH.trans (V.new _ _)) λhH=>?_;have aa:O (Row (w6.alloc (.cells #[I fr,I mx] 123)) (some (Y w6 0)) (AA.cells [(fr,mx)])):=J (Gg _ _ _);have OW:=J (Elem.OB.ext b7.o (V.new w6 (.cells #[I fr,I mx] 123)));have T9:=J (ad _ (ax.o.trans (V.new w6 (.cells #[I fr,I mx] 123)))).1;have S9:=J (ad _ (ax.o.trans (V.new w6 (.cells #[I fr,I mx] 123)))).2.1;have Z9:=J (Nat.lt_of_lt_of_le BE.o.lt (ax.o.trans (V.new w6 (.cells #[I fr,I mx] 123))).size);generalize (w6.alloc (.cells #[I fr,I mx] 123))=v9 at *;refine eF 10 ?_;refine eK 10 69 AA (.tmp 59) (.tmp 68) rfl rfl rfl rfl v9 w3.heap.size _ out zi _ 1 1 [(fr,mx)] zi rfl aa.o zd OW.o G5 U hH.size ?_;intro bx wa ho hg hs;have T0:=J ((G8 hg Z9.o (λq hq=>Nat.ne_of_lt (HQ.o q hq))).trans T9.o);have T1:=J ((G8 hg Z9.o (λq hq=>Nat.ne_of_lt (HQ.o q hq))).trans S9.o);obtain⟨y,hL⟩:∃z,z=out++[(fr,mx)]:=⟨_,rfl⟩;rw[<-hL] at ho;have aj:=J hL;have af:O (y.length=out.length+1):=J (by rw[hL];simp);clear hL;have ah:O (V w3 wa):=J (hg.below hH hH.size (λq hq=>(OW.o.1.lt q hq).1));obtain⟨K,Q,rfl,_,_,_⟩:=ho.slice;have ab:=J ho;clear ho hg hs aa OW hH;refine⟨ah.o,λhH=>?_⟩;refine ea 11 ?_;refine eA ?_;clear hH;have t0:wa.cell? (Z re 0)=some (I ma):=T0.o;have t1:wa.cell? (Z re 1)=some (I ml):=T1.o;go_wp2_with (first
        | (at_builtin
           have aa:O (Row (wa.alloc (.cells #[I ma,I ml] 123)) (some (Y wa 0)) (AA.cells [(ma,ml)])):=J (Gg _ _ _);have OW:=J (Elem.OB.ext (ab.o) (V.new wa (.cells #[I ma,I ml] 123)));have XW:=J (V.trans (ah.o) (V.new wa (.cells #[I ma,I ml] 123)));refine By AA rfl (.tmp 74) (.tmp 76) rfl _ w3.heap.size _ y zi _ 1 1 [(ma,ml)] zi rfl aa.o OW.o G5 (by have:=af.o;omega) XW.o.size ?_;intro bz wb ho hg hs;obtain⟨ag,hL⟩:∃z,z=y++[(ma,ml)]:=⟨_,rfl⟩;rw[<-hL] at ho;have al:=J hL;have ao:O (ag.length=y.length+1):=J (by rw[hL];simp);clear hL;have au:O (V w3 wb):=J (hg.below XW.o XW.o.size (λq hq=>(OW.o.1.lt q hq).1));obtain⟨ar,av,rfl,_,_,_⟩:=ho.slice;have am:=J ho;clear ho hg hs aa OW XW))
       clear t0 t1;go_roundw
       case rel=>exact⟨k+1,ar,av,ag,true,U,rfl,rfl,by go_num,by have:=ao.o;have:=af.o;omega,J (by rw[al.o,aj.o];exact ae.o),am,au⟩
       case measure=>simp[intOf];omega
     .have cr:decide (fr<=ma)=false:=decide_eq_false br;have ai:¬ma=fr:=U;have hd:(ma != fr)=true:=by simpa using ai
      have ae:O ((b.marks.take (k+1)).foldl X ([],false)=(out++[(ma,ml)],false)):=J (by rw[ac.o,HX.o];simp[Bk,br,ai]);clear ac;have t0:=(ad _ (V.refl _)).1;have t1:=(ad _ (V.refl _)).2.1;go_wp2_with (first
       | (at_builtin
          have aa:O (Row (w5.alloc (.cells #[I ma,I ml] 123)) (some (Y w5 0)) (AA.cells [(ma,ml)])):=J (Gg _ _ _);have OW:=J (Elem.OB.ext (bf.o) (V.new w5 (.cells #[I ma,I ml] 123)));have XW:=J (V.trans (bh.o) (V.new w5 (.cells #[I ma,I ml] 123)));refine By AA rfl (.tmp 74) (.tmp 76) rfl _ w3.heap.size _ out zi _ 1 1 [(ma,ml)] zi rfl aa.o OW.o G5 (by  omega) XW.o.size ?_;intro bz wb ho hg hs;obtain⟨ag,hL⟩:∃z,z=out++[(ma,ml)]:=⟨_,rfl⟩;rw[<-hL] at ho;have al:=J hL;have ao:O (ag.length=out.length+1):=J (by rw[hL];simp);clear hL;have au:O (V w3 wb):=J (hg.below XW.o XW.o.size (λq hq=>(OW.o.1.lt q hq).1));obtain⟨ar,av,rfl,_,_,_⟩:=ho.slice;have am:=J ho;clear ho hg hs aa OW XW))
      clear t0 t1;go_roundw
      case rel=>exact⟨k+1,ar,av,ag,false,U,rfl,rfl,by go_num,by have:=ao.o;omega,J (by rw[al.o];exact ae.o),am,au⟩
      case measure=>simp[intOf];omega
theorem Yp{s:St}(h:VS s){fr:Int}{m:Msg}(j:m.kind=11):(if m.num=(Ar s.views).1 then BH ⟨s,[],[]⟩ fr m else ⟨s,[],[]⟩)=⟨EU s fr m,[],[]⟩:=by
 unfold EU BH EF;cases ho:AD s with
 | false=>simp[j]
 | true=>
  have z:=(h.open_base ho).1;cases hl:AE s with
  | false=>simp[j]
  | true=>
   rw[z];by_cases q:m.num=(Ar s.views).1
   .by_cases u:AG (Ar s.views).2 fr=true
    .by_cases y:m.first=Aq s.log fr+1/\s.log.length<2000
     .simp[j,q,u,y,z]
     .simp[j,q,u,y]
    .simp[j,q,u]
   .simp[q]
theorem Yw{s:St}(h:VS s){fr:Int}{m:Msg}(q:m.kind=12)(y:0<=m.first):(if m.num=(Ar s.views).1 then BH ⟨s,[],[]⟩ fr m else ⟨s,[],[]⟩)=DV s fr m:=by
 unfold DV BH;rw[Vv _ _ y];cases ho:AD s with
 | false=>simp[q]
 | true=>
  have z:=(h.open_base ho).1;rw[z];by_cases j:m.num=(Ar s.views).1
  .cases hl:AE s with
   | true=>simp[q,j]
   | false=>
    by_cases u:fr=AZ (Ar s.views)
    .simp[q,j,u]
    .simp[q,j,u]
  .simp[j]
theorem Yg{s:St}(h:VS s){fr:Int}{m:Msg}(j:m.kind=13):(if m.num=(Ar s.views).1 then BH ⟨s,[],[]⟩ fr m else ⟨s,[],[]⟩)=Er s fr m:=by
 unfold Er BH Eo;cases ho:AD s with
 | false=>simp[j]
 | true=>
  have z:=(h.open_base ho).1;cases hl:AE s with
  | false=>simp[j]
  | true=>
   rw[z];by_cases q:m.num=(Ar s.views).1
   .by_cases u:AG (Ar s.views).2 fr=true
    .by_cases y:(s.log.length:Int)<m.first
     .simp[j,q,u,y];intro D;omega
     .have:m.first<=(s.log.length:Int):=U;simp[j,q,u,y,this,z]
    .simp[j,q,u]
   .simp[q]
theorem Yr{s:St}{fr:Int}{m:Msg}(h:m.kind=14)(q:AQ fr=true):(if m.num=(Ar s.views).1 then BH ⟨s,[],[]⟩ fr m else ⟨s,[],[]⟩)=⟨FA s fr m,[],[]⟩:=by
 unfold FA BH;rw[q];cases ho:AD s with
 | true=>simp[h]
 | false=>
  cases hl:AE s with
  | false=>simp[h]
  | true=>
   by_cases j:m.num=(Ar s.views).1
   .cases hp:Bh s.views (fr,m.first,m.ents) with
    | false=>simp[h,j]
    | true=>simp[h,j]
   .simp[j]
def Dj(s:St)(fr:Int)(m:Msg):St:=if AD s=false/\AG (Ar s.views).2 s.self=true/\AE s=false/\m.num=(Ar s.views).1/\fr=AZ (Ar s.views)/\0<m.ents.length/\Bc m.ents=true/\CK m.ents=(Ar s.views).1/\Dd m.ents (s.log.take s.stable.toNat)=true/\(Aq m.ents s.self:Int)<=s.sent then {s with base:=(Ar s.views).1,log:=m.ents} else s
theorem Zi{s:St}(F:0<=(Ar s.views).1){fr:Int}{m:Msg}(j:m.kind=15):(if m.num=(Ar s.views).1 then BH ⟨s,[],[]⟩ fr m else ⟨s,[],[]⟩)=⟨Dj s fr m,[],[]⟩:=by
 unfold Dj BH FK;by_cases h:m.num=(Ar s.views).1
 .have z:¬(Ar s.views).1 = -1:=U;cases ho:AD s with
  | true=>simp[j]
  | false=>
   cases hl:AE s with
   | true=>simp[j]
   | false=>
    by_cases u:fr=AZ (Ar s.views)
    .by_cases y:AG (Ar s.views).2 s.self=true
     .rw[if_pos h,if_neg U,if_neg zj,if_neg U,if_neg U,if_pos ⟨j,rfl,rfl,u,y⟩];by_cases q:0<m.ents.length/\Bi m.ents m.num=true/\Dd m.ents (s.log.take s.stable.toNat)=true/\(Aq m.ents s.self:Int)<=s.sent
      .rw[if_pos q];obtain⟨a,b,c,d⟩:=q;unfold Bi at b;rw[h,if_neg z] at b;simp only[zB,zE] at b;rw[if_pos ⟨rfl,y,rfl,h,u,a,b.2.1,b.2.2,c,d⟩,h]
      .rw[if_neg q,if_neg];intro D;obtain⟨-,-,-,-,-,a,v,l,c,d⟩:=D;apply q;refine⟨a,?_,c,d⟩;unfold Bi;rw[h,if_neg z];simp[a,v,l]
     .simp[j,y]
    .simp[j,u]
 .simp[h]
theorem Uv{j:Int}{r q:Rd}{m:Msg}(h:Dg j r=some (m,q)):m.kind=j/\(j=12->0<=m.first):=by
 unfold Dg at h;simp only at h;split at h
 .next hk=>cases h;exact⟨rfl,λe=>by omega⟩
 .split at h
  .next hk=>cases h;exact⟨rfl,λ_=>Jf _⟩
  .split at h
   .next hk=>cases h;exact⟨rfl,λe=>by omega⟩
   .split at h
    .next hk=>cases h;exact⟨rfl,λe=>by omega⟩
    .split at h
     .next hk=>cases h;exact⟨rfl,λe=>by omega⟩
     .cases h
theorem UB{j:List UInt8}{m:Msg}(h:Bd j=some m):m.kind=12->0<=m.first:=by
 unfold Bd at h;simp only at h;split at h
 .cases h
 .split at h
  .cases h
  .next m' r' hb=>
   split at h
   .cases h;obtain⟨q,u⟩:=Uv hb;rw[q];exact u
   .cases h
def EV(s:St)(fr:Int)(m:Msg):Cs:=
 if m.kind=11 then ⟨EU s fr m,[],[]⟩
 else if m.kind=12 then DV s fr m
 else if m.kind=13 then Er s fr m
 else if m.kind=14 then ⟨FA s fr m,[],[]⟩
 else if m.kind=15 then ⟨Dj s fr m,[],[]⟩
 else ⟨s,[],[]⟩
theorem Zd{s:St}(h:VS s){fr:Int}(F:AQ fr=true){m:Msg}(D:m.kind=12->0<=m.first):(if m.num=(Ar s.views).1 then BH ⟨s,[],[]⟩ fr m else ⟨s,[],[]⟩)=EV s fr m:=by
 unfold EV;by_cases q:m.kind=11
 .rw[if_pos q];exact Yp h q
 rw[if_neg q];by_cases j:m.kind=12
 .rw[if_pos j];exact Yw h j (D j)
 rw[if_neg j];by_cases u:m.kind=13
 .rw[if_pos u];exact Yg h u
 rw[if_neg u];by_cases y:m.kind=14
 .rw[if_pos y];exact Yr y F
 rw[if_neg y];by_cases z:m.kind=15
 .rw[if_pos z];exact Zi (Ev h.last).1 z
 rw[if_neg z];unfold BH;simp[q,j,u,y,z]
def Du(s:St)(fr:Int)(frame:List UInt8):Cs×Int:=
 if AM s=false\/AQ fr=false\/fr=s.self then (⟨B8,[],[]⟩,1)
 else match Bd frame with
  | none=>(⟨B8,[],[]⟩,3)
  | some m=>(EV s fr m,0)
theorem TN{s:St}(q:AM s=true->VS s)(fr:Int)(h:List UInt8):BU s fr h=Du s fr h:=by
 unfold BU Du;split
 .rfl
 .next hn=>
  have u:AM s=true:=by cases e:AM s with|true=>rfl|false=>exact absurd (.inl e) hn
  have j:AQ fr=true:=by cases e:AQ fr with|true=>rfl|false=>exact absurd (.inr (.inl e)) hn
  cases hr:Bd h with
  | none=>rfl
  | some m=>simp only;rw[Zd (q u) j (UB hr)]
theorem UF{j:Int}{r q:Rd}{m:Msg}(h:Dg j r=some (m,q)):m.kind=11\/m.kind=12\/m.kind=13\/m.kind=14\/m.kind=15:=by
 unfold Dg at h;simp only at h;split at h
 .next hk=>cases h;exact .inl hk
 .split at h
  .next hk=>cases h;exact .inr (.inl hk)
  .split at h
   .next hk=>cases h;exact .inr (.inr (.inl hk))
   .split at h
    .next hk=>cases h;exact .inr (.inr (.inr (.inl hk)))
    .split at h
     .next hk=>cases h;exact .inr (.inr (.inr (.inr hk)))
     .cases h
theorem Vo{j:List UInt8}{m:Msg}(h:Bd j=some m):m.kind=11\/m.kind=12\/m.kind=13\/m.kind=14\/m.kind=15:=by
 unfold Bd at h;simp only at h;split at h
 .cases h
 .split at h
  .cases h
  .next m' r' hb=>
   split at h
   .cases h;exact UF hb
   .cases h
theorem Zv(s:St)(fr:Int)(m:Msg):(EV s fr m).pk=[]:=by
 unfold EV;split
 .rfl
 split
 .unfold DV;split
  .unfold Gp;split
   .rfl
   .rw[(No _ _).2.2.2.2.2.2.1]
  .rfl
 split
 .unfold Er;split
  .rw[(Mj _).2.2.2.2.2.2.1]
  .rfl
 split
 .rfl
 split<;>rfl
theorem TR(s:St)(fr:Int)(h:List UInt8):(Du s fr h).1.pk=[]:=by
 unfold Du;split
 .rfl
 .split
  .rfl
  .exact Zv _ _ _
theorem ON(l:List Ent)(i j:Int):(Bm l i j).length<=l.length:=by unfold Bm;rw[zD,zT];omega
theorem Zr(s:St):(BI s).dl.length<=(BI s).s.log.length:=by
 cases hv:AM s with
 | false=>rw[show BI s=⟨B8,[],[]⟩ from by unfold BI;rw[if_pos hv]];exact zR _
 | true=>
  have g:=(TY (Cm.1 hv)).gr.cut;rw[<-g];exact ON _ _ _
theorem Us(s:St)(fr:Int)(j:List UInt8):(BU s fr j).1.dl.length<=(BU s fr j).1.s.log.length:=by
 cases hv:AM s with
 | false=>rw[show BU s fr j=(⟨B8,[],[]⟩,1) from by unfold BU;rw[if_pos (.inl hv)]];exact zR _
 | true=>
  rcases Sm (Cm.1 hv) fr j with ⟨_,h⟩|⟨_,h⟩
  .rw[h];exact zO _
  .rw[<-h.gr.cut];exact ON _ _ _
def Gv:Prop:=∀(b:BM) (w:World),b.Ok w->Calls prog 43 #[.agg b.cells] w λe w'=>e=.returned (.bool (AM b.st))/\V w w'
theorem LM{P:Prop}(h:P:=by
 go_enter func13,ntmps13;go_upto_region 1 with fail;generalize ((w.alloc (.cells b.cells 28)).alloc (.cells Yq 28))=u1 at *;replace H:=H.o.e G.o;obtain⟨R,T,W,q3,q4,q5,q6,q7,q8⟩:=nine F.o;go_wp2_with fail;refine(HV.o▸Dt b _ H.o).mono ?_;rintro e w2 ⟨rfl,j⟩;replace H:=H.o.e j;replace F:=F.o.e j;replace u:=u.o.e j;replace G:=G.o.t j;clear R T W q3 q4 q5 q6 q7 q8;obtain⟨R,T,W,q3,q4,q5,q6,q7,q8⟩:=nine F.o;obtain⟨z0,z1,z2,z3,z4,z5,z6,z7,z8⟩:=u.o.free9;obtain⟨k0,k1,k2,k3,k4,k5,k6,k7,k8⟩:=nine u.o;clear j;go_wp2;refine Fi (v1:=I 5) results13 rfl rfl u.o (λwz hz=>?_);have WQ:=J (Lit.wrote (N:=w.heap.size) (M:=w.heap.size+2) hz U U);clear hz;exact O8 (HF.o) (WQ.o.ext G.o (zR _))):P:=h
def RSe(w:World)(r:St×Int)(en:Ending)(w':World):Prop:=∃b2:BM,en=.returned (.tuple #[.agg b2.cells,.int .i64 r.2])/\b2.st=r.1/\b2.Ok w'/\V w w'
theorem BM.Ok.withSent{w:World}{b:BM}(h:b.Ok w)(s:Int):({b with sent:=s}:BM).Ok w:=⟨⟨h.r.vs,h.r.log,h.r.pend,h.r.marks,h.r.fls⟩,⟨h.f.vs,h.f.vx,h.f.log,h.f.lp,h.f.pend,h.f.pp,h.f.marks,h.f.fls,h.f.fl,h.f.cl⟩,h.cp⟩
theorem BM.Off.withSent{N M:Nat}{b:BM}(h:b.Off N M)(s:Int):({b with sent:=s}:BM).Off N M:=⟨h.vs,h.vi,h.log,h.pend,h.marks,h.fls,h.fi⟩
theorem Xi(w:World):BK.Ok w:=⟨GI w,GV,zR _⟩
theorem O8{w w':World}{r:St×Int}{e:Int}(h:r=(B8,e))(j:V w w'):RSe w r (.returned (.tuple #[.agg Yq,I e])) w':=by
 subst h;exact⟨BK,rfl,rfl,Xi _,j⟩
theorem TO(Dt:Gv)(b:BM)(y:List UInt8)(w:World)(h:b.Ok w)(bd:y.length<=1000000) :
  Calls prog 13 #[.agg b.cells,.string (Ah y)] w (RSe w (Ci b.st y)):=by
 have H:=J h;have OF:=J h.far;have bl:=h.f.pend;have bj:=h.cp;have bm:=CZ y;clear h;cases hv:AM b.st with
 | false=>
  have HV:=J hv;clear hv;obtain⟨G,F,u,aw⟩:=DG w b.cells;go_enter func13,ntmps13;go_upto_region 1 with fail;generalize ((w.alloc (.cells b.cells 28)).alloc (.cells Yq 28))=u1 at *;replace H:=H.o.e G.o;obtain⟨R,T,W,q3,q4,q5,q6,q7,q8⟩:=nine F.o;go_wp2_with fail;refine(HV.o▸Dt b _ H.o).mono ?_;rintro e w2 ⟨rfl,j⟩;replace H:=H.o.e j;replace F:=F.o.e j;replace u:=u.o.e j;replace G:=G.o.t j;clear R T W q3 q4 q5 q6 q7 q8;obtain⟨R,T,W,q3,q4,q5,q6,q7,q8⟩:=nine F.o;obtain⟨z0,z1,z2,z3,z4,z5,z6,z7,z8⟩:=u.o.free9;obtain⟨k0,k1,k2,k3,k4,k5,k6,k7,k8⟩:=nine u.o;clear j;go_wp2;refine Fi (v1:=I 1) results13 rfl rfl u.o (λwz hz=>?_);have WQ:=J (Lit.wrote (N:=w.heap.size) (M:=w.heap.size+2) hz U U);clear hz;exact O8 (by unfold Ci;rw[if_pos HV.o]) (WQ.o.ext G.o (zR _))
 | true=>
  have K:=J (Cm.1 hv);have HV:=J hv;have e1:=K.o.sent0;have e2:=K.o.sent;have e3:=K.o.pl;have e4:=K.o.own;have e5:=K.o.pd;have e6:=K.o.st;have e7:=K.o.st0;simp only[BM.st] at e1 e2 e3 e4 e5 e6 e7;by_cases h1:6000<y.length
  .have HF:O (Ci b.st y=(B8,5)):=J (by unfold Ci;rw[if_neg (by rw[hv];simp)];exact if_pos (.inl h1));have af:decide ((6000:Int)<(y.length:Int))=true:=zm;clear hv e1 e2 e3 e4 e5 e6 e7 h1;obtain⟨G,F,u,aw⟩:=DG w b.cells;exact LM
  by_cases h2:b.pend.length=32
  .have HF:O (Ci b.st y=(B8,5)):=J (by unfold Ci;rw[if_neg (by rw[hv];simp)];exact if_pos (.inr (.inl h2)));have af:decide ((6000:Int)<(y.length:Int))=false:=zm;have ak:decide ((32:Int)<=(b.pend.length:Int))=true:=zm;clear hv e1 e2 e3 e4 e5 e6 e7 h1 h2;obtain⟨G,F,u,aw⟩:=DG w b.cells;exact LM
  by_cases h3:b.sent=1099511627776
  .have HF:O (Ci b.st y=(B8,5)):=J (by unfold Ci;rw[if_neg (by rw[hv];simp)];exact if_pos (.inr (.inr h3)));have af:decide ((6000:Int)<(y.length:Int))=false:=zm;have ak:decide ((32:Int)<=(b.pend.length:Int))=false:=zm;have bb:(b.sent == 1099511627776)=true:=by simpa using h3
   clear hv e1 e2 e3 e4 e5 e6 e7 h1 h2 h3;obtain⟨G,F,u,aw⟩:=DG w b.cells;exact LM
  have HF:O (Ci b.st y=(IE {b.st with sent:=b.sent+1,pend:=b.pend++[y]},0)):=J (by unfold Ci;rw[if_neg (by rw[hv];simp)];exact if_neg (λh=>h.elim h1 (λh=>h.elim h2 h3)));have af:decide ((6000:Int)<(y.length:Int))=false:=zm;have ak:decide ((32:Int)<=(b.pend.length:Int))=false:=zm;have bb:(b.sent == 1099511627776)=false:=by simpa using h3
  have bo:IntKind.i64.wrap (b.sent+1)=b.sent+1:=IntWalk.i64_in _ U;have bk:=FJ b.log b.stable.toNat b.self;have aq:=(DY K.o.vs).1;have bh:b.sent+1<=1099511627776:=U;have E5:=J e5;clear hv h1 h2 h3 e5;obtain⟨G,F,u,aw⟩:=DG w b.cells;go_enter func13,ntmps13;go_upto_region 1 with fail;generalize ((w.alloc (.cells b.cells 28)).alloc (.cells Yq 28))=u1 at *;replace H:=H.o.e G.o;obtain⟨R,T,W,q3,q4,q5,q6,q7,q8⟩:=nine F.o;go_wp2_with fail;refine(HV.o▸Dt b _ H.o).mono ?_;rintro e w2 ⟨rfl,j⟩;replace H:=H.o.e j;replace F:=F.o.e j;replace u:=u.o.e j;replace G:=G.o.t j;clear R T W q3 q4 q5 q6 q7 q8;have bg:=zL aw j.size;obtain⟨R,T,W,q3,q4,q5,q6,q7,q8⟩:=nine F.o;obtain⟨y0,y1,y2,y3,y4,y5,y6,y7,y8⟩:=F.o.free9;clear j;go_upto_region 6 with fail;have K5:O (Wrote w.heap.size w2 (w2.setCell (Y w 5) (I (b.sent+1)))):=J (Wrote.set w.heap.size 5 _ _);have L5:O (Lit w.heap.size (w.heap.size+2) w2 (w2.setCell (Y w 5) (I (b.sent+1)))):=J (Lit.wrote K5.o (zR _) U);have B5:O (BIs (w2.setCell (Y w 5) (I (b.sent+1))) w.heap.size #[I b.self,.slice b.Av b.vs.length b.cv,I b.base,.slice b.Al b.log.length b.cl,I b.stable,I (b.sent+1),.slice b.Ap b.pend.length b.cp,.slice b.Am b.marks.length b.cm,.slice b.Af b.fls.length b.cf] 28):=J (F.o.set 5 _);replace H:=J (H.o.lit OF.o L5.o);replace u:=J (u.o.wrote U K5.o);replace G:=J (L5.o.ext G.o (zR _));have au:w.heap.size+2<=(w2.setCell (Y w 5) (I (b.sent+1))).heap.size:=zL bg L5.o.2.2.2.1;clear R T W q3 q4 q5 q6 q7 q8;clear y0 y1 y2 y3 y4 y5 y6 y7 y8 F K5 L5;have F:=B5;clear B5;generalize (w2.setCell (Y w 5) (I (b.sent+1)))=w5 at *;obtain⟨R,T,W,q3,q4,q5,q6,q7,q8⟩:=nine F.o;have bp:w.heap.size<w5.heap.size:=U;have bq:w.heap.size+1<w5.heap.size:=U;go_upto_region 7 with (first
   | (at_builtin
      refine By AU rfl (.tmp 29) (.tmp 31) rfl _ w5.heap.size _ [] zi _ _ _ b.pend zi rfl (H.o.r.pend.ext (V.new _ _)) (Elem.OB.fresh AU (zR _)) KD zm zj ?_;intro v3 w6 ag am be;rw[List.nil_append] at ag;have X3:O (V w5 w6):=J (am.below (V.new w5 _) zj (λq hq=>by cases hq;exact zR _));have ad:=J ag;clear ag am be;clear R T W q3 q4 q5 q6 q7 q8;have B6:=F.o.e X3.o;obtain⟨R,T,W,q3,q4,q5,q6,q7,q8⟩:=nine B6.o)
   | (at_builtin
      have ah:O (Row (w6.alloc (.cells #[.string (Ah y)] 9)) (some (Y w6 0)) (AU.cells [y])):=J (Ph y w6);refine By AU rfl (.tmp 32) (.tmp 34) rfl _ w5.heap.size _ b.pend zi _ 1 1 [y] zi rfl ah.o (ad.o.ext (V.new _ _)) KD U (by have:=X3.o.size;simp;omega) ?_;intro v4 w7 aa an bf;obtain⟨z,X⟩:∃l,l=b.pend++[y]:=⟨_,rfl⟩;rw[<-X] at aa HF;have ac:O (z.length=b.pend.length+1):=J (by rw[X];simp);have a9:=J X;clear X;have X4:O (V w5 w7):=J (an.below (X3.o.trans (V.new w6 _)) (X3.o.trans (V.new w6 _)).size (λq hq=>(ad.o.1.lt q hq).1));obtain⟨D,Q,rfl,bc,bi,ap⟩:=aa.1.slice;have az:=J aa.1;have ae:=J ap;clear an bf aa ap ah ad X3 B6;clear R T W q3 q4 q5 q6 q7 q8;replace H:=H.o.e X4.o;replace F:=F.o.e X4.o;replace u:=u.o.e X4.o;replace G:=G.o.t X4.o;obtain⟨R,T,W,q3,q4,q5,q6,q7,q8⟩:=nine F.o;obtain⟨y0,y1,y2,y3,y4,y5,y6,y7,y8⟩:=F.o.free9))
  have K6:O (Wrote w.heap.size w7 (w7.setCell (Y w 6) (.slice D z.length Q))):=J (Wrote.set w.heap.size 6 _ _);have L6:O (Lit w.heap.size (w.heap.size+2) w7 (w7.setCell (Y w 6) (.slice D z.length Q))):=J (Lit.wrote K6.o (zR _) U);have B6:O (BIs (w7.setCell (Y w 6) (.slice D z.length Q)) w.heap.size #[I b.self,.slice b.Av b.vs.length b.cv,I b.base,.slice b.Al b.log.length b.cl,I b.stable,I (b.sent+1),.slice D z.length Q,.slice b.Am b.marks.length b.cm,.slice b.Af b.fls.length b.cf] 28):=J (F.o.set 6 _);have aj:O (OffR w.heap.size (w.heap.size+2) D (AU.cells z)):=J (DP az.o au);replace H:=J (H.o.lit OF.o L6.o);replace ae:=J (ae.o.lit aj.o L6.o);replace u:=J (u.o.wrote U K6.o);replace G:=J (L6.o.ext G.o (zR _));have av:w.heap.size+2<=(w7.setCell (Y w 6) (.slice D z.length Q)).heap.size:=zL au (zL X4.o.size L6.o.2.2.2.1);clear R T W q3 q4 q5 q6 q7 q8;clear y0 y1 y2 y3 y4 y5 y6 y7 y8 F K6 L6;generalize (w7.setCell (Y w 6) (.slice D z.length Q))=w8 at *;have H2:O (({b with sent:=b.sent+1,Ap:=D,cp:=Q,pend:=z}:BM).Ok w8):=J ((H.o.withPend b.stable ae.o (by have:=ac.o;omega) (λp hp=>by rw[a9.o] at hp;rcases List.mem_append.1 hp with h|h;exact H.o.f.pp p h;rw[List.mem_singleton.1 h];exact bd) bc).withSent _);have ai:O (({b with sent:=b.sent+1,Ap:=D,cp:=Q,pend:=z}:BM).Off w.heap.size (w.heap.size+2)):=J ((OF.o.withPend b.stable aj.o).withSent _);obtain⟨R,T,W,q3,q4,q5,q6,q7,q8⟩:=nine B6.o;go_wp2_with fail;refine(Qn ({b with sent:=b.sent+1,Ap:=D,cp:=Q,pend:=z}:BM) _ H2.o (by have:=aq;simp only[BM.st,AW] at this;exact this) (by simp only;omega) (by simp only;omega) (by have h1:=E5.o;have h2:=ac.o;simp only;omega) (Kg K.o.based)).mono ?_;rintro e w9 ⟨b2,rfl,ar,ao,ab,al⟩;have ax:=J (al _ _ av ai.o);have ay:=J ao;have ba:=J ar;replace u:=u.o.e ab;replace G:=G.o.t ab;have bn:=zL av ab.size;clear ar ao ab al H2 ai R T W q3 q4 q5 q6 q7 q8;obtain⟨z0,z1,z2,z3,z4,z5,z6,z7,z8⟩:=u.o.free9;obtain⟨k0,k1,k2,k3,k4,k5,k6,k7,k8⟩:=nine u.o;unfold BM.cells;go_wp2;refine Fi (v1:=I 0) results13 rfl rfl u.o (λwz hz=>?_);have WQ:=J (Lit.wrote (N:=w.heap.size) (M:=w.heap.size+2) hz U U);clear hz;exact⟨b2,by rw[HF.o],by rw[ba.o,HF.o];rfl,ay.o.lit ax.o WQ.o,WQ.o.ext G.o (zR _)⟩
theorem Oj{l:List Ent}(u:l.length<=2000)(h:∀e∈l,e.p.length<=6000):(Bb l).length<=12100000:=by
 have j:=Jn h;have q:=DN [(l.length:Int)];unfold Bb;simp only[zA,zK,List.length_nil] at *;omega
theorem Sc(s:Int)(A:Option Addr)(c:Nat)(l:List Ent)(w:World)(h:Row w A (Aa.cells l))(Q:l.length<=2000)(G:∀e∈l,e.p.length<=6000) :
  Calls prog 63 #[I s,.slice A l.length c] w (GivesB w (AX 15 (AF [s]++Bb l))):=by
 have H:=J h;have W:=J G;have ab:=Oj Q G;clear h G;go_enter func63,ntmps63;go_wp2_with fail;refine(JU A c l w H.o Q W.o).mono ?_;rintro e w4 ⟨R,c4,rfl,aa,ac,j,u⟩;have K:=J u;have X:=J j.row;clear j u;go_wp2_with fail;refine(Hz 15 s R c4 (Bb l) w4 X.o U U).mono ?_;rintro e w6 ⟨T,c6,rfl,D,F,q,y⟩;have X6:=K.o.t y;have z:=J (q.base (B':=w.heap.size) K.o.size);clear q y;go_wp2;go_ret;exact⟨T,c6,rfl,D,F,z.o,X6.o⟩
theorem Sa(s n:Int)(p:List UInt8)(w:World)(hp:p.length<=6000) :
  Calls prog 66 #[I s,I n,.string (Ah p)] w (GivesB w (AX 11 (AF [s,n]++Bq p))):=by
 have F:=Fv n;have n0:O (uN n<U64):=J (Ff _);have W:=J (BW n0.o);have af:(Bq p).length<=6100:=by have:=BW (v:=p.length) (by unfold U64;omega);unfold Bq;simp;omega
 have HS:O (AF [s,n]++Bq p=AF [s]++(AB (uN n)++Bq p)):=J (by simp[AF]);go_enter func66,ntmps66;go_wp2_with fail;rw[<-F];refine(D6 (uN n) _ n0).mono ?_;rintro e w1 ⟨A1,c1,rfl,ad,ag,y,G⟩;have Q:=J y;have X1:=J G;clear y G F;go_wp2_with fail;refine(MS p _ U).mono ?_;rintro e w2 ⟨A2,c2,rfl,ae,ah,z,j⟩;have X2:=X1.o.t j;have P2:=Q.o.e j;have R2:=J z.row;clear z j;go_wp2_with (first
  | (at_builtin;refine EB rfl (.tmp 10) (.tmp 12) rfl _ w A1 _ c1 (AB (uN n)) zi A2 _ c2 (Bq p) zi rfl R2 P2 (by have:=W.o;omega) X2 ?_;intro A5 c5 w5 aa ab R X;have s5:(AB (uN n)++Bq p).length<=90000000:=(by have:=W.o;simp;omega);generalize ac:AB (uN n)++Bq p=S5 at *)
  | fail)
 refine(Hz 11 s A5 c5 S5 w5 R.o.row s5 U).mono ?_;rintro e w6 ⟨A6,c6,rfl,u,T,D,K⟩;have X6:=X.o.t K;have q:=J (D.base (B':=w.heap.size) X.o.size);clear D K;rw[<-HS.o] at u q|-;go_wp2;go_ret;exact⟨A6,c6,rfl,u,T,q.o,X6.o⟩
theorem Sg(s n:Int)(A:Option Addr)(c:Nat)(l:List Ent)(w:World)(hi:I64 n)(h:Row w A (Aa.cells l))(hn:l.length<=2000)(T:∀e∈l,e.p.length<=6000) :
  Calls prog 70 #[I s,I n,.slice A l.length c] w (GivesB w (AX 14 (AF [s]++AB (zig n)++Bb l))):=by
 have H:=J h;have HP:=J T;have af:=Oj hn T;have n0:O (zig n<U64):=J (Hi hi);have X:=J (BW n0.o);have W:O (AF [s]++AB (zig n)++Bb l=AF [s]++(AB (zig n)++Bb l)):=J (List.append_assoc _ _ _);clear h T;go_enter func70,ntmps70;go_wp2_with fail;refine(OL n _ (J hi)).mono ?_;rintro e w1 ⟨A1,c1,rfl,ad,ag,y,F⟩;have K:=J y;have X1:=J F;clear y F;go_wp2_with fail;refine(JU A c l w1 (H.o.ext X1.o) hn HP.o).mono ?_;rintro e w2 ⟨A2,c2,rfl,ae,ah,z,j⟩;have X2:=X1.o.t j;have P2:=K.o.e j;have R2:=J z.row;clear z j;go_wp2_with (first
  | (at_builtin;refine EB rfl (.tmp 9) (.tmp 11) rfl _ w A1 _ c1 (AB (zig n)) zi A2 _ c2 (Bb l) zi rfl R2 P2 (by have:=X.o;omega) X2 ?_;intro A5 c5 w5 aa ab Q X5;have s5:(AB (zig n)++Bb l).length<=90000000:=(by have:=X.o;simp;omega);generalize ac:AB (zig n)++Bb l=S5 at *)
  | fail)
 refine(Hz 14 s A5 c5 S5 w5 Q.o.row s5 U).mono ?_;rintro e w6 ⟨A6,c6,rfl,u,R,D,G⟩;have X6:=X5.o.t G;have q:=J (D.base (B':=w.heap.size) X5.o.size);clear D G;rw[<-W.o] at u q|-;go_wp2;go_ret;exact⟨A6,c6,by rw[W.o];rfl,u,R,q.o,X6.o⟩
end Go.Proofs.YtponbabbabnaeaaGreat
