/- Part 28: contracts of functions. Conditions: as each theorem says. -/
import Derived.Test.YtponbabbabnaeaaGreatQh27
set_option maxRecDepth 100000
set_option maxHeartbeats 40000000
set_option linter.unusedVariables false
namespace Go.Proofs.YtponbabbabnaeaaGreat
open Proofs.Tryz
open Go.RowKit
theorem RJ{P:Prop}(h:P:=by
 obtain⟨y,u,F,q,ah⟩:=ES w b.cells #[I kd,I nm,I sq,I (st:Int),I sb,I ln,I bs,.string (Ah aa),.slice A es.length c];go_enter func77,ntmps77;go_upto_region 1 with fail;generalize (((w.alloc (.cells b.cells 28)).alloc (.cells #[I kd,I nm,I sq,I (st:Int),I sb,I ln,I bs,.string (Ah aa),.slice A es.length c] 115)).alloc (.cells Yq 28))=u1 at *;replace H:=H.o.e y.o;replace z:=z.o.e y.o;obtain⟨R,T,W,X,q4,q5,q6,q7,q8⟩:=nine u.o;obtain⟨G,K,Q,g3,g4,g5,g6,g7,g8⟩:=nine F.o;obtain⟨z0,z1,z2,z3,z4,z5,z6,z7,z8⟩:=q.o.free9;obtain⟨k0,k1,k2,k3,k4,k5,k6,k7,k8⟩:=nine q.o;go_wp2_with (first
  | (go_at_call 64
     refine(ae.o▸D5 b _ H.o.r ab H.o.f).mono ?_;rintro e w2 ⟨rfl,j⟩;replace H:=H.o.e j;replace u:=u.o.e j;replace F:=F.o.e j;replace q:=q.o.e j;replace z:=z.o.e j;replace y:=y.o.t j;clear j R T W X q4 q5 q6 q7 q8 G K Q g3 g4 g5 g6 g7 g8 z0 z1 z2 z3 z4 z5 z6 z7 z8 k0 k1 k2 k3 k4 k5 k6 k7 k8;obtain⟨R,T,W,X,q4,q5,q6,q7,q8⟩:=nine u.o;obtain⟨G,K,Q,g3,g4,g5,g6,g7,g8⟩:=nine F.o;obtain⟨z0,z1,z2,z3,z4,z5,z6,z7,z8⟩:=q.o.free9;obtain⟨k0,k1,k2,k3,k4,k5,k6,k7,k8⟩:=nine q.o)
  | (go_at_call 59
     refine(af.o▸Cy b _ H.o.r ab H.o.f).mono ?_;rintro e w3 ⟨rfl,j⟩;replace H:=H.o.e j;replace u:=u.o.e j;replace F:=F.o.e j;replace q:=q.o.e j;replace z:=z.o.e j;replace y:=y.o.t j;clear j R T W X q4 q5 q6 q7 q8 G K Q g3 g4 g5 g6 g7 g8 z0 z1 z2 z3 z4 z5 z6 z7 z8 k0 k1 k2 k3 k4 k5 k6 k7 k8;obtain⟨R,T,W,X,q4,q5,q6,q7,q8⟩:=nine u.o;obtain⟨G,K,Q,g3,g4,g5,g6,g7,g8⟩:=nine F.o;obtain⟨z0,z1,z2,z3,z4,z5,z6,z7,z8⟩:=q.o.free9;obtain⟨k0,k1,k2,k3,k4,k5,k6,k7,k8⟩:=nine q.o))
 refine Fi (v1:=Zq) results77 rfl rfl q.o (λwz hz=>?_);have WQ:=J (Lit.wrote (N:=w.heap.size) (M:=w.heap.size+3) hz U U);clear hz;rw[HF.o];exact⟨b,none,0,rfl,zR _,zO _,rfl,H.o.lit OF.o WQ.o,Row.nil _ _,λ_ h=>absurd rfl h,WQ.o.ext y.o (zR _),λ_ _ _ h=>h⟩):P:=h
theorem LO{P:Prop}(h:P:=by
 refine Fi (v1:=Zq) results77 rfl rfl q.o (λwz hz=>?_);have WQ:=J (Lit.wrote (N:=w.heap.size) (M:=w.heap.size+3) hz U U);clear hz;rw[HF.o];exact⟨b,none,0,rfl,zR _,zO _,rfl,H.o.lit OF.o WQ.o,Row.nil _ _,λ_ h=>absurd rfl h,WQ.o.ext y.o (zR _),λ_ _ _ h=>h⟩):P:=h
theorem Zy{s:St}(h:VS s){ex:List Ent}(y:(Aq (s.log++ex) s.self:Int)<=s.sent)(n:Int):Aq (Bm (s.log++ex) s.stable n) s.self<=s.pend.length:=by
 have j:=M6 (s.log++ex) s.stable.toNat s.self;have q:(s.log++ex).take s.stable.toNat=s.log.take s.stable.toNat:=List.take_append_of_le_length (by have:=h.st;have:=h.st0;omega);have u:Aq (Bm (s.log++ex) s.stable n) s.self<=Aq ((s.log++ex).drop s.stable.toNat) s.self:=by
  unfold Bm;rw[List.drop_take];exact FJ _ _ _
 rw[q] at j;have:=h.pd;omega
def DV(s:St)(fr:Int)(m:Msg):Cs:=if AD s=true/\AE s=false/\m.num=s.base/\fr=AZ (Ar s.views) then Gp ⟨s,[],[]⟩ m else ⟨s,[],[]⟩
theorem Sz(b:BM)(fr kd nm sq sb ln bs:Int)(st:Nat)(aa:List UInt8)(A:Option Addr)(c:Nat)(es:List Ent)(w:World)(h:b.Ok w)(hv:VS b.st)(he:Row w A (Aa.cells es))(bj:es.length<=2000)(bk:∀e∈es,e.p.length<=6000)(bq:st<=1099511627776) :
  Calls prog 77 #[.agg b.cells,I fr,.agg #[I kd,I nm,I sq,I (st:Int),I sb,I ln,I bs,.string (Ah aa),.slice A es.length c]] w (RSd w b (DV b.st fr ⟨kd,nm,(st:Int),sb,aa,es⟩).s (DV b.st fr ⟨kd,nm,(st:Int),sb,aa,es⟩).dl):=by
 have H:=J h;have OF:=J h.far3;have VV:=J hv;have z:=J he;have aj:=J bk;have b9:=h.f.log;have ab:0<b.vs.length:=by have:=(DY hv.vs).1;rw[show b.st.views=vws b.vs from rfl,AW] at this;exact this
 obtain⟨⟨tn,ts⟩,ht⟩:∃v,Ar (vws b.vs)=v:=⟨_,rfl⟩;have HT:=J ht;have br:=Eu h.f.vx;rw[ht] at br;simp only at br;obtain⟨sv,ar⟩:∃x,AZ (tn,ts)=x:=⟨_,rfl⟩;have ao:=J ar;have bc:O (AZ (Ar b.st.views)=sv):=J (by rw[show b.st.views=vws b.vs from rfl,ht];exact ar);obtain⟨M,hM⟩:∃m,m=(⟨kd,nm,(st:Int),sb,aa,es⟩:Msg):=⟨_,rfl⟩;rw[<-hM];have HM:=J hM;clear h hv ht ar he bk hM;cases hob:AD b.st with
 | false=>
  have ae:=J hob;have HF:O (DV b.st fr M=⟨b.st,[],[]⟩):=J (if_neg (λh=>by rw[hob] at h;exact absurd h.1 zd));obtain⟨y,u,F,q,ah⟩:=ES w b.cells #[I kd,I nm,I sq,I (st:Int),I sb,I ln,I bs,.string (Ah aa),.slice A es.length c];go_enter func77,ntmps77;go_upto_region 1 with fail;generalize (((w.alloc (.cells b.cells 28)).alloc (.cells #[I kd,I nm,I sq,I (st:Int),I sb,I ln,I bs,.string (Ah aa),.slice A es.length c] 115)).alloc (.cells Yq 28))=u1 at *;replace H:=H.o.e y.o;replace z:=z.o.e y.o;obtain⟨R,T,W,X,q4,q5,q6,q7,q8⟩:=nine u.o;obtain⟨G,K,Q,g3,g4,g5,g6,g7,g8⟩:=nine F.o;obtain⟨z0,z1,z2,z3,z4,z5,z6,z7,z8⟩:=q.o.free9;obtain⟨k0,k1,k2,k3,k4,k5,k6,k7,k8⟩:=nine q.o;go_wp2_with (first
   | (go_at_call 64
      refine(ae.o▸D5 b _ H.o.r ab H.o.f).mono ?_;rintro e w2 ⟨rfl,j⟩;replace H:=H.o.e j;replace u:=u.o.e j;replace F:=F.o.e j;replace q:=q.o.e j;replace z:=z.o.e j;replace y:=y.o.t j;clear j R T W X q4 q5 q6 q7 q8 G K Q g3 g4 g5 g6 g7 g8 z0 z1 z2 z3 z4 z5 z6 z7 z8 k0 k1 k2 k3 k4 k5 k6 k7 k8;obtain⟨R,T,W,X,q4,q5,q6,q7,q8⟩:=nine u.o;obtain⟨G,K,Q,g3,g4,g5,g6,g7,g8⟩:=nine F.o;obtain⟨z0,z1,z2,z3,z4,z5,z6,z7,z8⟩:=q.o.free9;obtain⟨k0,k1,k2,k3,k4,k5,k6,k7,k8⟩:=nine q.o))
  exact LO
 | true=>
  have ae:=J hob;cases hld:AE b.st with
  | true=>
   have af:O ((AD b.st&&AE b.st)=true):=J (by rw[hob,hld];rfl);have HF:O (DV b.st fr M=⟨b.st,[],[]⟩):=J (if_neg (λh=>by rw[hld] at h;exact absurd h.2.1 zd));exact RJ
  | false=>
   have af:O ((AD b.st&&AE b.st)=false):=J (by rw[hob,hld];rfl);by_cases h1:nm=b.base;rotate_left
   .have d1:(nm != b.base)=true:=by simpa using h1
    have H1:=J h1;clear h1;have HF:O (DV b.st fr M=⟨b.st,[],[]⟩):=J (if_neg (λh=>H1.o (by have:=h.2.2.1;rw[HM.o] at this;exact this)));exact RJ
   have d1:(nm != b.base)=false:=by simpa using h1
   have H1:=J h1;clear h1;by_cases h2:fr=sv;rotate_left
   .have d2:(fr != sv)=true:=by simpa using h2
    have H2:=J h2;clear h2;have HF:O (DV b.st fr M=⟨b.st,[],[]⟩):=J (if_neg (λh=>H2.o (h.2.2.2.trans bc.o)));obtain⟨y,u,F,q,ah⟩:=ES w b.cells #[I kd,I nm,I sq,I (st:Int),I sb,I ln,I bs,.string (Ah aa),.slice A es.length c];go_enter func77,ntmps77;go_upto_region 1 with fail;generalize (((w.alloc (.cells b.cells 28)).alloc (.cells #[I kd,I nm,I sq,I (st:Int),I sb,I ln,I bs,.string (Ah aa),.slice A es.length c] 115)).alloc (.cells Yq 28))=u1 at *;replace H:=H.o.e y.o;replace z:=z.o.e y.o;obtain⟨R,T,W,X,q4,q5,q6,q7,q8⟩:=nine u.o;obtain⟨G,K,Q,g3,g4,g5,g6,g7,g8⟩:=nine F.o;obtain⟨z0,z1,z2,z3,z4,z5,z6,z7,z8⟩:=q.o.free9;obtain⟨k0,k1,k2,k3,k4,k5,k6,k7,k8⟩:=nine q.o;go_wp2_with (first
     | (go_at_call 64
        refine(ae.o▸D5 b _ H.o.r ab H.o.f).mono ?_;rintro e w2 ⟨rfl,j⟩;replace H:=H.o.e j;replace u:=u.o.e j;replace F:=F.o.e j;replace q:=q.o.e j;replace z:=z.o.e j;replace y:=y.o.t j;clear j R T W X q4 q5 q6 q7 q8 G K Q g3 g4 g5 g6 g7 g8 z0 z1 z2 z3 z4 z5 z6 z7 z8 k0 k1 k2 k3 k4 k5 k6 k7 k8;obtain⟨R,T,W,X,q4,q5,q6,q7,q8⟩:=nine u.o;obtain⟨G,K,Q,g3,g4,g5,g6,g7,g8⟩:=nine F.o;obtain⟨z0,z1,z2,z3,z4,z5,z6,z7,z8⟩:=q.o.free9;obtain⟨k0,k1,k2,k3,k4,k5,k6,k7,k8⟩:=nine q.o)
     | (go_at_call 59
        refine(af.o▸Cy b _ H.o.r ab H.o.f).mono ?_;rintro e w3 ⟨rfl,j⟩;replace H:=H.o.e j;replace u:=u.o.e j;replace F:=F.o.e j;replace q:=q.o.e j;replace z:=z.o.e j;replace y:=y.o.t j;clear j R T W X q4 q5 q6 q7 q8 G K Q g3 g4 g5 g6 g7 g8 z0 z1 z2 z3 z4 z5 z6 z7 z8 k0 k1 k2 k3 k4 k5 k6 k7 k8;obtain⟨R,T,W,X,q4,q5,q6,q7,q8⟩:=nine u.o;obtain⟨G,K,Q,g3,g4,g5,g6,g7,g8⟩:=nine F.o;obtain⟨z0,z1,z2,z3,z4,z5,z6,z7,z8⟩:=q.o.free9;obtain⟨k0,k1,k2,k3,k4,k5,k6,k7,k8⟩:=nine q.o)
     | (go_at_call 57
        refine(Cb b _ H.o.r ab H.o.f tn ts HT.o).mono ?_;rintro e w4 ⟨A5,c5,rfl,_,_,ad,j⟩;have ag:=J ad;clear ad;replace H:=H.o.e j;replace u:=u.o.e j;replace F:=F.o.e j;replace q:=q.o.e j;replace z:=z.o.e j;replace y:=y.o.t j;clear j R T W X q4 q5 q6 q7 q8 G K Q g3 g4 g5 g6 g7 g8 z0 z1 z2 z3 z4 z5 z6 z7 z8 k0 k1 k2 k3 k4 k5 k6 k7 k8;obtain⟨R,T,W,X,q4,q5,q6,q7,q8⟩:=nine u.o;obtain⟨G,K,Q,g3,g4,g5,g6,g7,g8⟩:=nine F.o;obtain⟨z0,z1,z2,z3,z4,z5,z6,z7,z8⟩:=q.o.free9;obtain⟨k0,k1,k2,k3,k4,k5,k6,k7,k8⟩:=nine q.o)
     | (go_at_call 58
        refine(EG tn A5 c5 ts _ ag.o U sv ao.o).mono ?_;rintro e w5 ⟨rfl,j⟩;replace H:=H.o.e j;replace u:=u.o.e j;replace F:=F.o.e j;replace q:=q.o.e j;replace z:=z.o.e j;replace y:=y.o.t j;clear j R T W X q4 q5 q6 q7 q8 G K Q g3 g4 g5 g6 g7 g8 z0 z1 z2 z3 z4 z5 z6 z7 z8 k0 k1 k2 k3 k4 k5 k6 k7 k8;obtain⟨R,T,W,X,q4,q5,q6,q7,q8⟩:=nine u.o;obtain⟨G,K,Q,g3,g4,g5,g6,g7,g8⟩:=nine F.o;obtain⟨z0,z1,z2,z3,z4,z5,z6,z7,z8⟩:=q.o.free9;obtain⟨k0,k1,k2,k3,k4,k5,k6,k7,k8⟩:=nine q.o))
    exact LO
   have d2:(fr != sv)=false:=by simpa using h2
   have H2:=J h2;clear h2;have aw:O (DV b.st fr M=Gp ⟨b.st,[],[]⟩ M):=J (if_pos ⟨hob,hld,by rw[HM.o];exact H1.o,by rw[bc.o];exact H2.o⟩);clear hob hld;cases hok:CC b.st M with
   | false=>
    have al:=J hok;have HF:O (DV b.st fr M=⟨b.st,[],[]⟩):=J (by rw[aw.o];unfold Gp;rw[if_pos hok]);obtain⟨y,u,F,q,ah⟩:=ES w b.cells #[I kd,I nm,I sq,I (st:Int),I sb,I ln,I bs,.string (Ah aa),.slice A es.length c];go_enter func77,ntmps77;go_upto_region 1 with fail;generalize (((w.alloc (.cells b.cells 28)).alloc (.cells #[I kd,I nm,I sq,I (st:Int),I sb,I ln,I bs,.string (Ah aa),.slice A es.length c] 115)).alloc (.cells Yq 28))=u1 at *;replace H:=H.o.e y.o;replace z:=z.o.e y.o;obtain⟨R,T,W,X,q4,q5,q6,q7,q8⟩:=nine u.o;obtain⟨G,K,Q,g3,g4,g5,g6,g7,g8⟩:=nine F.o;obtain⟨z0,z1,z2,z3,z4,z5,z6,z7,z8⟩:=q.o.free9;obtain⟨k0,k1,k2,k3,k4,k5,k6,k7,k8⟩:=nine q.o;go_wp2_with (first
     | (go_at_call 64
        refine(ae.o▸D5 b _ H.o.r ab H.o.f).mono ?_;rintro e w2 ⟨rfl,j⟩;replace H:=H.o.e j;replace u:=u.o.e j;replace F:=F.o.e j;replace q:=q.o.e j;replace z:=z.o.e j;replace y:=y.o.t j;clear j R T W X q4 q5 q6 q7 q8 G K Q g3 g4 g5 g6 g7 g8 z0 z1 z2 z3 z4 z5 z6 z7 z8 k0 k1 k2 k3 k4 k5 k6 k7 k8;obtain⟨R,T,W,X,q4,q5,q6,q7,q8⟩:=nine u.o;obtain⟨G,K,Q,g3,g4,g5,g6,g7,g8⟩:=nine F.o;obtain⟨z0,z1,z2,z3,z4,z5,z6,z7,z8⟩:=q.o.free9;obtain⟨k0,k1,k2,k3,k4,k5,k6,k7,k8⟩:=nine q.o)
     | (go_at_call 59
        refine(af.o▸Cy b _ H.o.r ab H.o.f).mono ?_;rintro e w3 ⟨rfl,j⟩;replace H:=H.o.e j;replace u:=u.o.e j;replace F:=F.o.e j;replace q:=q.o.e j;replace z:=z.o.e j;replace y:=y.o.t j;clear j R T W X q4 q5 q6 q7 q8 G K Q g3 g4 g5 g6 g7 g8 z0 z1 z2 z3 z4 z5 z6 z7 z8 k0 k1 k2 k3 k4 k5 k6 k7 k8;obtain⟨R,T,W,X,q4,q5,q6,q7,q8⟩:=nine u.o;obtain⟨G,K,Q,g3,g4,g5,g6,g7,g8⟩:=nine F.o;obtain⟨z0,z1,z2,z3,z4,z5,z6,z7,z8⟩:=q.o.free9;obtain⟨k0,k1,k2,k3,k4,k5,k6,k7,k8⟩:=nine q.o)
     | (go_at_call 57
        refine(Cb b _ H.o.r ab H.o.f tn ts HT.o).mono ?_;rintro e w4 ⟨A5,c5,rfl,_,_,ad,j⟩;have ag:=J ad;clear ad;replace H:=H.o.e j;replace u:=u.o.e j;replace F:=F.o.e j;replace q:=q.o.e j;replace z:=z.o.e j;replace y:=y.o.t j;clear j R T W X q4 q5 q6 q7 q8 G K Q g3 g4 g5 g6 g7 g8 z0 z1 z2 z3 z4 z5 z6 z7 z8 k0 k1 k2 k3 k4 k5 k6 k7 k8;obtain⟨R,T,W,X,q4,q5,q6,q7,q8⟩:=nine u.o;obtain⟨G,K,Q,g3,g4,g5,g6,g7,g8⟩:=nine F.o;obtain⟨z0,z1,z2,z3,z4,z5,z6,z7,z8⟩:=q.o.free9;obtain⟨k0,k1,k2,k3,k4,k5,k6,k7,k8⟩:=nine q.o)
     | (go_at_call 58
        refine(EG tn A5 c5 ts _ ag.o U sv ao.o).mono ?_;rintro e w5 ⟨rfl,j⟩;replace H:=H.o.e j;replace u:=u.o.e j;replace F:=F.o.e j;replace q:=q.o.e j;replace z:=z.o.e j;replace y:=y.o.t j;clear j R T W X q4 q5 q6 q7 q8 G K Q g3 g4 g5 g6 g7 g8 z0 z1 z2 z3 z4 z5 z6 z7 z8 k0 k1 k2 k3 k4 k5 k6 k7 k8;obtain⟨R,T,W,X,q4,q5,q6,q7,q8⟩:=nine u.o;obtain⟨G,K,Q,g3,g4,g5,g6,g7,g8⟩:=nine F.o;obtain⟨z0,z1,z2,z3,z4,z5,z6,z7,z8⟩:=q.o.free9;obtain⟨k0,k1,k2,k3,k4,k5,k6,k7,k8⟩:=nine q.o)
     | (go_at_call 152
        have bh:=q.o.lt;refine(Ny b kd nm sq sb ln bs st aa A c es _ H.o z.o bj aj.o bq).mono ?_;rintro e w6 ⟨A6,c6,l,rfl,ac,j⟩;rw[<-HM.o] at ac|-;rw[al.o] at ac|-;have b6:=j.size;have av:=J ac;clear ac;replace H:=H.o.e j;replace u:=u.o.e j;replace F:=F.o.e j;replace q:=q.o.e j;replace z:=z.o.e j;replace y:=y.o.t j;clear j R T W X q4 q5 q6 q7 q8 G K Q g3 g4 g5 g6 g7 g8 z0 z1 z2 z3 z4 z5 z6 z7 z8 k0 k1 k2 k3 k4 k5 k6 k7 k8;obtain⟨R,T,W,X,q4,q5,q6,q7,q8⟩:=nine u.o;obtain⟨G,K,Q,g3,g4,g5,g6,g7,g8⟩:=nine F.o;obtain⟨z0,z1,z2,z3,z4,z5,z6,z7,z8⟩:=q.o.free9;obtain⟨k0,k1,k2,k3,k4,k5,k6,k7,k8⟩:=nine q.o))
    exact LO
   | true=>
    have al:=J hok;have a9:O (DV b.st fr M=Be ⟨{b.st with log:=BX b.st M},[],[]⟩ (min sb (BX b.st M).length)):=J (by rw[aw.o];unfold Gp;rw[if_neg (by rw[hok];simp)];rw[HM.o]);have az:O (∃ex,BX b.st M=b.log++ex):=J ⟨_,rfl⟩;have am:O ((Aq (BX b.st M) b.self:Int)<=b.sent):=J (by have h1:=hok;unfold CC at h1;simp only[zB,zE] at h1;exact h1.2.2.2);have ba:O ((BX b.st M).length<=100000):=J (by have h1:=hok;unfold CC at h1;simp only[zB] at h1;have:=(Ip h1.2.2.1).1;omega);have ap:O ((BX b.st M).length<=102000/\b.log.length<=(BX b.st M).length/\∀e∈BX b.st M,e.p.length<=1000000):=J (by
     unfold BX;rw[HM.o];refine⟨?_,?_,λe he=>?_⟩
     .simp only[zA,zD,BM.st];omega
     .simp only[zA,BM.st];omega
     .rcases List.mem_append.1 he with h|h
      .exact H.o.f.lp e h
      .exact zL (aj.o e (List.mem_of_mem_drop h)) U)
    clear hok;obtain⟨y,u,F,q,ah⟩:=ES w b.cells #[I kd,I nm,I sq,I (st:Int),I sb,I ln,I bs,.string (Ah aa),.slice A es.length c];go_enter func77,ntmps77;go_upto_region 1 with fail;generalize (((w.alloc (.cells b.cells 28)).alloc (.cells #[I kd,I nm,I sq,I (st:Int),I sb,I ln,I bs,.string (Ah aa),.slice A es.length c] 115)).alloc (.cells Yq 28))=u1 at *;replace H:=H.o.e y.o;replace z:=z.o.e y.o;obtain⟨R,T,W,X,q4,q5,q6,q7,q8⟩:=nine u.o;obtain⟨G,K,Q,g3,g4,g5,g6,g7,g8⟩:=nine F.o;obtain⟨z0,z1,z2,z3,z4,z5,z6,z7,z8⟩:=q.o.free9;obtain⟨k0,k1,k2,k3,k4,k5,k6,k7,k8⟩:=nine q.o;go_upto_region 7 with (first
     | (go_at_call 64
        refine(ae.o▸D5 b _ H.o.r ab H.o.f).mono ?_;rintro e w2 ⟨rfl,j⟩;replace H:=H.o.e j;replace u:=u.o.e j;replace F:=F.o.e j;replace q:=q.o.e j;replace z:=z.o.e j;replace y:=y.o.t j;clear j R T W X q4 q5 q6 q7 q8 G K Q g3 g4 g5 g6 g7 g8 z0 z1 z2 z3 z4 z5 z6 z7 z8 k0 k1 k2 k3 k4 k5 k6 k7 k8;obtain⟨R,T,W,X,q4,q5,q6,q7,q8⟩:=nine u.o;obtain⟨G,K,Q,g3,g4,g5,g6,g7,g8⟩:=nine F.o;obtain⟨z0,z1,z2,z3,z4,z5,z6,z7,z8⟩:=q.o.free9;obtain⟨k0,k1,k2,k3,k4,k5,k6,k7,k8⟩:=nine q.o)
     | (go_at_call 59
        refine(af.o▸Cy b _ H.o.r ab H.o.f).mono ?_;rintro e w3 ⟨rfl,j⟩;replace H:=H.o.e j;replace u:=u.o.e j;replace F:=F.o.e j;replace q:=q.o.e j;replace z:=z.o.e j;replace y:=y.o.t j;clear j R T W X q4 q5 q6 q7 q8 G K Q g3 g4 g5 g6 g7 g8 z0 z1 z2 z3 z4 z5 z6 z7 z8 k0 k1 k2 k3 k4 k5 k6 k7 k8;obtain⟨R,T,W,X,q4,q5,q6,q7,q8⟩:=nine u.o;obtain⟨G,K,Q,g3,g4,g5,g6,g7,g8⟩:=nine F.o;obtain⟨z0,z1,z2,z3,z4,z5,z6,z7,z8⟩:=q.o.free9;obtain⟨k0,k1,k2,k3,k4,k5,k6,k7,k8⟩:=nine q.o)
     | (go_at_call 57
        refine(Cb b _ H.o.r ab H.o.f tn ts HT.o).mono ?_;rintro e w4 ⟨A5,c5,rfl,_,_,ad,j⟩;have ag:=J ad;clear ad;replace H:=H.o.e j;replace u:=u.o.e j;replace F:=F.o.e j;replace q:=q.o.e j;replace z:=z.o.e j;replace y:=y.o.t j;clear j R T W X q4 q5 q6 q7 q8 G K Q g3 g4 g5 g6 g7 g8 z0 z1 z2 z3 z4 z5 z6 z7 z8 k0 k1 k2 k3 k4 k5 k6 k7 k8;obtain⟨R,T,W,X,q4,q5,q6,q7,q8⟩:=nine u.o;obtain⟨G,K,Q,g3,g4,g5,g6,g7,g8⟩:=nine F.o;obtain⟨z0,z1,z2,z3,z4,z5,z6,z7,z8⟩:=q.o.free9;obtain⟨k0,k1,k2,k3,k4,k5,k6,k7,k8⟩:=nine q.o)
     | (go_at_call 58
        refine(EG tn A5 c5 ts _ ag.o U sv ao.o).mono ?_;rintro e w5 ⟨rfl,j⟩;replace H:=H.o.e j;replace u:=u.o.e j;replace F:=F.o.e j;replace q:=q.o.e j;replace z:=z.o.e j;replace y:=y.o.t j;clear j R T W X q4 q5 q6 q7 q8 G K Q g3 g4 g5 g6 g7 g8 z0 z1 z2 z3 z4 z5 z6 z7 z8 k0 k1 k2 k3 k4 k5 k6 k7 k8;obtain⟨R,T,W,X,q4,q5,q6,q7,q8⟩:=nine u.o;obtain⟨G,K,Q,g3,g4,g5,g6,g7,g8⟩:=nine F.o;obtain⟨z0,z1,z2,z3,z4,z5,z6,z7,z8⟩:=q.o.free9;obtain⟨k0,k1,k2,k3,k4,k5,k6,k7,k8⟩:=nine q.o)
     | (go_at_call 152
        have bh:=q.o.lt;refine(Ny b kd nm sq sb ln bs st aa A c es _ H.o z.o bj aj.o bq).mono ?_;rintro e w6 ⟨A6,c6,l,rfl,ac,j⟩;rw[<-HM.o] at ac|-;rw[al.o] at ac|-;have b6:=j.size;have av:=J ac;clear ac;replace H:=H.o.e j;replace u:=u.o.e j;replace F:=F.o.e j;replace q:=q.o.e j;replace z:=z.o.e j;replace y:=y.o.t j;clear j R T W X q4 q5 q6 q7 q8 G K Q g3 g4 g5 g6 g7 g8 z0 z1 z2 z3 z4 z5 z6 z7 z8 k0 k1 k2 k3 k4 k5 k6 k7 k8;obtain⟨R,T,W,X,q4,q5,q6,q7,q8⟩:=nine u.o;obtain⟨G,K,Q,g3,g4,g5,g6,g7,g8⟩:=nine F.o;obtain⟨z0,z1,z2,z3,z4,z5,z6,z7,z8⟩:=q.o.free9;obtain⟨k0,k1,k2,k3,k4,k5,k6,k7,k8⟩:=nine q.o;obtain⟨y0,y1,y2,y3,y4,y5,y6,y7,y8⟩:=u.o.free9))
    obtain⟨bm,b1,b3,be,bf⟩:=av.o (by first|rfl|trivial);have bx:=J bm;have an:=J be;have bb:=J bf;clear bm be bf av;rw[<-bx.o] at am ap a9 az ba;have ca:=ap.o.1;have K3:O (Wrote w.heap.size w6 (w6.setCell (Y w 3) (.slice A6 l.length c6))):=J (Wrote.set w.heap.size 3 _ _);have L3:O (Lit w.heap.size (w.heap.size+3) w6 (w6.setCell (Y w 3) (.slice A6 l.length c6))):=J (Lit.wrote K3.o (zR _) U);have B3:O (BIs (w6.setCell (Y w 3) (.slice A6 l.length c6)) w.heap.size #[I b.self,.slice b.Av b.vs.length b.cv,I b.base,.slice A6 l.length c6,I b.stable,I b.sent,.slice b.Ap b.pend.length b.cp,.slice b.Am b.marks.length b.cm,.slice b.Af b.fls.length b.cf] 28):=J (u.o.set 3 _);have bd:O (OffR w.heap.size (w.heap.size+3) A6 (Aa.cells l)):=J (bb.o.offR bh);replace H:=J (H.o.lit OF.o L3.o);replace an:=J (an.o.lit bd.o L3.o);replace F:=J (F.o.wrote U K3.o);replace q:=J (q.o.wrote U K3.o);replace y:=J (L3.o.ext y.o (zR _));clear R T W X q4 q5 q6 q7 q8 G K Q g3 g4 g5 g6 g7 g8 z0 z1 z2 z3 z4 z5 z6 z7 z8 k0 k1 k2 k3 k4 k5 k6 k7 k8 y0 y1 y2 y3 y4 y5 y6 y7 y8 u K3 L3;generalize (w6.setCell (Y w 3) (.slice A6 l.length c6))=w7 at *;obtain⟨R,T,W,X,q4,q5,q6,q7,q8⟩:=nine B3.o;obtain⟨G,K,Q,g3,g4,g5,g6,g7,g8⟩:=nine F.o;have H2:O (({b with Al:=A6,cl:=c6,log:=l}:BM).Ok w7):=J (H.o.withLog an.o ba.o ap.o.2.2 ⟨b1,b3⟩);have b0:O (({b with Al:=A6,cl:=c6,log:=l}:BM).Off w.heap.size (w.heap.size+3)):=J (OF.o.withLog bd.o);have HF:O (DV b.st fr M=Be ⟨({b with Al:=A6,cl:=c6,log:=l}:BM).st,[],[]⟩ (min sb l.length)):=J (by rw[a9.o];rfl);have ax:O (Aq (Bm l b.stable (min sb l.length)) b.self<=b.pend.length):=J (by obtain⟨ex,b5⟩:=az.o;rw[b5] at am|-;exact Zy VV.o (ex:=ex) am.o _);obtain⟨mn,ai⟩:∃x,x=min sb (l.length:Int):=⟨_,rfl⟩;have bn:mn<=(l.length:Int):=U;have b8:=J ai;rw[<-ai] at HF ax;have b7:min sb (l.length:Int)=mn:=ai.symm;clear ai;go_wp2_with fail;refine(MB ({b with Al:=A6,cl:=c6,log:=l}:BM) mn _ H2.o VV.o.st0 bn ax.o).mono ?_;rintro e w8 ⟨b2,A7,c7,rfl,bg,b4,bp,bl,bi,bo,au,aq⟩;have hz:w.heap.size+3<=w7.heap.size:=q.o.lt;have bz:=J bp;have bw:=J bl;have ay:=J bi;have ak:=J bo;have bv:=J aq;have bu:=J (aq _ _ hz b0.o);replace q:=q.o.e au;replace y:=y.o.t au;clear bp bl bi bo aq au R T W X q4 q5 q6 q7 q8 G K Q g3 g4 g5 g6 g7 g8;obtain⟨z0,z1,z2,z3,z4,z5,z6,z7,z8⟩:=q.o.free9;obtain⟨k0,k1,k2,k3,k4,k5,k6,k7,k8⟩:=nine q.o;unfold BM.cells;obtain⟨D,hD⟩:∃x,x=(Be ⟨({b with Al:=A6,cl:=c6,log:=l}:BM).st,[],[]⟩ mn).dl:=⟨_,rfl⟩;rw[<-hD] at bg ay ak;rw[<-hD];have bt:=J hD;clear hD;go_wp2;refine Fi (v1:=.slice A7 D.length c7) results77 rfl rfl q.o (λwz hz=>?_);have WQ:=J (Lit.wrote (N:=w.heap.size) (M:=w.heap.size+3) hz U U);clear hz;rw[HF.o,<-bt.o];exact⟨b2,A7,c7,rfl,bg,b4,bz.o,bw.o.lit bu.o WQ.o,ay.o.lit (ak.o.offR hz) WQ.o,λp hx hq=>by have:=ak.o p hx hq;omega,WQ.o.ext y.o (zR _),λN M hM hb=>bv.o N M U (hb.withLog (bb.o.offR U))⟩
theorem G2{w wr W:World}{B:Nat}{v:Value}{l:List FlM}{x:FlM}(u:Row w x.A (Aa.cells x.log))(e:V w W)(j:x.log.length<=x.c/\x.c<=maxLen)(y:w.heap.size<=B)(z:flE.Own wr B v l):∀q∈[x],flE.ok q/\∀r∈flE.inn q,Row W r.1 r.2/\Apt v r:=by
 intro q D;rw[List.mem_singleton.1 D];exact⟨j,λr h=>by simp only[flE,zC,zN,or_false] at h;subst h;exact⟨u.ext e,Ll u y z⟩⟩
theorem ZN{w:World}{A:Option Addr}{l:List FlM}{i:Nat}{m y:Int}{u:Option Addr}{j:Nat}{q:List Ent}(h:flE.Box w A l)(z:l[i]?=some ⟨m,y,u,j,q⟩):q.length<=j/\j<=maxLen:=(h.2 _ (zX z)).1
theorem Oy(A:Option Addr)(c:Nat)(l:List FlM)(f:FlM)(w:World)(h:flE.Box w A l)(hf:Row w f.A (Aa.cells f.log))(bf:f.log.length<=f.c/\f.c<=maxLen)(hn:l.length<=100000) :
  Calls prog 68 #[.slice A l.length c,.agg #[I f.m,I f.b,.slice f.A f.log.length f.c]] w λe w'=>∃(A':Option Addr) (c':Nat) (l':List FlM),e=.returned (.slice A' l'.length c')/\l'.length<=c'/\c'<=maxLen/\l'.length<=2*l.length+1/\l'=En f (l.foldl (Bk FlM.m f) ([],false))/\flE.Box w' A' l'/\NewAt w.heap.size A' (flE.cells l')/\V w w':=by
 have H:=J h;have HR:=J hf;have ay:=J bf;clear h hf bf;obtain⟨j,W,T,X,fl⟩:=f;simp only at HR ay|-;obtain⟨fS,be⟩:∃x,x=l.foldl (Bk FlM.m ⟨j,W,T,X,fl⟩) ([],false):=⟨_,rfl⟩;rw[<-be];have bh:=J be;clear be;have y:O (V w (w.alloc (.cells #[I j,I W,.slice T fl.length X] 80))):=J (V.new _ _);have F:O (BIs (w.alloc (.cells #[I j,I W,.slice T fl.length X] 80)) w.heap.size #[I j,I W,.slice T fl.length X] 80):=J (BIs.new _ _ _);have bg:w.heap.size<=(w.alloc (.cells #[I j,I W,.slice T fl.length X] 80)).heap.size:=y.o.size;go_enter func68,ntmps68;go_upto_region 1 with fail;generalize (w.alloc (.cells #[I j,I W,.slice T fl.length X] 80))=u1 at *;replace H:=H.o.e y.o;replace HR:=HR.o.e y.o;have HG:=F.o.n3;go_wp2;go_loopw [5,6,7] (λs d i wr=>∃(k:Nat) (A':Option Addr) (c':Nat) (out:List FlM) (dn:Bool),k<=l.length/\s=.slice A' out.length c'/\d=.bool dn/\i=I k/\out.length<=2*k/\O ((l.take k).foldl (Bk FlM.m ⟨j,W,T,X,fl⟩) ([],false)=(out,dn))/\O (flE.OB wr u1.heap.size (.slice A' out.length c') out)/\O (V u1 wr)) (λ_ _ i _=>l.length - (intOf i).toNat)
 case atStart=>exact⟨0,none,0,[],false,zO _,rfl,rfl,rfl,zj,J rfl,J (Elem.OB.nil _ _),J (V.refl _)⟩
 case round=>
  obtain⟨k,A1,c1,out,dn,hk,rfl,rfl,rfl,bl,HS,HO,XE⟩:=hrel;obtain⟨w4,rfl⟩:∃x,x=wr:=⟨wr,rfl⟩;by_cases bk:k<l.length;rotate_left
  .have bj:k=l.length:=U;subst bj;rw[List.take_length,<-bh.o] at HS;obtain⟨G,K,Q⟩:=HG _ XE.o;cases dn with
   | true=>
    go_wp2;go_ret;obtain⟨A9,c9,he,bb,bc,bd⟩:=HO.o.slice;cases he;exact⟨A1,c1,out,rfl,bb,bc,by  omega,by rw[HS.o];rfl,bd,HO.o.1.newAt bg,y.o.trans XE.o⟩
   | false=>
    go_wp2_with (first
     | (at_builtin
        have u:O (Row (w4.alloc (.cells #[I j,I W,.slice T fl.length X] 80)) (some (Y w4 0)) (flE.cells [⟨j,W,T,X,fl⟩])):=J (Gn (FT _ _ _ _ _ _));have OW:=J (Elem.OB.ext (HO.o) (V.new w4 (.cells #[I j,I W,.slice T fl.length X] 80)));have R:=J (V.trans (XE.o) (V.new w4 (.cells #[I j,I W,.slice T fl.length X] 80)));refine By flE rfl (.tmp 47) (.tmp 49) rfl _ u1.heap.size _ out zi _ 1 1 [⟨j,W,T,X,fl⟩] zi rfl u.o OW.o (G2 (HR.o) R.o (ay.o) (zR _) OW.o.1) (by  omega) R.o.size ?_;intro az wa ho hg hs;obtain⟨aa,hL⟩:∃z,z=out++[⟨j,W,T,X,fl⟩]:=⟨_,rfl⟩;rw[<-hL] at ho;have ag:=J hL;have ac:O (aa.length=out.length+1):=J (by rw[hL];simp);clear hL;have aq:O (V u1 wa):=J (hg.below R.o R.o.size (λq hq=>(OW.o.1.lt q hq).1));obtain⟨av,aw,rfl,_,_,_⟩:=ho.slice;have ab:=J ho;clear ho hg hs u OW R))
    go_wp2;go_ret;obtain⟨A9,c9,he,bb,bc,bd⟩:=ab.o.slice;cases he;exact⟨av,aw,aa,rfl,bb,bc,by have:=ac.o;omega,by rw[ag.o,HS.o];rfl,bd,ab.o.1.newAt bg,y.o.trans aq.o⟩
  obtain⟨vb,vo,n,gb,gA,gc,gl,rfl,hv,HX,HV⟩:=Hj H.o bk;have ba:=J (ZN H.o HV.o);have aj:=J (Ii (f:=Bk FlM.m ⟨j,W,T,X,fl⟩) (a:=(([]:List FlM),false)) HV);rw[HS.o] at aj;cases dn with
  | true=>
   have ax:True:=trivial;by_cases af:n=j
   .have hd:(n != j)=false:=by simpa using af
    have ao:O ((l.take (k+1)).foldl (Bk FlM.m ⟨j,W,T,X,fl⟩) ([],false)=(out,true)):=J (by rw[aj.o];simp[Bk,af]);clear aj;go_upto_region 6 with fail;refine eD 12 XE.o λD=>?_;refine eb 0 ?_;refine ea 2 ?_;refine ef 3 ?_;refine ef 7 ?_;refine ea 11 ?_;refine eA ?_;have ak:=J D;have am:=HO.o.e zW;clear D;go_upto_region 9 with fail;refine eD 8 ak.o λD=>?_;refine ec 0 ?_;refine ec 4 ?_;refine eA ?_;have ae:=J D;have an:=am.o.e zW;clear D;go_wp2;go_roundw
    case rel=>exact⟨k+1,A1,c1,out,true,U,rfl,rfl,by go_num,by  omega,ao,an,ae⟩
    case measure=>simp[intOf];omega
   .have hd:(n != j)=true:=by simpa using af
    have ao:O ((l.take (k+1)).foldl (Bk FlM.m ⟨j,W,T,X,fl⟩) ([],false)=(out++[⟨n,gb,gA,gc,gl⟩],true)):=J (by rw[aj.o];simp[Bk,af]);clear aj;go_upto_region 6 with fail;refine eD 12 XE.o λD=>?_;refine eb 0 ?_;refine ea 2 ?_;refine ef 3 ?_;refine ef 7 ?_;refine ea 11 ?_;refine eA ?_;have ak:=J D;have am:=HO.o.e zW;clear D;go_upto_region 9 with fail;refine eD 8 ak.o λD=>?_;refine ec 0 ?_;refine ec 4 ?_;refine eA ?_;have ae:=J D;have an:=am.o.e zW;clear D;obtain⟨v0,v1,v2⟩:=hv _ ae.o;go_wp2_with (first
     | (at_builtin
        have u:O (Row (w4.drew.drew.alloc (.cells #[I n,I gb,.slice gA gl.length gc] 80)) (some (Z w4.drew.drew.heap.size 0)) (flE.cells [⟨n,gb,gA,gc,gl⟩])):=J (Gn (FT _ _ _ _ _ _));have OW:=J (Elem.OB.ext (an.o) (V.new w4.drew.drew (.cells #[I n,I gb,.slice gA gl.length gc] 80)));have R:=J (V.trans (ae.o) (V.new w4.drew.drew (.cells #[I n,I gb,.slice gA gl.length gc] 80)));refine By flE rfl (.tmp 38) (.tmp 43) rfl _ u1.heap.size _ out zi _ 1 1 [⟨n,gb,gA,gc,gl⟩] zi rfl u.o OW.o (G2 (HX.o) R.o (ba.o) (zR _) OW.o.1) (by  omega) R.o.size ?_;intro a9 wb ho hg hs;obtain⟨ad,hL⟩:∃z,z=out++[⟨n,gb,gA,gc,gl⟩]:=⟨_,rfl⟩;rw[<-hL] at ho;have ah:=J hL;have al:O (ad.length=out.length+1):=J (by rw[hL];simp);clear hL;have ar:O (V u1 wb):=J (hg.below R.o R.o.size (λq hq=>(OW.o.1.lt q hq).1));obtain⟨ap,au,rfl,_,_,_⟩:=ho.slice;have ai:=J ho;clear ho hg hs u OW R))
    clear v0 v1 v2;go_roundw
    case rel=>exact⟨k+1,ap,au,ad,true,U,rfl,rfl,by go_num,by have:=al.o;omega,J (by rw[ah.o];exact ao.o),ai,ar⟩
    case measure=>simp[intOf];omega
  | false=>
   by_cases ax:j<=n
   .have bi:decide (j<=n)=true:=decide_eq_true ax;by_cases af:n=j
    .have hd:(n != j)=false:=by simpa using af
     have ao:O ((l.take (k+1)).foldl (Bk FlM.m ⟨j,W,T,X,fl⟩) ([],false)=(out++[⟨j,W,T,X,fl⟩],true)):=J (by rw[aj.o];simp[Bk,af]);clear aj;go_upto_region 6 with fail;refine eD 12 XE.o λD=>?_;refine ec 0 ?_;refine ec 4 ?_;refine ec 8 ?_;refine eA ?_;have ak:=J D;have am:=HO.o.e zW;clear D;obtain⟨G,K,Q⟩:=HG _ ak.o;go_upto_region 9 with (first
      | (at_builtin
         have u:O (Row (w4.drew.alloc (.cells #[I j,I W,.slice T fl.length X] 80)) (some (Z w4.drew.heap.size 0)) (flE.cells [⟨j,W,T,X,fl⟩])):=J (Gn (FT _ _ _ _ _ _));have OW:=J (Elem.OB.ext (am.o) (V.new w4.drew (.cells #[I j,I W,.slice T fl.length X] 80)));have R:=J (V.trans (ak.o) (V.new w4.drew (.cells #[I j,I W,.slice T fl.length X] 80)));refine By flE rfl (.tmp 26) (.tmp 28) rfl _ u1.heap.size _ out zi _ 1 1 [⟨j,W,T,X,fl⟩] zi rfl u.o OW.o (G2 (HR.o) R.o (ay.o) (zR _) OW.o.1) (by  omega) R.o.size ?_;intro az wa ho hg hs;obtain⟨aa,hL⟩:∃z,z=out++[⟨j,W,T,X,fl⟩]:=⟨_,rfl⟩;rw[<-hL] at ho;have ag:=J hL;have ac:O (aa.length=out.length+1):=J (by rw[hL];simp);clear hL;have aq:O (V u1 wa):=J (hg.below R.o R.o.size (λq hq=>(OW.o.1.lt q hq).1));obtain⟨av,aw,rfl,_,_,_⟩:=ho.slice;have ab:=J ho;clear ho hg hs u OW R))
     clear G K Q;refine eD 8 aq.o λD=>?_;refine ec 0 ?_;refine ec 4 ?_;refine eA ?_;have ae:=J D;have an:=ab.o.e zW;clear D;go_wp2;go_roundw
     case rel=>exact⟨k+1,av,aw,aa,true,U,rfl,rfl,by go_num,by have:=ac.o;omega,J (by rw[ag.o];exact ao.o),an,ae⟩
     case measure=>simp[intOf];omega
    .have hd:(n != j)=true:=by simpa using af
     have ao:O ((l.take (k+1)).foldl (Bk FlM.m ⟨j,W,T,X,fl⟩) ([],false)=(out++[⟨j,W,T,X,fl⟩]++[⟨n,gb,gA,gc,gl⟩],true)):=J (by rw[aj.o];simp[Bk,ax,af]);clear aj;go_upto_region 6 with fail;refine eD 12 XE.o λD=>?_;refine ec 0 ?_;refine ec 4 ?_;refine ec 8 ?_;refine eA ?_;have ak:=J D;have am:=HO.o.e zW;clear D;obtain⟨G,K,Q⟩:=HG _ ak.o;go_upto_region 9 with (first
      | (at_builtin
         have u:O (Row (w4.drew.alloc (.cells #[I j,I W,.slice T fl.length X] 80)) (some (Z w4.drew.heap.size 0)) (flE.cells [⟨j,W,T,X,fl⟩])):=J (Gn (FT _ _ _ _ _ _));have OW:=J (Elem.OB.ext (am.o) (V.new w4.drew (.cells #[I j,I W,.slice T fl.length X] 80)));have R:=J (V.trans (ak.o) (V.new w4.drew (.cells #[I j,I W,.slice T fl.length X] 80)));refine By flE rfl (.tmp 26) (.tmp 28) rfl _ u1.heap.size _ out zi _ 1 1 [⟨j,W,T,X,fl⟩] zi rfl u.o OW.o (G2 (HR.o) R.o (ay.o) (zR _) OW.o.1) (by  omega) R.o.size ?_;intro az wa ho hg hs;obtain⟨aa,hL⟩:∃z,z=out++[⟨j,W,T,X,fl⟩]:=⟨_,rfl⟩;rw[<-hL] at ho;have ag:=J hL;have ac:O (aa.length=out.length+1):=J (by rw[hL];simp);clear hL;have aq:O (V u1 wa):=J (hg.below R.o R.o.size (λq hq=>(OW.o.1.lt q hq).1));obtain⟨av,aw,rfl,_,_,_⟩:=ho.slice;have ab:=J ho;clear ho hg hs u OW R))
     clear G K Q;refine eD 8 aq.o λD=>?_;refine ec 0 ?_;refine ec 4 ?_;refine eA ?_;have ae:=J D;have an:=ab.o.e zW;clear D;obtain⟨v0,v1,v2⟩:=hv _ ae.o;go_wp2_with (first
      | (at_builtin
         have u:O (Row (wa.drew.alloc (.cells #[I n,I gb,.slice gA gl.length gc] 80)) (some (Z wa.drew.heap.size 0)) (flE.cells [⟨n,gb,gA,gc,gl⟩])):=J (Gn (FT _ _ _ _ _ _));have OW:=J (Elem.OB.ext (an.o) (V.new wa.drew (.cells #[I n,I gb,.slice gA gl.length gc] 80)));have R:=J (V.trans (ae.o) (V.new wa.drew (.cells #[I n,I gb,.slice gA gl.length gc] 80)));refine By flE rfl (.tmp 38) (.tmp 43) rfl _ u1.heap.size _ aa zi _ 1 1 [⟨n,gb,gA,gc,gl⟩] zi rfl u.o OW.o (G2 (HX.o) R.o (ba.o) (zR _) OW.o.1) (by have:=ac.o;omega) R.o.size ?_;intro a9 wb ho hg hs;obtain⟨ad,hL⟩:∃z,z=aa++[⟨n,gb,gA,gc,gl⟩]:=⟨_,rfl⟩;rw[<-hL] at ho;have ah:=J hL;have al:O (ad.length=aa.length+1):=J (by rw[hL];simp);clear hL;have ar:O (V u1 wb):=J (hg.below R.o R.o.size (λq hq=>(OW.o.1.lt q hq).1));obtain⟨ap,au,rfl,_,_,_⟩:=ho.slice;have ai:=J ho;clear ho hg hs u OW R))
     clear v0 v1 v2;go_roundw
     case rel=>exact⟨k+1,ap,au,ad,true,U,rfl,rfl,by go_num,by have:=al.o;have:=ac.o;omega,J (by rw[ah.o,ag.o];exact ao.o),ai,ar⟩
     case measure=>simp[intOf];omega
   .have bi:decide (j<=n)=false:=decide_eq_false ax;have af:¬n=j:=U;have hd:(n != j)=true:=by simpa using af
    have ao:O ((l.take (k+1)).foldl (Bk FlM.m ⟨j,W,T,X,fl⟩) ([],false)=(out++[⟨n,gb,gA,gc,gl⟩],false)):=J (by rw[aj.o];simp[Bk,ax,af]);clear aj;go_upto_region 6 with fail;refine eD 12 XE.o λD=>?_;refine ec 0 ?_;refine ec 4 ?_;refine ec 8 ?_;refine eA ?_;have ak:=J D;have am:=HO.o.e zW;clear D;go_upto_region 9 with fail;refine eD 8 ak.o λD=>?_;refine ec 0 ?_;refine ec 4 ?_;refine eA ?_;have ae:=J D;have an:=am.o.e zW;clear D;obtain⟨v0,v1,v2⟩:=hv _ ae.o;go_wp2_with (first
     | (at_builtin
        have u:O (Row (w4.drew.drew.alloc (.cells #[I n,I gb,.slice gA gl.length gc] 80)) (some (Z w4.drew.drew.heap.size 0)) (flE.cells [⟨n,gb,gA,gc,gl⟩])):=J (Gn (FT _ _ _ _ _ _));have OW:=J (Elem.OB.ext (an.o) (V.new w4.drew.drew (.cells #[I n,I gb,.slice gA gl.length gc] 80)));have R:=J (V.trans (ae.o) (V.new w4.drew.drew (.cells #[I n,I gb,.slice gA gl.length gc] 80)));refine By flE rfl (.tmp 38) (.tmp 43) rfl _ u1.heap.size _ out zi _ 1 1 [⟨n,gb,gA,gc,gl⟩] zi rfl u.o OW.o (G2 (HX.o) R.o (ba.o) (zR _) OW.o.1) (by  omega) R.o.size ?_;intro a9 wb ho hg hs;obtain⟨ad,hL⟩:∃z,z=out++[⟨n,gb,gA,gc,gl⟩]:=⟨_,rfl⟩;rw[<-hL] at ho;have ah:=J hL;have al:O (ad.length=out.length+1):=J (by rw[hL];simp);clear hL;have ar:O (V u1 wb):=J (hg.below R.o R.o.size (λq hq=>(OW.o.1.lt q hq).1));obtain⟨ap,au,rfl,_,_,_⟩:=ho.slice;have ai:=J ho;clear ho hg hs u OW R))
    clear v0 v1 v2;go_roundw
    case rel=>exact⟨k+1,ap,au,ad,false,U,rfl,rfl,by go_num,by have:=al.o;omega,J (by rw[ah.o];exact ao.o),ai,ar⟩
    case measure=>simp[intOf];omega
theorem LX{P:Prop}(h:P:=by
 replace H:=H.o.e D;replace u:=u.o.e D;replace q:=q.o.e D;replace y:=y.o.t D;clear D HN HG al;obtain⟨R,T,W,X,q4,q5,q6,q7,q8⟩:=nine u.o;obtain⟨z0,z1,z2,z3,z4,z5,z6,z7,z8⟩:=q.o.free9;obtain⟨k0,k1,k2,k3,k4,k5,k6,k7,k8⟩:=nine q.o;go_wp2;refine DW results79 rfl q.o (λwz hz=>?_);have WQ:=J (Lit.wrote (N:=w.heap.size) (M:=w.heap.size+3) hz U U);clear hz;exact⟨b,rfl,HF.o.symm,H.o.lit OF.o WQ.o,WQ.o.ext y.o (zR _),λ_ _ _ h _=>h⟩):P:=h
theorem PL{α:Type}(u:α->Int)(x:α):∀(l out:List α) (q:Bool),∀g∈En x (l.foldl (Bk u x) (out,q)),g=x\/g∈out\/g∈l:=by
 intro l;induction l with
 | nil=>
  intro out q g j;simp only[List.foldl_nil] at j;unfold En at j;split at j
  .exact .inr (.inl j)
  .rcases List.mem_append.1 j with h|h
   .exact .inr (.inl h)
   .exact .inl (List.mem_singleton.1 h)
 | cons y l z=>
  intro out q g j;simp only[List.foldl_cons] at j;rcases z _ _ g j with h|h|h
  .exact .inl h
  .simp only at h;rcases List.mem_append.1 h with h|h
   .rcases List.mem_append.1 h with h|h
    .exact .inr (.inl h)
    .split at h
     .exact .inl (List.mem_singleton.1 h)
     .cases h
   .split at h
    .rw[List.mem_singleton.1 h];exact .inr (.inr List.mem_cons_self)
    .cases h
  .exact .inr (.inr (List.mem_cons_of_mem _ h))
theorem Yn{α β:Type}(f:α->β)(h:α->Int)(q:β->Int)(u:∀a,q (f a)=h a)(x:α):∀(l out:List α) (j:Bool),
  (l.foldl (Bk h x) (out,j)).1.map f=((l.map f).foldl (Bk q (f x)) (out.map f,j)).1/\(l.foldl (Bk h x) (out,j)).2=((l.map f).foldl (Bk q (f x)) (out.map f,j)).2:=by
 intro l;induction l with
 | nil=>intro out j;exact⟨rfl,rfl⟩
 | cons y l z=>
  intro out j;simp only[List.foldl_cons,List.map_cons];have e:Bk q (f x) (out.map f,j) (f y)=((Bk h x (out,j) y).1.map f,(Bk h x (out,j) y).2):=by
   unfold Bk;simp only[u,List.map_append];congr 2
   .congr 1;split<;>rfl
   .split<;>rfl
  rw[e];exact z _ _
theorem Qk{α β:Type}(f:α->β)(h:α->Int)(q:β->Int)(y:∀a,q (f a)=h a)(x:α)(l:List α):(En x (l.foldl (Bk h x) ([],false))).map f=En (f x) ((l.map f).foldl (Bk q (f x)) ([],false)):=by
 obtain⟨j,u⟩:=Yn f h q y x l [] false;simp only[List.map_nil] at j u;unfold En;rw[<-u];split
 .exact j
 .rw[List.map_append,j];rfl
section
variable {w:World} {b:BM} {N M:Nat} {A:Option Addr} {c:Nat}
theorem BM.Ok.withFls(h:b.Ok w){l:List FlM}(u:flE.Box w A l)(q:l.length<=100000)(j:∀f∈l,f.log.length<=100000/\∀e∈f.log,e.p.length<=1000000):({b with Af:=A,cf:=c,fls:=l}:BM).Ok w:=
 ⟨⟨h.r.vs,h.r.log,h.r.pend,h.r.marks,u⟩,⟨h.f.vs,h.f.vx,h.f.log,h.f.lp,h.f.pend,h.f.pp,h.f.marks,q,j,h.f.cl⟩,h.cp⟩
theorem BM.Off.withFls(h:b.Off N M){l:List FlM}(q:OffR N M A (flE.cells l))(j:∀f∈l,OffR N M f.A (Aa.cells f.log)):({b with Af:=A,cf:=c,fls:=l}:BM).Off N M:=⟨h.vs,h.vi,h.log,h.pend,h.marks,q,j⟩
end
theorem Na{s:St}(h:VS s):(s.fls.map Prod.fst).Pairwise (·<·):=h.fla.1
def RSm(w:World)(b:BM)(A:Option Addr)(es:List Ent)(s:St)(en:Ending)(w':World):Prop:=
 ∃b2:BM,en=.returned (.agg b2.cells)/\b2.st=s/\b2.Ok w'/\V w w'/\∀N M,M<=w.heap.size->b.Off N M->OffR N M A (Aa.cells es)->b2.Off N M
def FA(s:St)(fr:Int)(m:Msg):St:=if (!AD s&&AE s)=true/\m.num=(Ar s.views).1/\(AQ fr&&Bh s.views (fr,m.first,m.ents))=true then BJ {s with fls:=Bz s.fls (fr,m.first,m.ents)} else s
theorem Tm(b:BM)(fr kd nm sq sa sb ln bs:Int)(aa:List UInt8)(A:Option Addr)(c:Nat)(es:List Ent)(w:World)(h:b.Ok w)(hv:VS b.st)(bo:b.fls.length<=1000)(he:Row w A (Aa.cells es))(aw:es.length<=c/\c<=maxLen)(bm:es.length<=2000)(ax:∀e∈es,e.p.length<=6000) :
  Calls prog 79 #[.agg b.cells,I fr,.agg #[I kd,I nm,I sq,I sa,I sb,I ln,I bs,.string (Ah aa),.slice A es.length c]] w (RSm w b A es (FA b.st fr ⟨kd,nm,bs,sb,aa,es⟩)):=by
 have H:=J h;have OF:=J h.far3;have VV:=J hv;have z:=J he;have af:=J ax;have ba:=J aw;have bb:O (OffR w.heap.size (w.heap.size+3) A (Aa.cells es)):=J (he.off (zR _));have ab:0<b.vs.length:=by have:=(DY hv.vs).1;rw[show b.st.views=vws b.vs from rfl,AW] at this;exact this
 obtain⟨⟨tn,ts⟩,ht⟩:∃v,Ar (vws b.vs)=v:=⟨_,rfl⟩;have HT:=J ht;obtain⟨M,hM⟩:∃m,m=(⟨kd,nm,bs,sb,aa,es⟩:Msg):=⟨_,rfl⟩;rw[<-hM];have HM:=J hM;clear h hv ht he ax hM aw;obtain⟨y,u,F,q,ah⟩:=ES w b.cells #[I kd,I nm,I sq,I sa,I sb,I ln,I bs,.string (Ah aa),.slice A es.length c];go_enter func79,ntmps79;go_upto_region 1 with fail;generalize (((w.alloc (.cells b.cells 28)).alloc (.cells #[I kd,I nm,I sq,I sa,I sb,I ln,I bs,.string (Ah aa),.slice A es.length c] 115)).alloc (.cells Yq 28))=u1 at *;replace H:=H.o.e y.o;replace z:=z.o.e y.o;obtain⟨G,K,Q,g3,g4,g5,g6,g7,g8⟩:=nine F.o;go_upto_region 2 with fail;have X2:O (V u1 (u1.alloc (.cells #[I fr,I bs,.slice A es.length c] 80))):=J (V.new _ _);have BF:O (BIs (u1.alloc (.cells #[I fr,I bs,.slice A es.length c] 80)) u1.heap.size #[I fr,I bs,.slice A es.length c] 80):=J (BIs.new _ _ _);generalize (u1.alloc (.cells #[I fr,I bs,.slice A es.length c] 80))=u2 at *;generalize u1.heap.size=rf at *;replace H:=H.o.e X2.o;replace z:=z.o.e X2.o;replace u:=u.o.e X2.o;replace F:=F.o.e X2.o;replace q:=q.o.e X2.o;replace y:=y.o.t X2.o;clear X2 G K Q g3 g4 g5 g6 g7 g8;have HN:=u.o.n9;have HG:=λw' (x:V u2 w')=>nine (F.o.ext x);have al:=BF.o.n3;simp only[N9] at HN;have bn:=Ej;cases hco:(!AD b.st&&AE b.st) with
 | false=>
  have ac:=J hco;have HF:O (FA b.st fr M=b.st):=J (if_neg (λh=>by rw[hco] at h;exact absurd h.1 zd));refine eD 17 (V.refl _) λD=>?_;refine ea 0 ?_;refine eG 1 D (ac.o▸EW b _ (H.o.r.ext D) ab H.o.f) λwR D=>?_;refine eb 2 ?_;refine ef 4 ?_;refine ee 8 ?_;refine eb 10 ?_;refine ef 12 ?_;refine ea 16 ?_;refine eA ?_;exact LX
 | true=>
  have ac:=J hco;by_cases h1:nm=tn;rotate_left
  .have d1:(nm != tn)=true:=by simpa using h1
   have H1:=J h1;clear h1;have HF:O (FA b.st fr M=b.st):=J (if_neg (λh=>H1.o (by have:=h.2.1;rw[HM.o,show b.st.views=vws b.vs from rfl,HT.o] at this;exact this)));refine eD 17 (V.refl _) λD=>?_;refine ea 0 ?_;refine eG 1 D (ac.o▸EW b _ (H.o.r.ext D) ab H.o.f) λwR D=>?_;refine ec 2 ?_;refine ea 6 ?_;refine eE 7 (Cb b _ (H.o.r.ext D) ab H.o.f tn ts HT.o) ?_;rintro _ wR ⟨A5,c5,rfl,_,_,_,hx⟩;refine⟨_,rfl,D.trans hx,λD=>?_⟩;refine ec 8 ?_;refine ef 12 ?_;refine ea 16 ?_;refine eA ?_;exact LX
  have d1:(nm != tn)=false:=by simpa using h1
  have H1:=J h1;clear h1;cases hpo:(AQ fr&&Bh (vws b.vs) (fr,bs,es)) with
  | false=>
   have ae:=J hpo;have HF:O (FA b.st fr M=b.st):=J (if_neg (λh=>by have:=h.2.2;rw[HM.o,show b.st.views=vws b.vs from rfl] at this;simp only at this;rw[hpo] at this;cases this));refine eD 17 (V.refl _) λD=>?_;refine ea 0 ?_;refine eG 1 D (ac.o▸EW b _ (H.o.r.ext D) ab H.o.f) λwR D=>?_;refine ec 2 ?_;refine ea 6 ?_;refine eE 7 (Cb b _ (H.o.r.ext D) ab H.o.f tn ts HT.o) ?_;rintro _ wR ⟨A5,c5,rfl,_,_,_,hx⟩;refine⟨_,rfl,D.trans hx,λD=>?_⟩;refine ec 8 ?_;refine eb 12 ?_;refine eG 14 D (ae.o▸Hx b ⟨fr,bs,A,c,es⟩ _ (H.o.ext D) (z.o.ext D) (by simp only;omega) (λe he=>zL (af.o e he) U)) λwR D=>?_;refine eb 15 ?_;refine eA ?_;exact LX
  | true=>
   have ae:=J hpo;have ak:O (FA b.st fr M=BJ {b.st with fls:=Bz b.st.fls (fr,bs,es)}):=J (by rw[HM.o];exact if_pos ⟨hco,by rw[show b.st.views=vws b.vs from rfl,HT.o];exact H1.o,hpo⟩);have an:O (VS {b.st with fls:=Bz b.st.fls (fr,bs,es)}):=J (by
    simp only[zB,Bool.not_eq_true'] at hco hpo;exact VV.o.put (f:=(fr,bs,es)) hco.1 hco.2 hpo.1 hpo.2)
   clear hco hpo;refine eD 17 (V.refl _) λD=>?_;refine ea 0 ?_;refine eG 1 D (ac.o▸EW b _ (H.o.r.ext D) ab H.o.f) λwR D=>?_;refine ec 2 ?_;refine ea 6 ?_;refine eE 7 (Cb b _ (H.o.r.ext D) ab H.o.f tn ts HT.o) ?_;rintro _ wR ⟨A5,c5,rfl,_,_,_,hx⟩;refine⟨_,rfl,D.trans hx,λD=>?_⟩;refine ec 8 ?_;refine eb 12 ?_;refine eG 14 D (ae.o▸Hx b ⟨fr,bs,A,c,es⟩ _ (H.o.ext D) (z.o.ext D) (by simp only;omega) (λe he=>zL (af.o e he) U)) λwR D=>?_;refine eb 15 ?_;refine eA ?_;replace H:=H.o.e D;replace z:=z.o.e D;replace u:=u.o.e D;replace BF:=BF.o.e D;replace q:=q.o.e D;replace y:=y.o.t D;clear D HN HG al ac ae d1;obtain⟨R,T,W,X,q4,q5,q6,q7,q8⟩:=nine u.o;obtain⟨y0,y1,y2,y3,y4,y5,y6,y7,y8⟩:=u.o.free9;obtain⟨f0,f1,f2⟩:=BF.o.n3 _ (V.refl _);go_upto_region 5 with (first
    | (go_at_call 68
       have bj:=q.o.lt;refine(Oy b.Af b.cf b.fls ⟨fr,bs,A,c,es⟩ _ H.o.r.fls z.o ba.o U).mono ?_;rintro e w4 ⟨A6,c6,l,rfl,bk,bl,aq,ar,au,av,j⟩;have HL:=J ar;have ad:=J au;have am:=J av;have a9:=J aq;clear ar au av aq;replace H:=H.o.e j;replace u:=u.o.e j;replace q:=q.o.e j;replace y:=y.o.t j;clear j f0 f1 f2 R T W X q4 q5 q6 q7 q8 y0 y1 y2 y3 y4 y5 y6 y7 y8;obtain⟨R,T,W,X,q4,q5,q6,q7,q8⟩:=nine u.o;obtain⟨y0,y1,y2,y3,y4,y5,y6,y7,y8⟩:=u.o.free9))
   have bf:O (l.map FlM.v=Bz b.st.fls (fr,bs,es)):=J (by rw[HL.o,Qk FlM.v FlM.m Prod.fst (λ_=>rfl)];exact PW (l:=b.st.fls) (fr,bs,es) (Na VV.o));have ag:O (∀f∈l,f=⟨fr,bs,A,c,es⟩\/f∈b.fls):=J (λf hf=>by rw[HL.o] at hf;rcases PL FlM.m ⟨fr,bs,A,c,es⟩ b.fls [] false f hf with h|h|h;exact .inl h;cases h;exact .inr h);have K3:O (Wrote w.heap.size w4 (w4.setCell (Y w 8) (.slice A6 l.length c6))):=J (Wrote.set w.heap.size 8 _ _);have L3:O (Lit w.heap.size (w.heap.size+3) w4 (w4.setCell (Y w 8) (.slice A6 l.length c6))):=J (Lit.wrote K3.o (zR _) U);have B3:O (BIs (w4.setCell (Y w 8) (.slice A6 l.length c6)) w.heap.size #[I b.self,.slice b.Av b.vs.length b.cv,I b.base,.slice b.Al b.log.length b.cl,I b.stable,I b.sent,.slice b.Ap b.pend.length b.cp,.slice b.Am b.marks.length b.cm,.slice A6 l.length c6] 28):=J (u.o.set 8 _);have ap:O (OffR w.heap.size (w.heap.size+3) A6 (flE.cells l)):=J (am.o.offR bj);have ao:O (∀f∈l,OffR w.heap.size (w.heap.size+3) f.A (Aa.cells f.log)):=J (λf hf=>by rcases ag.o f hf with rfl|h;exact bb.o;exact OF.o.fi f h);replace ad:O (flE.Box (w4.setCell (Y w 8) (.slice A6 l.length c6)) A6 l):=J ⟨ad.o.1.lit ap.o L3.o,λf hf=>⟨(ad.o.2 f hf).1,λr hr=>by simp only[flE,zC,zN,or_false] at hr;subst hr;exact((ad.o.2 f hf).2 (f.A,Aa.cells f.log) (by simp[flE])).lit (ao.o f hf) L3.o⟩⟩;replace H:=J (H.o.lit OF.o L3.o);replace q:=J (q.o.wrote U K3.o);replace y:=J (L3.o.ext y.o (zR _));clear R T W X q4 q5 q6 q7 q8 y0 y1 y2 y3 y4 y5 y6 y7 y8 u K3 L3;generalize (w4.setCell (Y w 8) (.slice A6 l.length c6))=w7 at *;obtain⟨R,T,W,X,q4,q5,q6,q7,q8⟩:=nine B3.o;have H2:O (({b with Af:=A6,cf:=c6,fls:=l}:BM).Ok w7):=J (H.o.withFls ad.o (by have:=a9.o;omega) (λf hf=>by rcases ag.o f hf with rfl|h;exact⟨by simp only;omega,λe he=>zL (af.o e he) U⟩;exact H.o.f.fl f h));have bi:O (({b with Af:=A6,cf:=c6,fls:=l}:BM).Off w.heap.size (w.heap.size+3)):=J (OF.o.withFls ap.o ao.o);have bh:O (({b with Af:=A6,cf:=c6,fls:=l}:BM).st={b.st with fls:=Bz b.st.fls (fr,bs,es)}):=J (by show (⟨_,_,_,_,_,_,_,_,l.map FlM.v⟩:St)=_;rw[bf.o];rfl);rw[<-bh.o] at an ak;go_wp2_with fail;refine(JR ({b with Af:=A6,cf:=c6,fls:=l}:BM) _ H2.o an.o).mono ?_;rintro e w8 ⟨b2,rfl,az,ay,aj,ai⟩;have hz:w.heap.size+3<=w7.heap.size:=q.o.lt;have bg:=J az;have be:=J ay;have bd:=J ai;have bc:=J (ai _ _ hz bi.o);replace q:=q.o.e aj;replace y:=y.o.t aj;clear az ay ai aj R T W X q4 q5 q6 q7 q8;obtain⟨z0,z1,z2,z3,z4,z5,z6,z7,z8⟩:=q.o.free9;obtain⟨k0,k1,k2,k3,k4,k5,k6,k7,k8⟩:=nine q.o;unfold BM.cells;go_wp2;refine DW results79 rfl q.o (λwz hz=>?_);have WQ:=J (Lit.wrote (N:=w.heap.size) (M:=w.heap.size+3) hz U U);clear hz;exact⟨b2,rfl,by rw[bg.o,ak.o],be.o.lit bc.o WQ.o,WQ.o.ext y.o (zR _),λN M hM hb hE=>bd.o N M U (hb.withFls (am.o.offR U) (λf hf=>by rcases ag.o f hf with rfl|h;exact hE;exact hb.fi f h))⟩
end Go.Proofs.YtponbabbabnaeaaGreat
