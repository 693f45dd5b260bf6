/- Part 32: contracts of functions. Conditions: as each theorem says. -/
import Derived.Test.YtponbabbabnaeaaGreatQh31
set_option maxRecDepth 100000
set_option maxHeartbeats 40000000
set_option linter.unusedVariables false
namespace Go.Proofs.YtponbabbabnaeaaGreat
open Proofs.Tryz
open Go.RowKit
theorem LR{P:Prop}(h:P:=by
 refine Hp (v1:=Zq) (v2:=Zq) (v3:=I 0) results17 rfl rfl rfl rfl u.o (λwz hz=>?_);have WQ:=J (Lit.wrote (N:=w.heap.size) (M:=w.heap.size+2) hz U U);clear hz;rw[am.o];exact⟨b2,none,0,rfl,zR _,zO _,ai.o,aa.o.lit ac.o WQ.o,Row.nil _ _,WQ.o.ext y.o (zR _)⟩):P:=h
theorem Rs{P:Prop}(h:P:=by
 refine Hp (v1:=Zq) (v2:=.slice A6 RR.dl.length c6) (v3:=I 0) results17 rfl rfl rfl rfl u.o (λwz hz=>?_);have WQ:=J (Lit.wrote (N:=w.heap.size) (M:=w.heap.size+2) hz U U);clear hz;rw[am.o];exact⟨b2,A6,c6,rfl,bm.o,ar.o,ai.o,aa.o.lit ac.o WQ.o,be.o.lit ao.o WQ.o,WQ.o.ext y.o (zR _)⟩):P:=h
def RSr(w:World)(r:Cs×Int)(en:Ending)(w':World):Prop:=∃(b2:BM) (A:Option Addr) (c:Nat),en=.returned (.tuple #[.agg b2.cells,.slice none 0 0,.slice A r.1.dl.length c,.int .i64 r.2])/\r.1.dl.length<=c/\c<=maxLen/\b2.st=r.1.s/\b2.Ok w'/\Row w' A (Aa.cells r.1.dl)/\V w w'
theorem Jp{w w':World}{r:Cs×Int}{e:Int}(h:r=(⟨B8,[],[]⟩,e))(j:V w w'):RSr w r (.returned (.tuple #[.agg Yq,Zq,Zq,I e])) w':=by
 subst h;exact⟨BK,none,0,rfl,zR _,zO _,rfl,⟨GI _,GV,zR _⟩,Row.nil _ _,j⟩
theorem rdo{w w':World}{f:List UInt8}{D:Ending}(h:Rb w f D w'){j T u W:Int}{y:List UInt8}{q:List Ent}(R:CH f=some ⟨j,T,u,W,y,q⟩):∃(A:Option Addr) (c:Nat) (F G K Q:Int),D=.returned (.tuple #[.agg #[I j,I T,I F,I G,I W,I K,I Q,.string (Ah y),.slice A q.length c],.bool true])/\O (F=(if j=11 then u else 0)/\G=(if j=12 then u else 0)/\K=(if j=13 then u else 0)/\Q=if j=14 then u else 0)/\q.length<=c/\c<=maxLen/\O (Row w' A (Aa.cells q))/\O (NewAt w.heap.size A (Aa.cells q))/\V w w':=by
 obtain⟨m,A,c,rfl,z,X,h4,h5,h6,h7⟩:=h.resolve_left (by rintro⟨_,_,_,_,_,_,_,_,_,_,_,-,z,-⟩;rw[R] at z;cases z);obtain rfl:=Option.some.inj (R.symm.trans z);exact⟨A,c,_,_,_,_,rfl,J ⟨rfl,rfl,rfl,rfl⟩,X,h4,J h5,J h6,h7⟩
theorem Te(Dt:Gv)(JK:∀(b:BM) (fr kd nm sq sa sb ln bs:Int) (ab:List UInt8) (A:Option Addr) (c:Nat) (es:List Ent) (w:World),b.Ok w->VS b.st->Row w A (Aa.cells es)->(es.length<=c/\c<=maxLen)->es.length<=2000->(∀e∈es,e.p.length<=6000)->Calls prog 80 #[.agg b.cells,I fr,.agg #[I kd,I nm,I sq,I sa,I sb,I ln,I bs,.string (Ah ab),.slice A es.length c]] w (RSm w b A es (Dj b.st fr ⟨kd,nm,sq,sb,ab,es⟩)))(b:BM)(fr:Int)(A:Option Addr)(c:Nat)(f:List UInt8)(w:World)(h:b.Ok w)(hm:b.marks.length<=1000)(hf:b.fls.length<=1000)(hr:Row w A (Aj f))(bu:f.length<=c)(bv:f.length<=1000000) :
  Calls prog 17 #[.agg b.cells,I fr,.slice A f.length c] w (RSr w (Du b.st fr f)):=by
 have H:=J h;have OF:=J h.far;have HR:=J hr;have bn:=J bu;clear h hr bu;cases hv:AM b.st with
 | false=>
  have HV:=J hv;clear hv;obtain⟨y,z,u,bj⟩:=DG w b.cells;go_enter func17,ntmps17;go_upto_region 1 with fail;generalize ((w.alloc (.cells b.cells 28)).alloc (.cells Yq 28))=u1 at *;replace H:=H.o.e y.o;replace HR:=HR.o.e y.o;obtain⟨F,G,K,Q,T,W,X,q7,q8⟩:=nine z.o;obtain⟨z0,z1,z2,z3,z4,z5,z6,z7,z8⟩:=u.o.free9;obtain⟨k0,k1,k2,k3,k4,k5,k6,k7,k8⟩:=nine u.o;go_wp2_with (first
   | (go_at_call 43
      refine(HV.o▸Dt b _ H.o).mono ?_;rintro e w2 ⟨rfl,j⟩;replace H:=H.o.e j;replace z:=z.o.e j;replace u:=u.o.e j;replace HR:=HR.o.e j;replace y:=y.o.t j;have aq:w.heap.size+2<=w2.heap.size:=by have:=u.o.lt;omega
      clear F G K Q T W X q7 q8;obtain⟨F,G,K,Q,T,W,X,q7,q8⟩:=nine z.o;obtain⟨z0,z1,z2,z3,z4,z5,z6,z7,z8⟩:=u.o.free9;obtain⟨k0,k1,k2,k3,k4,k5,k6,k7,k8⟩:=nine u.o;clear j))
  refine Hp (v1:=Zq) (v2:=Zq) (v3:=I 1) results17 rfl rfl rfl rfl u.o (λwz hz=>?_);have WQ:=J (Lit.wrote (N:=w.heap.size) (M:=w.heap.size+2) hz U U);clear hz;exact Jp (by unfold Du;rw[if_pos (.inl HV.o)]) (WQ.o.ext y.o (zR _))
 | true=>
  have HV:=J hv;cases hi:AQ fr with
  | false=>
   have HI:=J hi;clear hi hv;obtain⟨y,z,u,bj⟩:=DG w b.cells;go_enter func17,ntmps17;go_upto_region 1 with fail;generalize ((w.alloc (.cells b.cells 28)).alloc (.cells Yq 28))=u1 at *;replace H:=H.o.e y.o;replace HR:=HR.o.e y.o;obtain⟨F,G,K,Q,T,W,X,q7,q8⟩:=nine z.o;obtain⟨z0,z1,z2,z3,z4,z5,z6,z7,z8⟩:=u.o.free9;obtain⟨k0,k1,k2,k3,k4,k5,k6,k7,k8⟩:=nine u.o;go_wp2_with (first
    | (go_at_call 43
       refine(HV.o▸Dt b _ H.o).mono ?_;rintro e w2 ⟨rfl,j⟩;replace H:=H.o.e j;replace z:=z.o.e j;replace u:=u.o.e j;replace HR:=HR.o.e j;replace y:=y.o.t j;have aq:w.heap.size+2<=w2.heap.size:=by have:=u.o.lt;omega
       clear F G K Q T W X q7 q8;obtain⟨F,G,K,Q,T,W,X,q7,q8⟩:=nine z.o;obtain⟨z0,z1,z2,z3,z4,z5,z6,z7,z8⟩:=u.o.free9;obtain⟨k0,k1,k2,k3,k4,k5,k6,k7,k8⟩:=nine u.o;clear j)
    | (go_at_call 74
       refine(HI.o▸Dv fr _).mono ?_;rintro e w3 ⟨rfl,rfl⟩))
   refine Hp (v1:=Zq) (v2:=Zq) (v3:=I 1) results17 rfl rfl rfl rfl u.o (λwz hz=>?_);have WQ:=J (Lit.wrote (N:=w.heap.size) (M:=w.heap.size+2) hz U U);clear hz;exact Jp (by unfold Du;rw[if_pos (.inr (.inl HI.o))]) (WQ.o.ext y.o (zR _))
  | true=>
   have HI:=J hi;by_cases h1:fr=b.self
   .have d1:(fr == b.self)=true:=by simpa using h1
    have H1:=J h1;clear h1 hi hv;obtain⟨y,z,u,bj⟩:=DG w b.cells;go_enter func17,ntmps17;go_upto_region 1 with fail;generalize ((w.alloc (.cells b.cells 28)).alloc (.cells Yq 28))=u1 at *;replace H:=H.o.e y.o;replace HR:=HR.o.e y.o;obtain⟨F,G,K,Q,T,W,X,q7,q8⟩:=nine z.o;obtain⟨z0,z1,z2,z3,z4,z5,z6,z7,z8⟩:=u.o.free9;obtain⟨k0,k1,k2,k3,k4,k5,k6,k7,k8⟩:=nine u.o;go_wp2_with (first
     | (go_at_call 43
        refine(HV.o▸Dt b _ H.o).mono ?_;rintro e w2 ⟨rfl,j⟩;replace H:=H.o.e j;replace z:=z.o.e j;replace u:=u.o.e j;replace HR:=HR.o.e j;replace y:=y.o.t j;have aq:w.heap.size+2<=w2.heap.size:=by have:=u.o.lt;omega
        clear F G K Q T W X q7 q8;obtain⟨F,G,K,Q,T,W,X,q7,q8⟩:=nine z.o;obtain⟨z0,z1,z2,z3,z4,z5,z6,z7,z8⟩:=u.o.free9;obtain⟨k0,k1,k2,k3,k4,k5,k6,k7,k8⟩:=nine u.o;clear j)
     | (go_at_call 74
        refine(HI.o▸Dv fr _).mono ?_;rintro e w3 ⟨rfl,rfl⟩))
    refine Hp (v1:=Zq) (v2:=Zq) (v3:=I 1) results17 rfl rfl rfl rfl u.o (λwz hz=>?_);have WQ:=J (Lit.wrote (N:=w.heap.size) (M:=w.heap.size+2) hz U U);clear hz;exact Jp (by unfold Du;rw[if_pos (.inr (.inr H1.o))]) (WQ.o.ext y.o (zR _))
   have d1:(fr == b.self)=false:=by simpa using h1
   have HN:O (¬(AM b.st=false\/AQ fr=false\/fr=b.st.self)):=J (by rw[hv,hi];simp;exact h1);have aw:=J (Cm.1 hv);clear h1 hi hv;cases hrd:CH f with
   | none=>
    have bg:=J hrd;clear hrd;obtain⟨y,z,u,bj⟩:=DG w b.cells;go_enter func17,ntmps17;go_upto_region 1 with fail;generalize ((w.alloc (.cells b.cells 28)).alloc (.cells Yq 28))=u1 at *;replace H:=H.o.e y.o;replace HR:=HR.o.e y.o;obtain⟨F,G,K,Q,T,W,X,q7,q8⟩:=nine z.o;obtain⟨z0,z1,z2,z3,z4,z5,z6,z7,z8⟩:=u.o.free9;obtain⟨k0,k1,k2,k3,k4,k5,k6,k7,k8⟩:=nine u.o;go_upto_region 4 with (first
     | (go_at_call 43
        refine(HV.o▸Dt b _ H.o).mono ?_;rintro e w2 ⟨rfl,j⟩;replace H:=H.o.e j;replace z:=z.o.e j;replace u:=u.o.e j;replace HR:=HR.o.e j;replace y:=y.o.t j;have aq:w.heap.size+2<=w2.heap.size:=by have:=u.o.lt;omega
        clear F G K Q T W X q7 q8;obtain⟨F,G,K,Q,T,W,X,q7,q8⟩:=nine z.o;obtain⟨z0,z1,z2,z3,z4,z5,z6,z7,z8⟩:=u.o.free9;obtain⟨k0,k1,k2,k3,k4,k5,k6,k7,k8⟩:=nine u.o;clear j)
     | (go_at_call 74
        refine(HI.o▸Dv fr _).mono ?_;rintro e w3 ⟨rfl,rfl⟩)
     | (go_at_call 75
        refine(Od A c f _ HR.o bn.o bv).mono ?_;intro e w4 an;obtain⟨a,x1,x2,x3,x4,x5,x6,q,A4,m4,k4,rfl,-,ag⟩:=an.resolve_right (by rintro⟨m,A4,c4,-,h2,-⟩;rw[bg.o] at h2;cases h2);replace H:=H.o.e ag;replace z:=z.o.e ag;replace u:=u.o.e ag;replace y:=y.o.t ag;clear an ag F G K Q T W X q7 q8))
    generalize hQ:(w4.alloc (.cells #[I a,I x1,I x2,I x3,I x4,I x5,I x6,.string q,.slice A4 m4 k4] 115))=w5 at *;have X5:O (V w4 w5):=(by subst hQ;exact J (V.new _ _));replace u:=u.o.e X5.o;replace y:=y.o.t X5.o;clear X5;clear hQ;obtain⟨z0,z1,z2,z3,z4,z5,z6,z7,z8⟩:=u.o.free9;obtain⟨k0,k1,k2,k3,k4,k5,k6,k7,k8⟩:=nine u.o;go_wp2;refine Hp (v1:=Zq) (v2:=Zq) (v3:=I 3) results17 rfl rfl rfl rfl u.o (λwz hz=>?_);have WQ:=J (Lit.wrote (N:=w.heap.size) (M:=w.heap.size+2) hz U U);clear hz;exact Jp (by unfold Du;rw[if_neg HN.o,<-Pq,bg.o]) (WQ.o.ext y.o (zR _))
   | some m=>
    have bc:Bd f=some m:=by rw[<-Pq];exact hrd
    have ba:=Vo bc;obtain⟨bh,bi,bw,bb⟩:=OS bc;have ap:=(P9 bc).2;have HF:O (Du b.st fr f=(EV b.st fr m,0)):=J (by unfold Du;rw[if_neg HN.o,bc]);clear bc;have bg:=J hrd;clear hrd;obtain⟨kd,nm,fi,sb,ab,es⟩:=m;simp only at ba bh bi bw bb ap;have bo:=J ba;have bp:=J bb;have bf:=J ap;clear ba bb ap;obtain⟨y,z,u,bj⟩:=DG w b.cells;go_enter func17,ntmps17;go_upto_region 1 with fail;generalize ((w.alloc (.cells b.cells 28)).alloc (.cells Yq 28))=u1 at *;replace H:=H.o.e y.o;replace HR:=HR.o.e y.o;obtain⟨F,G,K,Q,T,W,X,q7,q8⟩:=nine z.o;obtain⟨z0,z1,z2,z3,z4,z5,z6,z7,z8⟩:=u.o.free9;obtain⟨k0,k1,k2,k3,k4,k5,k6,k7,k8⟩:=nine u.o;go_upto_region 4 with (first
     | (go_at_call 43
        refine(HV.o▸Dt b _ H.o).mono ?_;rintro e w2 ⟨rfl,j⟩;replace H:=H.o.e j;replace z:=z.o.e j;replace u:=u.o.e j;replace HR:=HR.o.e j;replace y:=y.o.t j;have aq:w.heap.size+2<=w2.heap.size:=by have:=u.o.lt;omega
        clear F G K Q T W X q7 q8;obtain⟨F,G,K,Q,T,W,X,q7,q8⟩:=nine z.o;obtain⟨z0,z1,z2,z3,z4,z5,z6,z7,z8⟩:=u.o.free9;obtain⟨k0,k1,k2,k3,k4,k5,k6,k7,k8⟩:=nine u.o;clear j)
     | (go_at_call 74
        refine(HI.o▸Dv fr _).mono ?_;rintro e w3 ⟨rfl,rfl⟩)
     | (go_at_call 75
        refine(Od A c f _ HR.o bn.o bv).mono ?_;intro e w4 an;obtain⟨A4,c4,f1,f2,f3,f4,rfl,ah,br,bt,au,bq,ag⟩:=rdo an bg.o;replace H:=H.o.e ag;replace z:=z.o.e ag;replace u:=u.o.e ag;replace y:=y.o.t ag;clear an ag F G K Q T W X q7 q8))
    have b1:w.heap.size+2<=w4.heap.size:=by have:=u.o.lt;omega
    generalize hQ:(w4.alloc (.cells #[I kd,I nm,I f1,I f2,I sb,I f3,I f4,.string (Ah ab),.slice A4 es.length c4] 115))=u5 at *;have X5:O (V w4 u5):=(by subst hQ;exact J (V.new _ _));have BG:O (BIs u5 w4.heap.size #[I kd,I nm,I f1,I f2,I sb,I f3,I f4,.string (Ah ab),.slice A4 es.length c4] 115):=(by subst hQ;exact J (BIs.new _ _ _));replace H:=H.o.e X5.o;replace z:=z.o.e X5.o;replace u:=u.o.e X5.o;replace y:=y.o.t X5.o;replace au:=au.o.e X5.o;have b3:w4.heap.size<u5.heap.size:=(by subst hQ;exact zj);clear X5;clear hQ;generalize b0:w4.heap.size=mb at *;obtain⟨F,G,K,Q,T,W,X,q7,q8⟩:=nine z.o;have ba:=bo.o;have bb:=bp.o;have ap:=bf.o;clear bo bp bf;rcases ba with rfl|rfl|rfl|rfl|rfl
    .have al:=ah.o;clear ah;obtain⟨e1,e2,e3,e4⟩:=al;obtain rfl:fi=f1:=by rw[e1];simp
     obtain rfl:(0:Int)=f2:=by rw[e2];simp
     obtain rfl:(0:Int)=f3:=by rw[e3];simp
     obtain rfl:(0:Int)=f4:=by rw[e4];simp
     clear e1 e2 e3 e4;obtain⟨g0,g1,g2,g3,g4,g5,g6,g7,g8⟩:=nine BG.o;go_upto_region 18 with (first
      | (go_at_call 76
         refine(SU b fr 11 nm fi 0 sb 0 0 ab A4 c4 es _ H.o aw.o bw).mono ?_;rintro e w6 ⟨b2,rfl,af,ae,D,ad⟩;have ac:=J (ad _ _ (show w.heap.size+2<=u5.heap.size by omega) OF.o);have ak:=J ae;have ai:=J af;replace z:=z.o.e D;replace u:=u.o.e D;replace y:=y.o.t D;clear af ae D ad g0 g1 g2 g3 g4 g5 g6 g7 g8 F G K Q T W X q7 q8;obtain⟨y0,y1,y2,y3,y4,y5,y6,y7,y8⟩:=z.o.free9;obtain⟨F,G,K,Q,T,W,X,q7,q8⟩:=nine z.o;unfold BM.cells))
     generalize hQ:(((((((((w6.setCell (Y w 0) (I b2.self)).setCell (Y w 1) (.slice b2.Av b2.vs.length b2.cv)).setCell (Y w 2) (I b2.base)).setCell (Y w 3) (.slice b2.Al b2.log.length b2.cl)).setCell (Y w 4) (I b2.stable)).setCell (Y w 5) (I b2.sent)).setCell (Y w 6) (.slice b2.Ap b2.pend.length b2.cp)).setCell (Y w 7) (.slice b2.Am b2.marks.length b2.cm)).setCell (Y w 8) (.slice b2.Af b2.fls.length b2.cf))=w7 at *;have K7:O (Wrote w.heap.size w6 w7):=(by subst hQ;exact J AS);have L7:O (Lit w.heap.size (w.heap.size+2) w6 w7):=(by subst hQ;exact J (Lit.wrote K7.o (zR _) U));have aa:=J (ak.o.lit ac.o L7.o);have aj:O (BIs w7 w.heap.size b2.cells 28):=(by subst hQ;exact J (Ba z.o));replace u:=J (u.o.wrote U K7.o);replace y:=J (L7.o.ext y.o (zR _));clear K7 L7 z y0 y1 y2 y3 y4 y5 y6 y7 y8 F G K Q T W X q7 q8;clear hQ;obtain⟨F,G,K,Q,T,W,X,q7,q8⟩:=nine aj.o;obtain⟨z0,z1,z2,z3,z4,z5,z6,z7,z8⟩:=u.o.free9;obtain⟨k0,k1,k2,k3,k4,k5,k6,k7,k8⟩:=nine u.o;go_wp2;have am:O (Du b.st fr f=(⟨EU b.st fr ⟨11,nm,fi,sb,ab,es⟩,[],[]⟩,0)):=J (HF.o.trans (by unfold EV;rw[if_pos rfl]));exact LR
    .have bl:=bb rfl;obtain⟨fn,bx⟩:=Int.eq_ofNat_of_zero_le bl.1;subst bx;have bz:fn<=1099511627776:=by have:=bl.2;omega
     clear bl;obtain⟨RR,bd⟩:∃R,R=(DV b.st fr ⟨12,nm,(fn:Int),sb,ab,es⟩):=⟨_,rfl⟩;have av:=J bd;clear bd;have al:=ah.o;clear ah;obtain⟨e1,e2,e3,e4⟩:=al;obtain rfl:(0:Int)=f1:=by rw[e1];simp
     obtain rfl:(fn:Int)=f2:=by rw[e2];simp
     obtain rfl:(0:Int)=f3:=by rw[e3];simp
     obtain rfl:(0:Int)=f4:=by rw[e4];simp
     clear e1 e2 e3 e4;obtain⟨g0,g1,g2,g3,g4,g5,g6,g7,g8⟩:=nine BG.o;go_upto_region 18 with (first
      | (go_at_call 77
         have hc:=Sz b fr 12 nm 0 sb 0 0 fn ab A4 c4 es _ H.o aw.o au.o bh bi bz;rw[<-av.o] at hc;refine hc.mono ?_;rintro e w6 ⟨b2,A6,c6,rfl,ax,ay,af,ae,az,a9,D,ad⟩;clear hc;have ac:=J (ad _ _ (show w.heap.size+2<=u5.heap.size by omega) OF.o);have ak:=J ae;have ai:=J af;have bm:=J ax;have ar:=J ay;have bk:=J az;have ao:O (OffR w.heap.size (w.heap.size+2) A6 (Aa.cells RR.dl)):=J (a9.offR U);replace z:=z.o.e D;replace u:=u.o.e D;replace y:=y.o.t D;clear af ae ax ay az a9 D ad g0 g1 g2 g3 g4 g5 g6 g7 g8 F G K Q T W X q7 q8;obtain⟨y0,y1,y2,y3,y4,y5,y6,y7,y8⟩:=z.o.free9;obtain⟨F,G,K,Q,T,W,X,q7,q8⟩:=nine z.o;unfold BM.cells))
     generalize hQ:(((((((((w6.setCell (Y w 0) (I b2.self)).setCell (Y w 1) (.slice b2.Av b2.vs.length b2.cv)).setCell (Y w 2) (I b2.base)).setCell (Y w 3) (.slice b2.Al b2.log.length b2.cl)).setCell (Y w 4) (I b2.stable)).setCell (Y w 5) (I b2.sent)).setCell (Y w 6) (.slice b2.Ap b2.pend.length b2.cp)).setCell (Y w 7) (.slice b2.Am b2.marks.length b2.cm)).setCell (Y w 8) (.slice b2.Af b2.fls.length b2.cf))=w7 at *;have K7:O (Wrote w.heap.size w6 w7):=(by subst hQ;exact J AS);have L7:O (Lit w.heap.size (w.heap.size+2) w6 w7):=(by subst hQ;exact J (Lit.wrote K7.o (zR _) U));have aa:=J (ak.o.lit ac.o L7.o);have aj:O (BIs w7 w.heap.size b2.cells 28):=(by subst hQ;exact J (Ba z.o));replace u:=J (u.o.wrote U K7.o);replace y:=J (L7.o.ext y.o (zR _));have be:=J (bk.o.lit ao.o L7.o);clear K7 L7 z y0 y1 y2 y3 y4 y5 y6 y7 y8 F G K Q T W X q7 q8;clear hQ;obtain⟨F,G,K,Q,T,W,X,q7,q8⟩:=nine aj.o;obtain⟨z0,z1,z2,z3,z4,z5,z6,z7,z8⟩:=u.o.free9;obtain⟨k0,k1,k2,k3,k4,k5,k6,k7,k8⟩:=nine u.o;go_wp2;have am:O (Du b.st fr f=(RR,0)):=J (HF.o.trans (by rw[av.o];unfold EV;rw[if_neg zj];rw[if_pos rfl]));exact Rs
    .have bf:O (0<=fi):=J (ap rfl);clear ap;obtain⟨RR,bd⟩:∃R,R=(Er b.st fr ⟨13,nm,fi,sb,ab,es⟩):=⟨_,rfl⟩;have av:=J bd;clear bd;have al:=ah.o;clear ah;obtain⟨e1,e2,e3,e4⟩:=al;obtain rfl:(0:Int)=f1:=by rw[e1];simp
     obtain rfl:(0:Int)=f2:=by rw[e2];simp
     obtain rfl:fi=f3:=by rw[e3];simp
     obtain rfl:(0:Int)=f4:=by rw[e4];simp
     clear e1 e2 e3 e4;obtain⟨g0,g1,g2,g3,g4,g5,g6,g7,g8⟩:=nine BG.o;go_upto_region 18 with (first
      | (go_at_call 78
         have hc:=UV b fr 13 nm 0 0 sb fi 0 ab A4 c4 es _ H.o aw.o (λe=>HN.o (.inr (.inr e))) bf.o hm;rw[<-av.o] at hc;refine hc.mono ?_;rintro e w6 ⟨b2,A6,c6,rfl,ax,ay,af,ae,az,a9,D,ad⟩;clear hc;have ac:=J (ad _ _ (show w.heap.size+2<=u5.heap.size by omega) OF.o);have ak:=J ae;have ai:=J af;have bm:=J ax;have ar:=J ay;have bk:=J az;have ao:O (OffR w.heap.size (w.heap.size+2) A6 (Aa.cells RR.dl)):=J (a9.offR U);replace z:=z.o.e D;replace u:=u.o.e D;replace y:=y.o.t D;clear af ae ax ay az a9 D ad g0 g1 g2 g3 g4 g5 g6 g7 g8 F G K Q T W X q7 q8;obtain⟨y0,y1,y2,y3,y4,y5,y6,y7,y8⟩:=z.o.free9;obtain⟨F,G,K,Q,T,W,X,q7,q8⟩:=nine z.o;unfold BM.cells))
     generalize hQ:(((((((((w6.setCell (Y w 0) (I b2.self)).setCell (Y w 1) (.slice b2.Av b2.vs.length b2.cv)).setCell (Y w 2) (I b2.base)).setCell (Y w 3) (.slice b2.Al b2.log.length b2.cl)).setCell (Y w 4) (I b2.stable)).setCell (Y w 5) (I b2.sent)).setCell (Y w 6) (.slice b2.Ap b2.pend.length b2.cp)).setCell (Y w 7) (.slice b2.Am b2.marks.length b2.cm)).setCell (Y w 8) (.slice b2.Af b2.fls.length b2.cf))=w7 at *;have K7:O (Wrote w.heap.size w6 w7):=(by subst hQ;exact J AS);have L7:O (Lit w.heap.size (w.heap.size+2) w6 w7):=(by subst hQ;exact J (Lit.wrote K7.o (zR _) U));have aa:=J (ak.o.lit ac.o L7.o);have aj:O (BIs w7 w.heap.size b2.cells 28):=(by subst hQ;exact J (Ba z.o));replace u:=J (u.o.wrote U K7.o);replace y:=J (L7.o.ext y.o (zR _));have be:=J (bk.o.lit ao.o L7.o);clear K7 L7 z y0 y1 y2 y3 y4 y5 y6 y7 y8 F G K Q T W X q7 q8;clear hQ;obtain⟨F,G,K,Q,T,W,X,q7,q8⟩:=nine aj.o;obtain⟨z0,z1,z2,z3,z4,z5,z6,z7,z8⟩:=u.o.free9;obtain⟨k0,k1,k2,k3,k4,k5,k6,k7,k8⟩:=nine u.o;go_wp2;have am:O (Du b.st fr f=(RR,0)):=J (HF.o.trans (by rw[av.o];unfold EV;rw[if_neg zj];rw[if_neg zj];rw[if_pos rfl]));exact Rs
    .have al:=ah.o;clear ah;obtain⟨e1,e2,e3,e4⟩:=al;obtain rfl:(0:Int)=f1:=by rw[e1];simp
     obtain rfl:(0:Int)=f2:=by rw[e2];simp
     obtain rfl:(0:Int)=f3:=by rw[e3];simp
     obtain rfl:fi=f4:=by rw[e4];simp
     clear e1 e2 e3 e4;obtain⟨g0,g1,g2,g3,g4,g5,g6,g7,g8⟩:=nine BG.o;go_upto_region 18 with (first
      | (go_at_call 79
         refine(Tm b fr 14 nm 0 0 sb 0 fi ab A4 c4 es _ H.o aw.o hf au.o ⟨br,bt⟩ bh bi).mono ?_;rintro e w6 ⟨b2,rfl,af,ae,D,ad⟩;have ac:=J (ad _ _ (show w.heap.size+2<=u5.heap.size by omega) OF.o (bq.o.offR aq));have ak:=J ae;have ai:=J af;replace z:=z.o.e D;replace u:=u.o.e D;replace y:=y.o.t D;clear af ae D ad g0 g1 g2 g3 g4 g5 g6 g7 g8 F G K Q T W X q7 q8;obtain⟨y0,y1,y2,y3,y4,y5,y6,y7,y8⟩:=z.o.free9;obtain⟨F,G,K,Q,T,W,X,q7,q8⟩:=nine z.o;unfold BM.cells))
     generalize hQ:(((((((((w6.setCell (Y w 0) (I b2.self)).setCell (Y w 1) (.slice b2.Av b2.vs.length b2.cv)).setCell (Y w 2) (I b2.base)).setCell (Y w 3) (.slice b2.Al b2.log.length b2.cl)).setCell (Y w 4) (I b2.stable)).setCell (Y w 5) (I b2.sent)).setCell (Y w 6) (.slice b2.Ap b2.pend.length b2.cp)).setCell (Y w 7) (.slice b2.Am b2.marks.length b2.cm)).setCell (Y w 8) (.slice b2.Af b2.fls.length b2.cf))=w7 at *;have K7:O (Wrote w.heap.size w6 w7):=(by subst hQ;exact J AS);have L7:O (Lit w.heap.size (w.heap.size+2) w6 w7):=(by subst hQ;exact J (Lit.wrote K7.o (zR _) U));have aa:=J (ak.o.lit ac.o L7.o);have aj:O (BIs w7 w.heap.size b2.cells 28):=(by subst hQ;exact J (Ba z.o));replace u:=J (u.o.wrote U K7.o);replace y:=J (L7.o.ext y.o (zR _));clear K7 L7 z y0 y1 y2 y3 y4 y5 y6 y7 y8 F G K Q T W X q7 q8;clear hQ;obtain⟨F,G,K,Q,T,W,X,q7,q8⟩:=nine aj.o;obtain⟨z0,z1,z2,z3,z4,z5,z6,z7,z8⟩:=u.o.free9;obtain⟨k0,k1,k2,k3,k4,k5,k6,k7,k8⟩:=nine u.o;go_wp2;have am:O (Du b.st fr f=(⟨FA b.st fr ⟨14,nm,fi,sb,ab,es⟩,[],[]⟩,0)):=J (HF.o.trans (by unfold EV;rw[if_neg zj];rw[if_neg zj];rw[if_neg zj];rw[if_pos rfl]));exact LR
    .have al:=ah.o;clear ah;obtain⟨e1,e2,e3,e4⟩:=al;obtain rfl:(0:Int)=f1:=by rw[e1];simp
     obtain rfl:(0:Int)=f2:=by rw[e2];simp
     obtain rfl:(0:Int)=f3:=by rw[e3];simp
     obtain rfl:(0:Int)=f4:=by rw[e4];simp
     clear e1 e2 e3 e4;obtain⟨g0,g1,g2,g3,g4,g5,g6,g7,g8⟩:=nine BG.o;go_upto_region 18 with (first
      | (go_at_call 80
         refine(JK b fr 15 nm 0 0 sb 0 0 ab A4 c4 es _ H.o aw.o au.o ⟨br,bt⟩ bh bi).mono ?_;rintro e w6 ⟨b2,rfl,af,ae,D,ad⟩;have ac:=J (ad _ _ (show w.heap.size+2<=u5.heap.size by omega) OF.o (bq.o.offR aq));have ak:=J ae;have ai:=J af;replace z:=z.o.e D;replace u:=u.o.e D;replace y:=y.o.t D;clear af ae D ad g0 g1 g2 g3 g4 g5 g6 g7 g8 F G K Q T W X q7 q8;obtain⟨y0,y1,y2,y3,y4,y5,y6,y7,y8⟩:=z.o.free9;obtain⟨F,G,K,Q,T,W,X,q7,q8⟩:=nine z.o;unfold BM.cells))
     generalize hQ:(((((((((w6.setCell (Y w 0) (I b2.self)).setCell (Y w 1) (.slice b2.Av b2.vs.length b2.cv)).setCell (Y w 2) (I b2.base)).setCell (Y w 3) (.slice b2.Al b2.log.length b2.cl)).setCell (Y w 4) (I b2.stable)).setCell (Y w 5) (I b2.sent)).setCell (Y w 6) (.slice b2.Ap b2.pend.length b2.cp)).setCell (Y w 7) (.slice b2.Am b2.marks.length b2.cm)).setCell (Y w 8) (.slice b2.Af b2.fls.length b2.cf))=w7 at *;have K7:O (Wrote w.heap.size w6 w7):=(by subst hQ;exact J AS);have L7:O (Lit w.heap.size (w.heap.size+2) w6 w7):=(by subst hQ;exact J (Lit.wrote K7.o (zR _) U));have aa:=J (ak.o.lit ac.o L7.o);have aj:O (BIs w7 w.heap.size b2.cells 28):=(by subst hQ;exact J (Ba z.o));replace u:=J (u.o.wrote U K7.o);replace y:=J (L7.o.ext y.o (zR _));clear K7 L7 z y0 y1 y2 y3 y4 y5 y6 y7 y8 F G K Q T W X q7 q8;clear hQ;obtain⟨F,G,K,Q,T,W,X,q7,q8⟩:=nine aj.o;obtain⟨z0,z1,z2,z3,z4,z5,z6,z7,z8⟩:=u.o.free9;obtain⟨k0,k1,k2,k3,k4,k5,k6,k7,k8⟩:=nine u.o;go_wp2;have am:O (Du b.st fr f=(⟨Dj b.st fr ⟨15,nm,fi,sb,ab,es⟩,[],[]⟩,0)):=J (HF.o.trans (by unfold EV;rw[if_neg zj];rw[if_neg zj];rw[if_neg zj];rw[if_neg zj];rw[if_pos rfl]));exact LR
def Dq(s:St)(m:Int):List (Int×List UInt8):=
 if m=s.self then []
 else match B9 s.marks m with
  | none=>[(m,AX 15 (AF [s.base]++Bb s.log))]
  | some st=>[(m,AX 12 (AF [s.base,st,s.stable]++Bb (Bm s.log st (min (st+16) s.log.length))))]
theorem Tz(c:Cs)(m:Int):Cl c m={c with pk:=c.pk++Dq c.s m}:=by
 unfold Cl Dq;split
 .simp
 .cases B9 c.s.marks m<;>rfl
theorem Pi:∀(l:List Int) (c:Cs),l.foldl Cl c={c with pk:=c.pk++l.flatMap (Dq c.s)}
 | [],c=>by simp
 | m::l,c=>by
  rw[List.foldl_cons,Tz,Pi l];simp[List.flatMap_cons,List.append_assoc]
def FO(s:St)(j:Nat):Int×List UInt8:=(AZ (Ar s.views),AX 11 (AF [s.base,Aq s.log s.self+1+j]++Bq (Do s (Aq s.log s.self+1+j))))
theorem Nu:∀(l:List Nat) (c:Cs),l.foldl Df c={c with pk:=c.pk++l.map (FO c.s)}
 | [],c=>by simp
 | j::l,c=>by
  rw[List.foldl_cons,Nu l];unfold Df Db;simp[FO,List.append_assoc]
theorem Ij{s:St}(h:VS s):BI s=Dh ⟨s,[],[]⟩:=by unfold BI;rw[if_neg (by rw[Cm.2 h];simp)]
theorem VS.taken{s:St}(h:VS s)(j:AD s=true):VS (Ct s):=((Good.begin h []).take j).vs
theorem Wb{s:St}(h:VS s)(u:AD s=true)(q:AE s=true){ts:List Int}(y:(Ar s.views).2=ts){R:Cs}(j:R=Be ⟨Ct s,[],[]⟩ (Cv (Ct s) ts)):BI s=⟨R.s,ts.flatMap (Dq R.s),R.dl⟩:=by
 rw[Ij h];unfold Dh;rw[if_pos u,if_pos q];unfold Gx;simp only;rw[JM (h.taken u) q,show (Ar (Ct s).views).2=ts from y,<-j];have z:R.pk=[]:=by rw[j];unfold Be;split<;>rfl
 have D:R.s.views=s.views:=by rw[j];unfold Be;split<;>rfl
 rw[Pi,D,y,z];rfl
theorem Yv{s:St}(h:VS s)(j:AD s=true)(u:AE s=true){ts:List Int}(y:(Ar s.views).2=ts){R:Cs}(q:R=Be ⟨Ct s,[],[]⟩ (Cv (Ct s) ts)):VS R.s:=by
 have g:Good s (Cf ⟨Ct s,[],[]⟩):=((Good.begin h []).take j).announce;rw[JM (h.taken j) u,show (Ar (Ct s).views).2=ts from y,<-q] at g;exact g.vs
theorem Uc{α β:Type}{f:α->List β}{l:List α}{k:Nat}{x:α}(h:l[k]?=some x):(l.take (k+1)).flatMap f=(l.take k).flatMap f++f x:=by
 have e:l.take (k+1)=l.take k++[x]:=by
  obtain⟨j,q⟩:=zZ h;rw[List.take_add_one,h];rfl
 rw[e,List.flatMap_append];simp
theorem TZ{s:St}{m:Int}(h:m=s.self):Dq s m=[]:=by unfold Dq;rw[if_pos h]
theorem UW{s:St}{m:Int}(h:¬m=s.self)(j:B9 s.marks m=none):Dq s m=[(m,AX 15 (AF [s.base]++Bb s.log))]:=by unfold Dq;rw[if_neg h,j]
theorem UD{s:St}{m:Int}{j q:Nat}(h:¬m=s.self)(y:B9 s.marks m=some (j:Int))(z:min (j+16) s.log.length=q):Dq s m=[(m,AX 12 (AF [s.base,(j:Int),s.stable]++Bb ((s.log.take q).drop j)))]:=by
 unfold Dq;rw[if_neg h,y];simp only;have u:(min ((j:Int)+16) (s.log.length:Int))=(q:Int):=U;rw[u];rfl
theorem TA{s:St}(h:VS s)(q:AD s=true)(j:AE s=false):BI s=⟨s,(AZ (Ar s.views),AX 13 (AF [s.base,s.log.length]))::(List.range (Fc s)).map (FO s),[]⟩:=by
 rw[Ij h];unfold Dh;rw[if_pos q,if_neg (by simp[j])];unfold Gs;rw[Nu];rfl
theorem VJ{s:St}(h:VS s)(u:AD s=false)(j:AE s=true)(q:Ee s=true):BI s=⟨BJ s,[],[]⟩:=by
 rw[Ij h];unfold Dh;rw[if_neg (by simp[u]),if_pos j,if_pos q]
theorem VS.mine{s:St}(h:VS s)(q:AD s=false)(z:AE s=true):VS {s with fls:=Bz s.fls (s.self,s.base,s.log)}:=by
 have D:Bh s.views (s.self,s.base,s.log)=true:=by
  unfold Bh;simp only[zB];refine⟨?_,h.based⟩;split
  .rfl
  .next hb=>
   rcases h.known with hk|⟨v,hk,hv⟩
   .exact absurd hk hb
   .rw[hk];simp only[zB,zE];refine⟨?_,hv⟩;have j:v∈s.views:=List.mem_of_find?_eq_some hk;have F:v.1=s.base:=by have:=List.find?_some hk;simpa using this
    obtain⟨i,y,rfl⟩:=List.mem_iff_getElem.1 j;have n1:=Hl h.vs i y;have n2:=Hl h.vs (s.views.length - 1) U;rw[Gi y] at n1;have u:s.base≠(Ar s.views).1:=by
     unfold AD at q;simpa using q
    unfold Ar at u|-;omega
 exact h.put q z h.self D
theorem WA{s:St}(h:VS s)(u:AD s=false)(j:AE s=true)(q:Ee s=false):BI s=⟨BJ {s with fls:=Bz s.fls (s.self,s.base,s.log)},[],[]⟩:=by
 rw[Ij h];unfold Dh;rw[if_neg (by simp[u]),if_pos j,if_neg (by simp[q])]
theorem Uw{s:St}(h:VS s)(q:AD s=false)(j:AE s=false):BI s=⟨s,[(AZ (Ar s.views),AX 14 (AF [(Ar s.views).1]++AB (zig s.base)++Bb s.log))],[]⟩:=by
 rw[Ij h];unfold Dh;rw[if_neg (by simp[q]),if_neg (by simp[j])];rfl
def RTk(w:World)(r:Cs)(en:Ending)(w':World):Prop:=∃(b2:BM) (A:Option Addr) (c:Nat) (A2:Option Addr) (c2:Nat) (L:List PkM),en=.returned (.tuple #[.agg b2.cells,.slice A2 L.length c2,.slice A r.dl.length c])/\b2.st=r.s/\L.map PkM.v=r.pk/\L.length<=1000000/\b2.Ok w'/\pkE.Box w' A2 L/\Row w' A (Aa.cells r.dl)/\V w w'
theorem I8(b:BM)(w:World)(h:b.Reads w)(hp:0<b.vs.length)(K:b.Fits)(m:Int)(ys:List Int)(u:Ar (vws b.vs)=(m,ys)) :
  Calls prog 57 #[.agg b.cells] w λe w'=>∃A c,e=.returned (.agg #[I m,.slice A ys.length c])/\O (Row w' A (Ai ys))/\O (∀N M,b.Off N M->OffR N M A (Ai ys))/\V w w':=by
 obtain⟨self,base,q,T,Av,cv,vs,Al,cl,ac,Ap,cp,R,Am,cm,y,Af,cf,aa⟩:=b;simp only at hp u;have hn:=K.vs;simp only at hn;obtain⟨j,Q⟩:∃j,vs.length=j+1:=⟨vs.length - 1,U⟩;obtain⟨bb,ad,n,X,F,xs,G,hb,c0,c1,W,h1,h2,D⟩:=DK h.vs (show j<vs.length by omega);simp only at G;subst G;have z:=Jk (by rw[AW];exact Q) (Dw D.o);rw[u] at z;cases z;have ab:IntKind.i64.wrap ((vs.length:Int) - 1)=(j:Int):=by rw[IntWalk.i64_in _ U];omega
 have k1:(0:Int)<=(j:Int):=U;have k2:(j:Int)<(vs.length:Int):=U;have k3:j<vs.length:=U;clear Q h K u;go_enter func57,ntmps57;go_wp2;refine bodyPost_ret (v:=.agg #[I m,.slice X ys.length F]) (by simp[results,results57,go_sem]) rfl ⟨X,⟨F,rfl⟩,W.o.e ((V.new _ _).alloc _),J (λN M hO=>hO.vi _ (zX D.o)),(V.new _ _).alloc _⟩
theorem ZE(s:Int)(A:Option Addr)(c:Nat)(l:List Ent)(w:World)(j:List UInt8)(q:j=AX 15 (AF [s]++Bb l))(h:Row w A (Aa.cells l))(u:l.length<=2000)(y:∀e∈l,e.p.length<=6000) :
  Calls prog 63 #[I s,.slice A l.length c] w (GivesB w j):=by subst q;exact Sc s A c l w h u y
theorem ZO(s f t:Int)(A:Option Addr)(c:Nat)(l:List Ent)(w:World)(j:List UInt8)(q:j=AX 12 (AF [s,f,t]++Bb l))(h:Row w A (Aa.cells l))(u:l.length<=2000)(y:∀e∈l,e.p.length<=6000) :
  Calls prog 36 #[I s,I f,I t,.slice A l.length c] w (GivesB w j):=by subst q;exact Mf s f t A c l w h u y
theorem qk(s n:Int)(w:World)(h:List UInt8)(j:h=AX 13 (AF [s,n])):Calls prog 37 #[I s,I n] w (GivesB w h):=by subst j;exact Ml s n w
theorem ZS(s n:Int)(p:List UInt8)(w:World)(h:List UInt8)(j:h=AX 11 (AF [s,n]++Bq p))(q:p.length<=6000) :
  Calls prog 66 #[I s,I n,.string (Ah p)] w (GivesB w h):=by subst j;exact Sa s n p w q
theorem qh(s n:Int)(A:Option Addr)(c:Nat)(l:List Ent)(w:World)(j:List UInt8)(q:j=AX 14 (AF [s]++AB (zig n)++Bb l))(u:I64 n)(h:Row w A (Aa.cells l))(y:l.length<=2000)(z:∀e∈l,e.p.length<=6000) :
  Calls prog 70 #[I s,I n,.slice A l.length c] w (GivesB w j):=by subst q;exact Sg s n A c l w u h y z
theorem Iu(t:Int)(A:Option Addr)(c:Nat)(bs:List UInt8)(w:World):Row (w.alloc (.cells #[I t,.slice A bs.length c] 102)) (some (Z w.heap.size 0)) (pkE.cells [⟨t,A,c,bs⟩]):=by
 intro _;refine⟨w.heap.size,0,rfl,zj,λj q h=>?_⟩;simp only[Elem.cells,pkE,List.flatMap_cons,List.flatMap_nil,List.append_nil] at h
 match j,h with
 | 0,h=>simpa using h
 | 1,h=>simpa using h
theorem Iq{wc w' W:World}{y:Nat}{v:Value}{l:List PkM}{t:Int}{A:Option Addr}{c:Nat}{bs:List UInt8}(h:Own w' wc.heap.size 5 (.slice A bs.length c) (Aj bs))(D:bs.length<=c/\c<=maxLen)(e:V w' W)(z:pkE.Own wc y v l) :
  ∀q∈[(⟨t,A,c,bs⟩:PkM)],pkE.ok q/\∀r∈pkE.inn q,Row W r.1 r.2/\Apt v r:=by
 intro q F;rw[List.mem_singleton.1 F];refine⟨D,λr u=>?_⟩;simp only[pkE,zC,zN,or_false] at u;subst u;exact⟨h.row.ext e,Hg (λp _ j=>by simp only at j;subst j;exact(h.lt p.block rfl).1) z⟩
theorem IG{w':World}{B B':Nat}{A:Option Addr}{c:Nat}{bs:List UInt8}(h:Own w' B 5 (.slice A bs.length c) (Aj bs))(j:B'<=B):NewAt B' A (Aj bs):=λp _ q=>by subst q;exact zL j (h.lt p.block rfl).1
theorem Le{a b:World}{N M B:Nat}{A:Option Addr}{c:Nat}{L:List PkM}(h:pkE.OB a B (.slice A L.length c) L)(z:M<=B)(G:∀x∈L,NewAt B x.A (Aj x.bs))(D:Lit N M a b):pkE.Box b A L:=by
 obtain⟨K,Q,F,_,_,y⟩:=h.slice;cases F;refine⟨y.1.lit (DP h.1 z) D,λx j=>⟨(y.2 x j).1,λr q=>?_⟩⟩;have u:=q;simp only[pkE,zC,zN,or_false] at q;subst q;exact((y.2 x j).2 _ u).lit ((G x j).offR z) D
theorem Io{B:Nat}{L ND:List PkM}{t:Int}{A:Option Addr}{c:Nat}{bs:List UInt8}(h:∀x∈L,NewAt B x.A (Aj x.bs))(q:NewAt B A (Aj bs))(e:ND=L++[⟨t,A,c,bs⟩]):∀x∈ND,NewAt B x.A (Aj x.bs):=by
 intro x j;rw[e] at j;rcases List.mem_append.1 j with h1|h1
 .exact h x h1
 .rw[List.mem_singleton.1 h1];exact q
theorem YZ{w:World}{A:Option Addr}{l:List (List UInt8)}{i:Nat}(h:Row w A (AU.cells l))(D:i<l.length) :
  ∃b j p,A=some (Z b j)/\(∀w',V w w'->w'.cell? (Z b (j+i))=some (.string (Ah p)))/\O (l[i]?=some p):=by
 obtain⟨b,j,p,q,u,y,z⟩:=Gm h D;exact⟨b,j,p,q,λw' x=>(x.cell (p:=(Z b (j+i))) u).trans y,z⟩
theorem Y0{s:St}(h:VS s)(m:Int):AY s m<=s.log.length:=by
 unfold AY;split
 .exact Int.le_refl _
 .cases hm:B9 s.marks m with
  | none=>simp
  | some n=>exact(h.mks _ (Ig hm)).2.2.2
theorem ZJ{s:St}(h:VS s)(j:List Int):Cv s j<=s.log.length:=by
 rcases(Jb s j j 0).2.2 with h1|⟨m,_,_,h1⟩
 .unfold Cv;rw[h1];omega
 .unfold Cv;rw[h1];exact Y0 h m
theorem ZW{s:St}(h:VS s)(n:Int):Aq (Bm s.log s.stable n) s.self<=s.pend.length:=IF (Ft (Cm.2 h)) n
theorem Wn{s:St}(h:VS s) : -1<=s.base/\s.base<=1099511627776:=by
 rcases h.known with h1|⟨v,h1,_⟩
 .omega
 .unfold Br at h1;have q:=List.mem_of_find?_eq_some h1;have u:=List.find?_some h1;simp only[beq_iff_eq] at u;obtain⟨i,j,rfl⟩:=List.mem_iff_getElem.1 q;have:=Im h.vs i j;rw[Gi j] at this;have:=Ev this;omega
theorem Ye{s:St}(h:VS s){m st:Int}(j:B9 s.marks m=some st):0<=st/\st<=s.log.length:=by
 have:=(h.mks _ (Ig j)).2.2;exact this
theorem Ub(rV:Gv)(b:BM)(w:World)(h:b.Ok w)(D:AM b.st=false):Calls prog 15 #[.agg b.cells] w (RTk w (BI b.st)):=by
 have H:=J h;have HV:=J D;have z:O (BI b.st=⟨B8,[],[]⟩):=J (by unfold BI;rw[if_pos D]);clear h D;obtain⟨y,q,u,aa⟩:=DG w b.cells;go_enter func15,ntmps15;go_upto_region 1 with fail;generalize ((w.alloc (.cells b.cells 28)).alloc (.cells Yq 28))=u1 at *;replace H:=H.o.e y.o;obtain⟨F,G,K,Q,R,T,W,X,q8⟩:=nine q.o;obtain⟨z0,z1,z2,z3,z4,z5,z6,z7,z8⟩:=u.o.free9;obtain⟨k0,k1,k2,k3,k4,k5,k6,k7,k8⟩:=nine u.o;go_wp2_with (first
  | (go_at_call 43
     refine(HV.o▸rV b _ H.o).mono ?_;rintro e w2 ⟨rfl,j⟩;replace H:=H.o.e j;replace q:=q.o.e j;replace u:=u.o.e j;replace y:=y.o.t j;have ab:w.heap.size+2<=w2.heap.size:=by have:=u.o.lt;omega
     clear F G K Q R T W X q8;obtain⟨F,G,K,Q,R,T,W,X,q8⟩:=nine q.o;obtain⟨z0,z1,z2,z3,z4,z5,z6,z7,z8⟩:=u.o.free9;obtain⟨k0,k1,k2,k3,k4,k5,k6,k7,k8⟩:=nine u.o;clear j))
 refine IL (v1:=Zq) (v2:=Zq) results15 rfl rfl rfl u.o (λwz hz=>?_);have WQ:=J (Lit.wrote (N:=w.heap.size) (M:=w.heap.size+2) hz U U);clear hz;rw[z.o];exact⟨BK,none,0,none,0,[],rfl,rfl,rfl,zj,⟨GI _,GV,zR _⟩,Elem.Box.nil _ _,Row.nil _ _,WQ.o.ext y.o (zR _)⟩
theorem Ri{P:Prop}(h:P:=by
 go_roundw
 case rel=>exact⟨k+1,An,cn,ND,U,rfl,by go_num,by have:=bu.o;omega,aw,bw,bv,XN⟩
 case measure=>simp[intOf];omega):P:=h
theorem UU(rV:Gv)(b:BM)(w:World)(h:b.Ok w)(hv:VS b.st)(ho:AD b.st=true)(hl:AE b.st=true):Calls prog 15 #[.agg b.cells] w (RTk w (BI b.st)):=by
 have H:=J h;have OF:=J h.far;have VV:=J hv;have HV:O (AM b.st=true):=J (Cm.2 hv);have ax:=J (Ft (Cm.2 hv));have dp:=h.f.log;have dn:=h.f.fls;have bm:0<b.vs.length:=by have:=(DY hv.vs).1;rw[show b.st.views=vws b.vs from rfl,AW] at this;exact this
 obtain⟨⟨tn,ts⟩,ht⟩:∃v,Ar (vws b.vs)=v:=⟨_,rfl⟩;have HT:=J ht;have ds:ts.length<=16:=by have:=((DM (m:=16)).1 (Ei hv.last)).2.1;rw[show Ar b.st.views=(tn,ts) from ht] at this;exact this
 obtain⟨sq,ci⟩:∃s,AZ (tn,ts)=s:=⟨_,rfl⟩;have cy:=J ci;have br:O ((AD b.st&&AE b.st)=true):=J (by rw[ho,hl];rfl);have bd:=J ho;have bq:=J hl;have dj:O ((!AD b.st&&AE b.st)=false):=J (by rw[ho,hl];rfl);have dm:=Ej;clear h hv ht ci ho hl;obtain⟨y,G,u,dt⟩:=DG w b.cells;go_enter func15,ntmps15;go_upto_region 1 with fail;generalize ((w.alloc (.cells b.cells 28)).alloc (.cells Yq 28))=u1 at *;replace H:=H.o.e y.o;obtain⟨K,Q,R,T,X,q5,q6,q7,q8⟩:=nine G.o;go_upto_region 4 with (first
  | (go_at_call 43
     refine(HV.o▸rV b _ H.o).mono ?_;rintro e w2 ⟨rfl,j⟩;replace H:=H.o.e j;replace G:=G.o.e j;replace u:=u.o.e j;replace y:=y.o.t j;clear K Q R T X q5 q6 q7 q8;obtain⟨K,Q,R,T,X,q5,q6,q7,q8⟩:=nine G.o;clear j)
  | (go_at_call 57
     refine(I8 b _ H.o.r bm H.o.f tn ts HT.o).mono ?_;rintro e w3 ⟨A5,c5,rfl,D,bi,j⟩;replace bi:=J (bi.o _ _ OF.o);replace H:=H.o.e j;replace G:=G.o.e j;replace u:=u.o.e j;replace y:=y.o.t j;clear K Q R T X q5 q6 q7 q8;obtain⟨K,Q,R,T,X,q5,q6,q7,q8⟩:=nine G.o;clear j))
 have dc:w.heap.size+2<=w3.heap.size:=u.o.lt;have j:V w3 (w3.alloc (.cells #[I tn,.slice A5 ts.length c5] 46)):=V.new _ _;have BV:O (BIs (w3.alloc (.cells #[I tn,.slice A5 ts.length c5] 46)) w3.heap.size #[I tn,.slice A5 ts.length c5] 46):=J (BIs.new _ _ _);replace D:=D.o.e j;replace H:=H.o.e j;replace G:=G.o.e j;replace u:=u.o.e j;replace y:=y.o.t j;clear K Q R T X q5 q6 q7 q8;clear j;generalize (w3.alloc (.cells #[I tn,.slice A5 ts.length c5] 46))=u4 at *;generalize w3.heap.size=rv at *;obtain⟨K,Q,R,T,X,q5,q6,q7,q8⟩:=nine G.o;obtain⟨t0,t1,_,_⟩:=BV.o.n2 _ (V.refl _);go_upto_region 7 with (first
  | (go_at_call 58
     refine(EG tn A5 c5 ts _ D.o U sq cy.o).mono ?_;rintro e w5 ⟨rfl,j⟩;replace H:=H.o.e j;replace G:=G.o.e j;replace u:=u.o.e j;replace BV:=BV.o.e j;replace D:=D.o.e j;replace y:=y.o.t j;clear K Q R T X q5 q6 q7 q8;clear j;obtain⟨K,Q,R,T,X,q5,q6,q7,q8⟩:=nine G.o))
 clear t0 t1;have ce:b.sent - (Aq b.log b.self:Int)<=(b.pend.length:Int):=by have h1:(b.pend.length:Int)=b.sent - Aq (b.log.take b.stable.toNat) b.self:=ax.o.pend;have h2:=FJ b.log b.stable.toNat b.self;omega
 obtain⟨RR,b0⟩:∃x,x=Be ⟨Ct b.st,[],[]⟩ (Cv (Ct b.st) ts):=⟨_,rfl⟩;have bg:=J b0;clear b0;have az:(Ar b.st.views).2=ts:=by rw[show Ar b.st.views=(tn,ts) from HT.o]
 have c2:=J (Wb VV.o bd.o bq.o az bg.o);have c3:=J (Yv VV.o bd.o bq.o az bg.o);go_upto_region 10 with (first
  | (go_at_call 59
     refine(br.o▸Cy b _ H.o.r bm H.o.f).mono ?_;rintro e w6 ⟨rfl,j⟩;replace H:=H.o.e j;replace G:=G.o.e j;replace u:=u.o.e j;replace BV:=BV.o.e j;replace D:=D.o.e j;replace y:=y.o.t j;clear K Q R T X q5 q6 q7 q8;clear j;obtain⟨K,Q,R,T,X,q5,q6,q7,q8⟩:=nine G.o)
  | (go_at_call 44
     refine(Qn b _ H.o bm ax.o.own ax.o.sent ce ax.o.log).mono ?_;rintro e w8 ⟨b1,rfl,cg,b9,j,b7⟩;have bh:O (b1.st=Ct b.st):=J (cg.trans (by unfold IE;rw[if_pos br.o]));have cw:=J b9;have am:=J (b7 _ _ u.o.lt OF.o);clear cg b9 b7;replace H:=H.o.e j;replace G:=G.o.e j;replace u:=u.o.e j;replace BV:=BV.o.e j;replace D:=D.o.e j;replace y:=y.o.t j;clear K Q R T X q5 q6 q7 q8;clear j;obtain⟨K,Q,R,T,X,q5,q6,q7,q8⟩:=nine G.o)
  | (go_at_call 60
     have bj:O (VS b1.st):=J (by rw[bh.o];exact VV.o.taken bd.o);have bl:vws b1.vs=vws b.vs:=congrArg St.views bh.o;have ck:0<b1.vs.length:=by have:=congrArg List.length bl;rw[AW,AW] at this;omega
     have c0:O (Ar (vws b1.vs)=(tn,ts)):=J (by rw[bl];exact HT.o);clear bl;refine(JT b1 _ tn ts cw.o ck c0.o bj.o.st0 (ZJ bj.o ts) (ZW bj.o _)).mono ?_;rw[bh.o,<-bg.o];rintro e w9 ⟨b2,A7,c7,rfl,c6,c8,ch,ca,b3,cd,j,b8⟩;have ai:=J ch;have bp:=J ca;have ar:=J b3;have ac:=J (b8 _ _ u.o.lt am.o);have bn:O (OffR w.heap.size (w.heap.size+2) A7 (Aa.cells RR.dl)):=J (cd.offR u.o.lt);clear c6 c8 ch ca b3 cd b8;replace H:=H.o.e j;replace G:=G.o.e j;replace u:=u.o.e j;replace BV:=BV.o.e j;replace D:=D.o.e j;replace y:=y.o.t j;clear K Q R T X q5 q6 q7 q8;clear j;obtain⟨K,Q,R,T,X,q5,q6,q7,q8⟩:=nine G.o;obtain⟨y0,y1,y2,y3,y4,y5,y6,y7,y8⟩:=G.o.free9;unfold BM.cells))
 generalize hQ:(((((((((w9.setCell (Z w.heap.size 0) (I b2.self)).setCell (Z w.heap.size 1) (.slice b2.Av b2.vs.length b2.cv)).setCell (Z w.heap.size 2) (I b2.base)).setCell (Z w.heap.size 3) (.slice b2.Al b2.log.length b2.cl)).setCell (Z w.heap.size 4) (I b2.stable)).setCell (Z w.heap.size 5) (I b2.sent)).setCell (Z w.heap.size 6) (.slice b2.Ap b2.pend.length b2.cp)).setCell (Z w.heap.size 7) (.slice b2.Am b2.marks.length b2.cm)).setCell (Z w.heap.size 8) (.slice b2.Af b2.fls.length b2.cf))=w7 at *;have K7:O (Wrote w.heap.size w9 w7):=(by subst hQ;exact J AS);have L7:O (Lit w.heap.size (w.heap.size+2) w9 w7):=(by subst hQ;exact J (Lit.wrote K7.o (zR _) U));have aa:=J (bp.o.lit ac.o L7.o);have aq:O (BIs w7 w.heap.size b2.cells 28):=(by subst hQ;exact J (Ba G.o));replace u:=J (u.o.wrote U K7.o);replace y:=J (L7.o.ext y.o (zR _));have be:=J (ar.o.lit bn.o L7.o);replace BV:=J (BV.o.lit (.inr dc) L7.o);replace D:=J (D.o.lit bi.o L7.o);clear K7 L7 G y0 y1 y2 y3 y4 y5 y6 y7 y8 K Q R T X q5 q6 q7 q8;clear hQ;clear bp ar H;have de:w.heap.size+2<=w7.heap.size:=u.o.lt;have bx:O (VS b2.st):=J (by rw[ai.o];exact c3.o);have bz:=J (Ft (Cm.2 bx.o));have cc:b2.log.length<=2000:=bz.o.log;have dg:=aa.o.f.cl;have bt:O (∀e∈b2.log,e.p.length<=6000):=J bz.o.lp;have HN:=aq.o.n9;simp only[N9] at HN;have cj:=λw' (x:V w7 w')=>(BV.o.n2 w' x).2.1;go_wp2;go_loopw [7,9] (λs i wr=>∃(k:Nat) (A':Option Addr) (c':Nat) (L:List PkM),k<=ts.length/\s=.slice A' L.length c'/\i=I k/\L.length<=k/\O (L.map PkM.v=(ts.take k).flatMap (Dq b2.st))/\O (pkE.OB wr w7.heap.size (.slice A' L.length c') L)/\O (∀x∈L,NewAt w7.heap.size x.A (Aj x.bs))/\O (V w7 wr)) (λ_ i _=>ts.length - (intOf i).toNat)
 case atStart=>exact⟨0,none,0,[],zO _,rfl,rfl,zR _,J rfl,J (Elem.OB.nil _ _),J (λ_ h=>by cases h),J (V.refl _)⟩
 case round=>
  obtain⟨k,A1,c1,L,hk,rfl,rfl,dq,HS,HO,av,F⟩:=hrel;obtain⟨wB,rfl⟩:∃x,x=wr:=⟨wr,rfl⟩;have t1:=cj _ F.o;by_cases db:k<ts.length;rotate_left
  .have cz:O (L.map PkM.v=ts.flatMap (Dq RR.s)):=J (by have:=HS.o;rw[ai.o,List.take_of_length_le U] at this;exact this);have cb:=aa.o.ext F.o;have cx:=J cb;have cr:=be.o.e F.o;clear cb;replace aq:=aq.o.e F.o;replace u:=u.o.e F.o;replace y:=y.o.t F.o;obtain⟨K,Q,R,T,X,q5,q6,q7,q8⟩:=nine aq.o;obtain⟨z0,z1,z2,z3,z4,z5,z6,z7,z8⟩:=u.o.free9;obtain⟨k0,k1,k2,k3,k4,k5,k6,k7,k8⟩:=nine u.o;clear HN cj;go_wp2;refine IL (v1:=.slice A1 L.length c1) (v2:=.slice A7 RR.dl.length c7) results15 rfl rfl rfl u.o (λwz hz=>?_);have WQ:=J (Lit.wrote (N:=w.heap.size) (M:=w.heap.size+2) hz U U);clear hz;rw[c2.o];exact⟨b2,A7,c7,A1,c1,L,rfl,ai.o,cz.o,U,cx.o.lit ac.o WQ.o,Le HO.o de av.o WQ.o,cr.o.lit bn.o WQ.o,WQ.o.ext y.o (zR _)⟩
  obtain⟨ib,io,m,da,hx,c4⟩:=QC (D.o.ext F.o) db;subst da;have t2:=hx _ (V.refl _);obtain⟨K,Q,R,T,X,q5,q6,q7,q8⟩:=HN _ F.o;have au:=J (Uc (f:=Dq b2.st) c4.o);rw[<-HS.o] at au;by_cases af:m=b2.self
  .have d1:(m == b2.self)=true:=by simpa using af
   have aw:O (L.map PkM.v=(ts.take (k+1)).flatMap (Dq b2.st)):=J (by rw[au.o,TZ af,List.append_nil]);go_wp2;go_roundw
   case rel=>exact⟨k+1,A1,c1,L,U,rfl,by go_num,U,aw,HO,av,F⟩
   case measure=>simp[intOf];omega
  have d1:(m == b2.self)=false:=by simpa using af
  cases hmf:B9 b2.marks m with
  | none=>
   have bc:O ((B9 b2.marks m).isSome=false):=J (by rw[hmf];rfl);obtain⟨FB,ad⟩:∃x,x=AX 15 (AF [b2.base]++Bb b2.log):=⟨_,rfl⟩;have bb:=J ad;have ag:O (Dq b2.st m=[(m,FB)]):=J (by rw[UW af hmf,ad];rfl);clear ad hmf;go_wp2_with (first
    | (go_at_call 61
       refine(bc.o▸MW b2 m _ (aa.o.r.ext F.o) aa.o.f).mono ?_;rintro e wD ⟨rfl,j⟩;replace F:=F.o.t j;replace HO:=HO.o.e j;clear K Q R T X q5 q6 q7 q8;clear j;obtain⟨K,Q,R,T,X,q5,q6,q7,q8⟩:=HN _ F.o)
    | (go_at_call 63
       refine(ZE b2.base b2.Al b2.cl b2.log _ FB bb.o (aa.o.r.log.ext F.o) cc bt.o).mono ?_;rintro e wC ⟨A9,c9,rfl,ak,al,ap,j⟩;have aj:=J ap;have ba:=J (And.intro ak al);have bf:=J HO.o.1;have a9:=J F.o.size;replace F:=F.o.t j;replace HO:=HO.o.e j;clear ak al ap j)
    | (at_builtin
       have ae:O (Row (wC.alloc (.cells #[I m,.slice A9 FB.length c9] 102)) (some (Z wC.heap.size 0)) (pkE.cells [⟨m,A9,c9,FB⟩])):=J (Iu _ _ _ _ _);have OW:=J (Elem.OB.ext HO.o (V.new wC (.cells #[I m,.slice A9 FB.length c9] 102)));have XW:=J (V.trans F.o (V.new wC (.cells #[I m,.slice A9 FB.length c9] 102)));refine By pkE rfl (.tmp 56) (.tmp 64) rfl _ w7.heap.size _ L zi _ 1 1 [⟨m,A9,c9,FB⟩] zi rfl ae.o OW.o (Iq aj.o ba.o (V.new _ _) bf.o) U XW.o.size ?_;intro df wn ho hg hs;obtain⟨ND,ab⟩:∃z,z=L++[(⟨m,A9,c9,FB⟩:PkM)]:=⟨_,rfl⟩;rw[<-ab] at ho;have ah:=J ab;have bu:O (ND.length=L.length+1):=J (by rw[ab];simp);clear ab;have XN:O (V w7 wn):=J (hg.below XW.o XW.o.size (λq hq=>(OW.o.1.lt q hq).1));obtain⟨An,cn,rfl,_,_,_⟩:=ho.slice;have bw:=J ho;have bv:O (∀x∈ND,NewAt w7.heap.size x.A (Aj x.bs)):=J (Io av.o (IG aj.o a9.o) ah.o);clear ho hg hs ae OW XW HO F))
   have aw:O (ND.map PkM.v=(ts.take (k+1)).flatMap (Dq b2.st)):=J (by rw[au.o,ag.o,ah.o,List.map_append];rfl);exact Ri
  | some st=>
   have bk:=Ye bx.o hmf;obtain⟨sn,dd⟩:=Int.eq_ofNat_of_zero_le bk.1;subst dd;have di:sn<=b2.log.length:=by have:=bk.2;simp only[BM.st] at this;omega
   have bc:O ((B9 b2.marks m).isSome=true):=J (by rw[hmf];rfl);have co:O (AY b2.st m=(sn:Int)):=J (by unfold AY;rw[if_neg (show ¬m=b2.st.self from af),show b2.st.marks=b2.marks from rfl,hmf];rfl);obtain⟨en,b5⟩:∃en:Nat,min (sn+16) b2.log.length=en:=⟨_,rfl⟩;obtain⟨ex,ay⟩:∃l,l=(b2.log.take en).drop sn:=⟨_,rfl⟩;have an:ex.length=en - sn:=by rw[ay,zD,zT];omega
   have bo:=J ay;obtain⟨FB,ad⟩:∃x,x=AX 12 (AF [b2.base,(sn:Int),b2.stable]++Bb ex):=⟨_,rfl⟩;have bb:=J ad;have ag:O (Dq b2.st m=[(m,FB)]):=J (by rw[UD af hmf b5,ad,ay];rfl);have ct:O (∀e∈ex,e.p.length<=6000):=J (λe he=>bt.o e (by rw[bo.o] at he;exact List.mem_of_mem_take (List.mem_of_mem_drop he)));have b6:sn<=en/\en<=b2.log.length:=U;have du:IntKind.i64.wrap ((sn:Int)+16)=(sn:Int)+16:=IntWalk.i64_in _ U;have dh:min (b2.log.length:Int) ((sn:Int)+16)=(en:Int):=U;have dr:∀W,(Instr.slice 23 (.slice b2.Al b2.log.length b2.cl) (some (I (sn:Int))) (some (I (en:Int))) none).run prog W=.ok (.slice (AO b2.Al sn b2.cl 4) ex.length (b2.cl - sn)) W:=λW=>by rw[an];exact Aa.slice_lh b2.Al b2.log.length b2.cl sn en _ _ rfl rfl b6.1 U W
   have cq:O (∀w',V w7 w'->Row w' (AO b2.Al sn b2.cl 4) (Aa.cells ex)):=J (λw' x=>by rw[bo.o];exact Elem.row_sub (aa.o.r.log.ext x) U sn en);have dk:=J an;have b4:ex.length<=2000:=U;clear ad hmf bk b5 ay an;go_upto_region 18 with (first
    | (go_at_call 61
       refine(bc.o▸MW b2 m _ (aa.o.r.ext F.o) aa.o.f).mono ?_;rintro e wD ⟨rfl,j⟩;replace F:=F.o.t j;replace HO:=HO.o.e j;clear K Q R T X q5 q6 q7 q8;clear j;obtain⟨K,Q,R,T,X,q5,q6,q7,q8⟩:=HN _ F.o)
    | (go_at_call 62
       refine(co.o▸G9 b2 m _ (aa.o.r.ext F.o) aa.o.f).mono ?_;rintro e wF ⟨rfl,j⟩;replace F:=F.o.t j;replace HO:=HO.o.e j;clear K Q R T X q5 q6 q7 q8;clear j;obtain⟨K,Q,R,T,X,q5,q6,q7,q8⟩:=HN _ F.o))
   clear K Q R T X q5 q6 q7 q8;refine eD 22 F.o λhH=>?_;refine ec 0 ?_;refine ec 4 ?_;refine ec 8 ?_;refine ec 12 ?_;refine ea 16 ?_;refine eE 17 (ZO b2.base (sn:Int) b2.stable (AO b2.Al sn b2.cl 4) (b2.cl - sn) ex _ FB bb.o (cq.o _ hH) b4 ct.o) ?_;rintro _ wC ⟨A9,c9,rfl,ak,al,ap,hx⟩;have aj:=J ap;have ba:=J (And.intro ak al);have bf:=J (HO.o.ext zW).1;have a9:=J hH.size;have ao:=HO.o.e (zW.trans hx);refine⟨_,rfl,hH.trans hx,λhH=>?_⟩;clear hx ak al ap;refine ea 18 ?_;refine eF 19 ?_;refine eJ 19 (d:=some 97) (w':=(wC.alloc (.cells #[I m,.slice A9 FB.length c9] 102))) (hH.trans (V.new _ _)) λhH=>?_;have ae:O (Row (wC.alloc (.cells #[I m,.slice A9 FB.length c9] 102)) (some (Z wC.heap.size 0)) (pkE.cells [⟨m,A9,c9,FB⟩])):=J (Iu _ _ _ _ _);have OW:=J (Elem.OB.ext ao.o (V.new wC (.cells #[I m,.slice A9 FB.length c9] 102)));have cu:=J (Iq (t:=m) aj.o ba.o (V.new wC (.cells #[I m,.slice A9 FB.length c9] 102)) bf.o);generalize (wC.alloc (.cells #[I m,.slice A9 FB.length c9] 102))=v9 at *;generalize wC.heap.size=rz at ae|-;refine eF 20 ?_;refine eK 20 98 pkE (.tmp 78) (.tmp 97) rfl rfl rfl rfl v9 w7.heap.size _ L zi _ 1 1 [⟨m,A9,c9,FB⟩] zi rfl ae.o zd OW.o cu.o U hH.size ?_;intro df wn ho hg hs;obtain⟨ND,ab⟩:∃z,z=L++[(⟨m,A9,c9,FB⟩:PkM)]:=⟨_,rfl⟩;rw[<-ab] at ho;have ah:=J ab;have bu:O (ND.length=L.length+1):=J (by rw[ab];simp);clear ab;have XN:O (V w7 wn):=J (hg.below hH hH.size (λq hq=>(OW.o.1.lt q hq).1));obtain⟨An,cn,rfl,_,_,_⟩:=ho.slice;have bw:=J ho;have bv:O (∀x∈ND,NewAt w7.heap.size x.A (Aj x.bs)):=J (Io av.o (IG aj.o a9.o) ah.o);clear ho hg hs ae OW hH;refine⟨XN.o,λhH=>?_⟩;refine ea 21 ?_;refine eA ?_;clear hH;go_wp2;have aw:O (ND.map PkM.v=(ts.take (k+1)).flatMap (Dq b2.st)):=J (by rw[au.o,ag.o,ah.o,List.map_append];rfl);exact Ri
end Go.Proofs.YtponbabbabnaeaaGreat
