/- Part 36: contracts of functions. Conditions: as each theorem says. -/
import Derived.Test.YtponbabbabnaeaaGreatQh32
import Derived.Test.YtponbabbabnaeaaGreatQh22
set_option maxRecDepth 100000
set_option maxHeartbeats 40000000
set_option linter.unusedVariables false
namespace Go.Proofs.YtponbabbabnaeaaGreat
open Proofs.Tryz
open Go.RowKit
theorem Q4{P:Prop}(h:P:=by
 generalize hQ:(((((((((w8.setCell (Y w 0) (I b2.self)).setCell (Y w 1) (.slice b2.Av b2.vs.length b2.cv)).setCell (Y w 2) (I b2.base)).setCell (Y w 3) (.slice b2.Al b2.log.length b2.cl)).setCell (Y w 4) (I b2.stable)).setCell (Y w 5) (I b2.sent)).setCell (Y w 6) (.slice b2.Ap b2.pend.length b2.cp)).setCell (Y w 7) (.slice b2.Am b2.marks.length b2.cm)).setCell (Y w 8) (.slice b2.Af b2.fls.length b2.cf))=wS at *;have K7:O (Wrote w.heap.size w8 wS):=(by subst hQ;exact J AS);have L7:O (Lit w.heap.size (w.heap.size+2) w8 wS):=(by subst hQ;exact J (Lit.wrote K7.o (zR _) U));have bk:=J (ao.o.lit ah.o L7.o);have bg:O (BIs wS w.heap.size b2.cells 28):=(by subst hQ;exact J (Ba q.o));replace u:=J (u.o.wrote U K7.o);replace y:=J (L7.o.ext y.o (zR _));clear K7 L7 q y0 y1 y2 y3 y4 y5 y6 y7 y8 z D F G K Q R T W;clear hQ;obtain⟨z,D,F,G,K,Q,R,T,W⟩:=nine bg.o;obtain⟨z0,z1,z2,z3,z4,z5,z6,z7,z8⟩:=u.o.free9;obtain⟨k0,k1,k2,k3,k4,k5,k6,k7,k8⟩:=nine u.o;go_wp2;refine IL (v1:=Zq) (v2:=Zq) results15 rfl rfl rfl u.o (λwz hz=>?_);have WQ:=J (Lit.wrote (N:=w.heap.size) (M:=w.heap.size+2) hz U U);clear hz;rw[ak.o];exact⟨b2,none,0,none,0,[],rfl,ar.o,rfl,zj,bk.o.lit ah.o WQ.o,Elem.Box.nil _ _,Row.nil _ _,WQ.o.ext y.o (zR _)⟩):P:=h
theorem Tq(rV:Gv)(b:BM)(w:World)(h:b.Ok w)(hv:VS b.st)(ho:AD b.st=false)(hl:AE b.st=true):Calls prog 15 #[.agg b.cells] w (RTk w (BI b.st)):=by
 have H:=J h;have OF:=J h.far;have VV:=J hv;have HV:O (AM b.st=true):=J (Cm.2 hv);have bx:=J (Ft (Cm.2 hv));have b4:=h.f.log;have b3:=h.f.fls;have ag:0<b.vs.length:=by have:=(DY hv.vs).1;rw[show b.st.views=vws b.vs from rfl,AW] at this;exact this
 obtain⟨⟨tn,ts⟩,ht⟩:∃v,Ar (vws b.vs)=v:=⟨_,rfl⟩;have HT:=J ht;have b7:ts.length<=16:=by have:=((DM (m:=16)).1 (Ei hv.last)).2.1;rw[show Ar b.st.views=(tn,ts) from ht] at this;exact this
 obtain⟨sq,bf⟩:∃s,AZ (tn,ts)=s:=⟨_,rfl⟩;have bo:=J bf;have bl:O ((AD b.st&&AE b.st)=false):=J (by rw[ho,hl];rfl);have af:=J ho;have aj:=J hl;have bi:O ((!AD b.st&&AE b.st)=true):=J (by rw[ho,hl];rfl);have b1:=Ej;clear h hv ht bf ho hl;obtain⟨y,q,u,b8⟩:=DG w b.cells;go_enter func15,ntmps15;go_upto_region 1 with fail;generalize ((w.alloc (.cells b.cells 28)).alloc (.cells Yq 28))=u1 at *;replace H:=H.o.e y.o;obtain⟨z,D,F,G,K,Q,R,T,W⟩:=nine q.o;go_upto_region 4 with (first
  | (go_at_call 43
     refine(HV.o▸rV b _ H.o).mono ?_;rintro e w2 ⟨rfl,j⟩;replace H:=H.o.e j;replace q:=q.o.e j;replace u:=u.o.e j;replace y:=y.o.t j;clear z D F G K Q R T W;obtain⟨z,D,F,G,K,Q,R,T,W⟩:=nine q.o;clear j)
  | (go_at_call 57
     refine(I8 b _ H.o.r ag H.o.f tn ts HT.o).mono ?_;rintro e w3 ⟨A5,c5,rfl,X,au,j⟩;replace au:=J (au.o _ _ OF.o);replace H:=H.o.e j;replace q:=q.o.e j;replace u:=u.o.e j;replace y:=y.o.t j;clear z D F G K Q R T W;obtain⟨z,D,F,G,K,Q,R,T,W⟩:=nine q.o;clear j))
 have b6:w.heap.size+2<=w3.heap.size:=u.o.lt;have j:V w3 (w3.alloc (.cells #[I tn,.slice A5 ts.length c5] 46)):=V.new _ _;have BV:O (BIs (w3.alloc (.cells #[I tn,.slice A5 ts.length c5] 46)) w3.heap.size #[I tn,.slice A5 ts.length c5] 46):=J (BIs.new _ _ _);replace X:=X.o.e j;replace H:=H.o.e j;replace q:=q.o.e j;replace u:=u.o.e j;replace y:=y.o.t j;clear z D F G K Q R T W;clear j;generalize (w3.alloc (.cells #[I tn,.slice A5 ts.length c5] 46))=u4 at *;generalize w3.heap.size=rv at *;obtain⟨z,D,F,G,K,Q,R,T,W⟩:=nine q.o;obtain⟨t0,t1,_,_⟩:=BV.o.n2 _ (V.refl _);go_upto_region 7 with (first
  | (go_at_call 58
     refine(EG tn A5 c5 ts _ X.o U sq bo.o).mono ?_;rintro e w5 ⟨rfl,j⟩;replace H:=H.o.e j;replace q:=q.o.e j;replace u:=u.o.e j;replace BV:=BV.o.e j;replace X:=X.o.e j;replace y:=y.o.t j;clear z D F G K Q R T W;clear j;obtain⟨z,D,F,G,K,Q,R,T,W⟩:=nine q.o))
 clear t0 t1;obtain⟨fS,an⟩:∃l,l=b.st.fls:=⟨_,rfl⟩;have ai:=J an;have bc:fS.length=b.fls.length:=by rw[an];exact zP _
 clear an;go_upto_region 27 with (first
  | (go_at_call 59
     refine(bl.o▸Cy b _ H.o.r ag H.o.f).mono ?_;rintro e w6 ⟨rfl,j⟩;replace H:=H.o.e j;replace q:=q.o.e j;replace u:=u.o.e j;replace BV:=BV.o.e j;replace X:=X.o.e j;replace y:=y.o.t j;clear z D F G K Q R T W;clear j;obtain⟨z,D,F,G,K,Q,R,T,W⟩:=nine q.o)
  | (go_at_call 64
     refine(af.o▸D5 b _ H.o.r ag H.o.f).mono ?_;rintro e w7 ⟨rfl,j⟩;replace H:=H.o.e j;replace q:=q.o.e j;replace u:=u.o.e j;replace BV:=BV.o.e j;replace X:=X.o.e j;replace y:=y.o.t j;clear z D F G K Q R T W;clear j;obtain⟨z,D,F,G,K,Q,R,T,W⟩:=nine q.o)
  | (go_at_call 67
     refine(bi.o▸EW b _ H.o.r ag H.o.f).mono ?_;rintro e w9 ⟨rfl,j⟩;replace H:=H.o.e j;replace q:=q.o.e j;replace u:=u.o.e j;replace BV:=BV.o.e j;replace X:=X.o.e j;replace y:=y.o.t j;clear z D F G K Q R T W;clear j;obtain⟨z,D,F,G,K,Q,R,T,W⟩:=nine q.o))
 have HN:=q.o.n9;simp only[N9] at HN;clear z D F G K Q R T W;go_wp2;go_loopw [13,14] (λo i wr=>∃(k:Nat) (own:Bool),k<=b.fls.length/\o=.bool own/\i=I k/\O (own=(fS.take k).any λf=>f.1 == b.self)/\O (V w9 wr)) (λ_ i _=>b.fls.length - (intOf i).toNat)
 case atStart=>exact⟨0,false,zO _,rfl,rfl,J rfl,J (V.refl _)⟩
 case round=>
  obtain⟨k,own,hk,rfl,rfl,ab,XE⟩:=hrel;obtain⟨w4,rfl⟩:∃x,x=wr:=⟨wr,rfl⟩;have be:=(HN _ XE.o).2.2.2.2.2.2.2.2;by_cases bd:k<b.fls.length
  .skip
   obtain⟨mb,mo,n,fb,fA,fc,fl,hA,hv,bw,bq⟩:=Hj H.o.r.fls bd;have aw:O (fS[k]?=some (n,fb,fl)):=J (by rw[ai.o];exact IJ bq.o);have bt:=λw' (x:V w4 w')=>HN w' (XE.o.trans x);have b9:=λw' (x:V w4 w')=>hv w' (XE.o.trans x);simp only[hA] at bt;clear hA;go_upto_region 31 with fail;clear be hv HN;cases own with
   | true=>
    have al:O (true=(fS.take (k+1)).any λf=>f.1 == b.self):=J (by rw[Cz aw.o,List.any_append,<-ab.o];simp);refine eD 13 (V.refl _) λhH=>?_;refine eb 0 ?_;refine ef 2 ?_;refine ef 6 ?_;refine ed 10 ?_;refine eb 11 ?_;refine eA ?_;have am:=XE.o.t hH;clear hH;go_wp2;go_roundw
    case rel=>exact⟨k+1,true,U,rfl,by go_num,al,am⟩
    case measure=>simp[intOf];omega
   | false=>
    have al:O ((n == b.self)=(fS.take (k+1)).any λf=>f.1 == b.self):=J (by rw[Cz aw.o,List.any_append,<-ab.o];simp);refine eD 13 (V.refl _) λhH=>?_;refine ec 0 ?_;refine ec 4 ?_;refine ec 8 ?_;refine ea 12 ?_;refine eA ?_;have am:=XE.o.t hH;clear hH;go_wp2;go_roundw
    case rel=>exact⟨k+1,(n == b.self),U,rfl,by go_num,al,am⟩
    case measure=>simp[intOf];omega
  have bv:k=b.fls.length:=U;subst bv;rw[<-bc,List.take_length] at ab;have aq:O (Ee b.st=own):=J (by rw[ab.o];unfold Ee;rw[<-ai.o];rfl);replace H:=H.o.e XE.o;replace q:=q.o.e XE.o;replace u:=u.o.e XE.o;replace y:=y.o.t XE.o;clear HN be bd hk ab XE ai bc;skip
  obtain⟨z,D,F,G,K,Q,R,T,W⟩:=nine q.o;obtain⟨y0,y1,y2,y3,y4,y5,y6,y7,y8⟩:=q.o.free9;cases own with
  | true=>
   have ak:=J (VJ VV.o af.o aj.o aq.o);go_upto_region 35 with (first
    | (go_at_call 69
       refine(JR b _ H.o VV.o).mono ?_;rintro e w8 ⟨b2,rfl,ae,ad,j,ac⟩;have ar:=J ae;have ao:=J ad;have ah:=J (ac _ _ u.o.lt OF.o);replace q:=q.o.e j;replace u:=u.o.e j;replace y:=y.o.t j;clear ae ad j ac y0 y1 y2 y3 y4 y5 y6 y7 y8 z D F G K Q R T W;obtain⟨y0,y1,y2,y3,y4,y5,y6,y7,y8⟩:=q.o.free9;obtain⟨z,D,F,G,K,Q,R,T,W⟩:=nine q.o;unfold BM.cells))
   exact Q4
  | false=>
   have ak:O (BI b.st=⟨BJ {b.st with fls:=Bz b.st.fls (b.self,b.base,b.log)},[],[]⟩):=J (WA VV.o af.o aj.o aq.o);have b5:b.fls.length<=1000:=by have:=VV.o.fl_len;rw[show b.st.fls=b.fls.map FlM.v from rfl,zP] at this;exact this
   have av:O (VS {b.st with fls:=Bz b.st.fls (b.self,b.base,b.log)}):=J (VV.o.mine af.o aj.o);have bj:=J H.o.f.cl;go_upto_region 34 with (first
    | (go_at_call 68
       have bu:=u.o.lt;refine(Oy b.Af b.cf b.fls ⟨b.self,b.base,b.Al,b.cl,b.log⟩ _ H.o.r.fls H.o.r.log bj.o U).mono ?_;rintro e wP ⟨A6,c6,l,rfl,bz,b0,az,a9,ba,bb,j⟩;have HL:=J a9;have aa:=J ba;have bn:=J bb;have bh:=J az;clear a9 ba bb az;replace H:=H.o.e j;replace q:=q.o.e j;replace u:=u.o.e j;replace y:=y.o.t j;clear j y0 y1 y2 y3 y4 y5 y6 y7 y8 z D F G K Q R T W;obtain⟨z,D,F,G,K,Q,R,T,W⟩:=nine q.o;obtain⟨y0,y1,y2,y3,y4,y5,y6,y7,y8⟩:=q.o.free9))
   have bm:O (l.map FlM.v=Bz b.st.fls (b.self,b.base,b.log)):=J (by rw[HL.o,Qk FlM.v FlM.m Prod.fst (λ_=>rfl)];exact PW (l:=b.st.fls) (b.self,b.base,b.log) (Na VV.o));have ap:O (∀f∈l,f=⟨b.self,b.base,b.Al,b.cl,b.log⟩\/f∈b.fls):=J (λf hf=>by rw[HL.o] at hf;rcases PL FlM.m ⟨b.self,b.base,b.Al,b.cl,b.log⟩ b.fls [] false f hf with h|h|h;exact .inl h;cases h;exact .inr h);have K3:O (Wrote w.heap.size wP (wP.setCell (Y w 8) (.slice A6 l.length c6))):=J (Wrote.set w.heap.size 8 _ _);have L3:O (Lit w.heap.size (w.heap.size+2) wP (wP.setCell (Y w 8) (.slice A6 l.length c6))):=J (Lit.wrote K3.o (zR _) U);have B3:O (BIs (wP.setCell (Y w 8) (.slice A6 l.length c6)) w.heap.size #[I b.self,.slice b.Av b.vs.length b.cv,I b.base,.slice b.Al b.log.length b.cl,I b.stable,I b.sent,.slice b.Ap b.pend.length b.cp,.slice b.Am b.marks.length b.cm,.slice A6 l.length c6] 28):=J (q.o.set 8 _);have ay:O (OffR w.heap.size (w.heap.size+2) A6 (flE.cells l)):=J (bn.o.offR bu);have ax:O (∀f∈l,OffR w.heap.size (w.heap.size+2) f.A (Aa.cells f.log)):=J (λf hf=>by rcases ap.o f hf with rfl|h;exact OF.o.log;exact OF.o.fi f h);replace aa:O (flE.Box (wP.setCell (Y w 8) (.slice A6 l.length c6)) A6 l):=J ⟨aa.o.1.lit ay.o L3.o,λf hf=>⟨(aa.o.2 f hf).1,λr hr=>by simp only[flE,zC,zN,or_false] at hr;subst hr;exact((aa.o.2 f hf).2 (f.A,Aa.cells f.log) (by simp[flE])).lit (ax.o f hf) L3.o⟩⟩;replace H:=J (H.o.lit OF.o L3.o);replace u:=J (u.o.wrote U K3.o);replace y:=J (L3.o.ext y.o (zR _));clear y0 y1 y2 y3 y4 y5 y6 y7 y8 q K3 L3 z D F G K Q R T W;generalize (wP.setCell (Y w 8) (.slice A6 l.length c6))=wT at *;have q:=B3;obtain⟨z,D,F,G,K,Q,R,T,W⟩:=nine q.o;obtain⟨y0,y1,y2,y3,y4,y5,y6,y7,y8⟩:=q.o.free9;have H2:O (({b with Af:=A6,cf:=c6,fls:=l}:BM).Ok wT):=J (H.o.withFls aa.o (by have:=bh.o;omega) (λf hf=>by rcases ap.o f hf with rfl|h;exact⟨by simp only;omega,H.o.f.lp⟩;exact H.o.f.fl f h));have br:O (({b with Af:=A6,cf:=c6,fls:=l}:BM).Off w.heap.size (w.heap.size+2)):=J (OF.o.withFls ay.o ax.o);have bp:O (({b with Af:=A6,cf:=c6,fls:=l}:BM).st={b.st with fls:=Bz b.st.fls (b.self,b.base,b.log)}):=J (by show (⟨_,_,_,_,_,_,_,_,l.map FlM.v⟩:St)=_;rw[bm.o];rfl);rw[<-bp.o] at av ak;go_upto_region 35 with (first
    | (go_at_call 69
       refine(JR ({b with Af:=A6,cf:=c6,fls:=l}:BM) _ H2.o av.o).mono ?_;rintro e w8 ⟨b2,rfl,ae,ad,j,ac⟩;have ar:=J ae;have ao:=J ad;have ah:=J (ac _ _ u.o.lt br.o);replace q:=q.o.e j;replace u:=u.o.e j;replace y:=y.o.t j;clear ae ad j ac y0 y1 y2 y3 y4 y5 y6 y7 y8 z D F G K Q R T W;obtain⟨y0,y1,y2,y3,y4,y5,y6,y7,y8⟩:=q.o.free9;obtain⟨z,D,F,G,K,Q,R,T,W⟩:=nine q.o;unfold BM.cells))
   exact Q4
end Go.Proofs.YtponbabbabnaeaaGreat
