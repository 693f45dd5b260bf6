/- Part 26: contracts of functions. Conditions: as each theorem says. -/
import Derived.Test.YtponbabbabnaeaaGreatQh25
set_option maxRecDepth 100000
set_option maxHeartbeats 40000000
set_option linter.unusedVariables false
namespace Go.Proofs.YtponbabbabnaeaaGreat
open Proofs.Tryz
open Go.RowKit
theorem QZ{l:List VwM}{n m:Int}{xs:List Int}(h:Br (vws l) n=some (m,xs))(y:∀v∈l,v.xs.length<=1000000):xs.length<=9223372036854775807:=by
 have:=List.mem_of_find?_eq_some h;obtain⟨u,j,q⟩:=List.mem_map.1 this;have:=y u j;have e:u.xs=xs:=congrArg Prod.snd q;rw[e] at this;omega
theorem Pk{l:List Ent}{b:Int}(j:b≠-1)(h:l.length=0):Bi l b=false:=by unfold Bi;rw[if_neg j,decide_eq_false U];rfl
theorem VK{l:List Ent}{b:Int}(j:b≠-1)(h:Bc l=false):Bi l b=false:=by unfold Bi;rw[if_neg j,h,Bool.false_and,Bool.and_false]
theorem J5{l:List Ent}{b:Int}(q:b≠-1)(j:0<l.length)(h:Bc l=true):Bi l b=decide (CK l=b):=by unfold Bi;rw[if_neg q,h,decide_eq_true j,Bool.true_and,Bool.true_and]
theorem NC{l:List Ent}{b:Int}(h:b = -1):Bi l b=decide (l.length=0):=by unfold Bi;rw[if_pos h]
theorem Hx(b:BM)(f:FlM)(w:World)(h:b.Ok w)(hf:Row w f.A (Aa.cells f.log))(hl:f.log.length<=100000)(ai:∀e∈f.log,e.p.length<=1000000) :
  Calls prog 117 #[.agg b.cells,.agg #[I f.m,I f.b,.slice f.A f.log.length f.c]] w λe w'=>e=.returned (.bool (AQ f.m&&Bh (vws b.vs) f.v))/\V w w':=by
 have H:=J h;have F:=J hf;have ad:=J ai;clear h hf ai;obtain⟨y,u,fA,G,q⟩:=f;simp only at F hl ad|-;have D:O (V w ((w.alloc (.cells b.cells 28)).alloc (.cells #[I y,I u,.slice fA q.length G] 80))):=J ((V.new _ _).alloc _);have BP:O (BIs ((w.alloc (.cells b.cells 28)).alloc (.cells #[I y,I u,.slice fA q.length G] 80)) w.heap.size b.cells 28):=J ((BIs.new _ _ _).ext (V.new _ _));have BG:O (BIs ((w.alloc (.cells b.cells 28)).alloc (.cells #[I y,I u,.slice fA q.length G] 80)) (w.heap.size+1) #[I y,I u,.slice fA q.length G] 80):=J (BIs.newAt (w:=w.alloc (.cells b.cells 28)) #[I y,I u,.slice fA q.length G] 80 zj);have aw:w.heap.size+2<=((w.alloc (.cells b.cells 28)).alloc (.cells #[I y,I u,.slice fA q.length G] 80)).heap.size:=zj;replace H:=H.o.e D.o;replace F:=F.o.e D.o;have HN:=BP.o.n9;have HG:=BG.o.n3;obtain⟨g0,g1,g2⟩:=HG _ (V.refl _);have ao:∀x:List Ent,(FlM.v ⟨y,u,fA,G,q⟩)=(y,u,q):=λ_=>rfl;rw[show (FlM.v ⟨y,u,fA,G,q⟩)=(y,u,q) from rfl];clear ao;cases hi:AQ y with
 | false=>
  have HI:=J hi;clear hi;go_enter func117,ntmps117;go_upto_region 1 with fail;generalize ((w.alloc (.cells b.cells 28)).alloc (.cells #[I y,I u,.slice fA q.length G] 80))=u1 at *;go_wp2_with (first
   | (go_at_call 74
      refine(HI.o▸Dv y _).mono ?_;rintro e z ⟨rfl,rfl⟩))
  go_ret;exact⟨rfl,D.o⟩
 | true=>
  have HI:=J hi;clear hi;by_cases hb:u = -1
  .have HP:O (Bh (vws b.vs) (y,u,q)=decide (q.length=0)):=J (by rw[PV hb];exact NC hb);have an:(u == -1)=true:=by simpa using hb
   clear hb;go_enter func117,ntmps117;go_upto_region 1 with fail;generalize ((w.alloc (.cells b.cells 28)).alloc (.cells #[I y,I u,.slice fA q.length G] 80))=u1 at *;go_wp2_with (first
    | (go_at_call 74
       refine(HI.o▸Dv y _).mono ?_;rintro e z ⟨rfl,rfl⟩))
   go_ret;exact⟨AC (by rw[Bool.true_and,HP.o,Bool.eq_iff_iff];simp),D.o⟩
  have HB:=J hb;have an:(u == -1)=false:=by simpa using hb
  clear hb;cases hk:Br (vws b.vs) u with
  | none=>
   have Q:O (Bh (vws b.vs) (y,u,q)=false):=J (Oi (f:=(y,u,q)) HB.o hk);have R:=J hk;clear hk;go_enter func117,ntmps117;go_upto_region 1 with fail;generalize ((w.alloc (.cells b.cells 28)).alloc (.cells #[I y,I u,.slice fA q.length G] 80))=u1 at *;obtain⟨q0,q1,q2,q3,q4,q5,q6,q7,q8⟩:=HN _ (V.refl _);go_wp2_with (first
    | (go_at_call 74
       refine(HI.o▸Dv y _).mono ?_;rintro e z ⟨rfl,rfl⟩))
   refine(R.o▸Ka b u _ H.o.r H.o.f).mono ?_;rintro e z ⟨K,T,rfl,_,_,_,ab⟩;simp only[Option.getD_none,Option.isSome_none,List.length_nil];have X2:=J ab;clear ab;replace H:=H.o.e X2.o;replace F:=F.o.e X2.o;replace D:=D.o.t X2.o;replace HN:=λw' (x:V z w')=>HN w' (X2.o.trans x);replace HG:=λw' (x:V z w')=>HG w' (X2.o.trans x);go_upto_region 6 with fail;have BV:O (BIs (z.alloc (.cells #[I 0,.slice K 0 T] 46)) z.heap.size #[I 0,.slice K 0 T] 46):=J (BIs.new _ _ _);have X:O (V z (z.alloc (.cells #[I 0,.slice K 0 T] 46))):=J (V.new _ _);generalize (z.alloc (.cells #[I 0,.slice K 0 T] 46))=w3 at *;generalize z.heap.size=rv at *;replace H:=H.o.e X.o;replace F:=F.o.e X.o;replace D:=D.o.t X.o;have HV:=BV.o.n2;replace HN:=λw' (x:V w3 w')=>HN w' (X.o.trans x);replace HG:=λw' (x:V w3 w')=>HG w' (X.o.trans x);clear q0 q1 q2 q3 q4 q5 q6 q7 q8;clear g0 g1 g2;refine eD 42 (V.refl _) λj=>?_;refine eb 0 ?_;refine ef 2 ?_;refine ee 6 ?_;refine eb 8 ?_;refine ef 10 ?_;refine ed 14 ?_;refine eb 15 ?_;refine ef 17 ?_;refine eb 21 ?_;refine ee 23 ?_;refine ed 25 ?_;refine eb 26 ?_;refine ef 28 ?_;refine ef 32 ?_;refine ef 36 ?_;refine eb 40 ?_;refine eA ?_;go_wp2;go_ret;exact⟨by rw[Q.o];rfl,D.o.trans j⟩
  | some v=>
   obtain⟨vn,xs⟩:=v;have hp:0<b.vs.length:=by have:=NF hk;rwa [AW] at this
   have ac:=QZ hk H.o.f.vx;have R:=J hk;obtain⟨⟨tn,ts⟩,ht⟩:∃v,Ar (vws b.vs)=v:=⟨_,rfl⟩;have HT:=J ht;clear hk ht;go_enter func117,ntmps117;go_upto_region 1 with fail;generalize ((w.alloc (.cells b.cells 28)).alloc (.cells #[I y,I u,.slice fA q.length G] 80))=u1 at *;obtain⟨q0,q1,q2,q3,q4,q5,q6,q7,q8⟩:=HN _ (V.refl _);go_wp2_with (first
    | (go_at_call 74
       refine(HI.o▸Dv y _).mono ?_;rintro e z ⟨rfl,rfl⟩))
   refine(R.o▸Ka b u _ H.o.r H.o.f).mono ?_;rintro e z ⟨K,T,rfl,_,_,HR,ab⟩;simp only[Option.getD_some,Option.isSome_some] at HR|-;have X2:=J ab;clear ab;replace H:=H.o.e X2.o;replace F:=F.o.e X2.o;replace D:=D.o.t X2.o;replace HN:=λw' (x:V z w')=>HN w' (X2.o.trans x);replace HG:=λw' (x:V z w')=>HG w' (X2.o.trans x);replace HR:=J (HR.o);go_upto_region 6 with fail;have ag:=λw' (x:V z w')=>HR.o.ext x;have BV:O (BIs (z.alloc (.cells #[I vn,.slice K xs.length T] 46)) z.heap.size #[I vn,.slice K xs.length T] 46):=J (BIs.new _ _ _);have X:O (V z (z.alloc (.cells #[I vn,.slice K xs.length T] 46))):=J (V.new _ _);generalize (z.alloc (.cells #[I vn,.slice K xs.length T] 46))=w3 at *;generalize z.heap.size=rv at *;replace H:=H.o.e X.o;replace F:=F.o.e X.o;replace D:=D.o.t X.o;have HV:=BV.o.n2;replace HN:=λw' (x:V w3 w')=>HN w' (X.o.trans x);replace HG:=λw' (x:V w3 w')=>HG w' (X.o.trans x);replace HR:=J (ag _ X.o);clear ag g0 g1 g2;clear q0 q1 q2 q3 q4 q5 q6 q7 q8;have av:=Ej;by_cases W:u<tn;rotate_left
   .have Q:O (Bh (vws b.vs) (y,u,q)=false):=J (NZ (f:=(y,u,q)) HB.o R.o (by rw[HT.o];exact W));have ap:decide (u<tn)=false:=decide_eq_false W;clear W;refine eD 42 (V.refl _) λj=>?_;refine ec 0 ?_;refine ea 4 ?_;refine eE 5 (Cb b _ (H.o.r.ext j) hp H.o.f tn ts HT.o) ?_;rintro _ v ⟨A5,c5,rfl,_,_,_,hx⟩;refine⟨_,rfl,j.trans hx,λj=>?_⟩;refine ec 6 ?_;refine ef 10 ?_;refine ed 14 ?_;refine eb 15 ?_;refine ef 17 ?_;refine eb 21 ?_;refine ee 23 ?_;refine ed 25 ?_;refine eb 26 ?_;refine ef 28 ?_;refine ef 32 ?_;refine ef 36 ?_;refine eb 40 ?_;refine eA ?_;go_wp2;go_ret;exact⟨by rw[Q.o];rfl,D.o.trans j⟩
   have ap:decide (u<tn)=true:=decide_eq_true W;have ak:=J W;clear W;cases hc:AG xs y with
   | false=>
    have HC:=J hc;have Q:O (Bh (vws b.vs) (y,u,q)=false):=J (Pn (f:=(y,u,q)) HB.o R.o hc);clear hc;refine eD 42 (V.refl _) λj=>?_;refine ec 0 ?_;refine ea 4 ?_;refine eE 5 (Cb b _ (H.o.r.ext j) hp H.o.f tn ts HT.o) ?_;rintro _ v ⟨A5,c5,rfl,_,_,_,hx⟩;refine⟨_,rfl,j.trans hx,λj=>?_⟩;refine ec 6 ?_;refine ec 10 ?_;refine eI 14 (HC.o▸De K T xs y _ (HR.o.ext j) ac) ?_;refine eb 15 ?_;refine ef 17 ?_;refine eb 21 ?_;refine ee 23 ?_;refine ed 25 ?_;refine eb 26 ?_;refine ef 28 ?_;refine ef 32 ?_;refine ef 36 ?_;refine eb 40 ?_;refine eA ?_;go_wp2;go_ret;exact⟨by rw[Q.o];rfl,D.o.trans j⟩
   | true=>
    have HC:=J hc;have Q:O (Bh (vws b.vs) (y,u,q)=Bi q u):=J (OY (f:=(y,u,q)) HB.o R.o (by rw[HT.o];exact ak.o) hc);clear hc;by_cases h0:q.length=0
    .have aa:=J (Pk HB.o h0);have al:decide (0<q.length)=false:=decide_eq_false U;have am:decide ((0:Int)<(q.length:Int))=false:=decide_eq_false U;refine eD 42 (V.refl _) λj=>?_;refine ec 0 ?_;refine ea 4 ?_;refine eE 5 (Cb b _ (H.o.r.ext j) hp H.o.f tn ts HT.o) ?_;rintro _ v ⟨A5,c5,rfl,_,_,_,hx⟩;refine⟨_,rfl,j.trans hx,λj=>?_⟩;refine ec 6 ?_;refine ec 10 ?_;refine eI 14 (HC.o▸De K T xs y _ (HR.o.ext j) ac) ?_;refine ec 15 ?_;refine ec 19 ?_;refine ee 23 ?_;refine ed 25 ?_;refine eb 26 ?_;refine ef 28 ?_;refine ef 32 ?_;refine ef 36 ?_;refine eb 40 ?_;refine eA ?_;go_wp2;go_ret;exact⟨by rw[Q.o,aa.o];rfl,D.o.trans j⟩
    have ah:0<q.length:=U;have al:decide (0<q.length)=true:=decide_eq_true ah;have am:decide ((0:Int)<(q.length:Int))=true:=decide_eq_true U;clear h0;cases hv:Bc q with
    | false=>
     have ae:=J hv;have aa:=J (VK HB.o hv);clear hv;refine eD 42 (V.refl _) λj=>?_;refine ec 0 ?_;refine ea 4 ?_;refine eE 5 (Cb b _ (H.o.r.ext j) hp H.o.f tn ts HT.o) ?_;rintro _ v ⟨A5,c5,rfl,_,_,_,hx⟩;refine⟨_,rfl,j.trans hx,λj=>?_⟩;refine ec 6 ?_;refine ec 10 ?_;refine eI 14 (HC.o▸De K T xs y _ (HR.o.ext j) ac) ?_;refine ec 15 ?_;refine ec 19 ?_;refine eb 23 ?_;refine eG 25 j (ae.o▸FH _ G q _ (F.o.ext j) U ad.o) λv j=>?_;refine eb 26 ?_;refine ef 28 ?_;refine ef 32 ?_;refine ef 36 ?_;refine eb 40 ?_;refine eA ?_;go_wp2;go_ret;exact⟨by rw[Q.o,aa.o];rfl,D.o.trans j⟩
    | true=>
     have ae:=J hv;have aa:=J (J5 HB.o ah hv);clear hv;obtain⟨ln,af⟩:∃k,q.length=k+1:=⟨q.length - 1,U⟩;obtain⟨ar,au,e,hA,_,he,HE⟩:=Gw F.o (show q.length - 1<q.length by omega);subst hA;have aj:=J (Jo af (by rw[show ln=q.length - 1 by omega];exact HE.o));rw[show q.length - 1=ln by omega] at he;have ax:IntKind.i64.wrap ((q.length:Int) - 1)=(ln:Int):=by rw[IntWalk.i64_in _ U];omega
     have m2:(ln:Int)<(q.length:Int):=U;have m3:ln<q.length:=U;have m1:(0:Int)<=(ln:Int):=U;have aq:=J af;clear af;refine eD 42 (V.refl _) λj=>?_;refine ec 0 ?_;refine ea 4 ?_;refine eE 5 (Cb b _ (H.o.r.ext j) hp H.o.f tn ts HT.o) ?_;rintro _ v ⟨A5,c5,rfl,_,_,_,hx⟩;refine⟨_,rfl,j.trans hx,λj=>?_⟩;refine ec 6 ?_;refine ec 10 ?_;refine eI 14 (HC.o▸De K T xs y _ (HR.o.ext j) ac) ?_;refine ec 15 ?_;refine ec 19 ?_;refine eb 23 ?_;refine eG 25 j (ae.o▸FH _ G q _ (F.o.ext j) U ad.o) λv j=>?_;refine ec 26 ?_;refine ec 30 ?_;refine ec 34 ?_;refine ec 38 ?_;refine eA ?_;go_wp2;go_ret;exact⟨AC (by rw[Q.o,aa.o,aj.o,Bool.eq_iff_iff];simp),D.o.trans j⟩
theorem YB{l:List Vw}(h:Bv l=true){v:Vw}(q:v∈l):AK v.1 v.2=true:=by
 obtain⟨i,j,rfl⟩:=List.mem_iff_getElem.1 q;have:=Im h i j;rwa [Gi j] at this
def FX(s:St)(ms:List Int)(b:Int)(v:Vw):Bool:=!(decide (b<=v.1)&&(decide (v.1<(Ar s.views).1)&&decide (((Bg v.2 ms true).length:Int)<Bs v.2.length)))
def Ha(s:St)(ms:List Int)(b:Int):Bool:=s.views.all (FX s ms b)
theorem Ni(l:List Fls) : -1<=Bw l:=by
 unfold Bw;have:∀(l:List Fls) (b:Int),b<=l.foldl (λb f=>max b f.2.1) b:=by
  intro l;induction l with
  | nil=>intro b;exact Int.le_refl _
  | cons x l h=>intro b;rw[List.foldl_cons];exact Int.le_trans U (h _)
 exact this l (-1)
theorem Tx{s:St}(j:EQ (s.fls.map Prod.fst)){v:Vw}(q:v.2.Nodup):((Bg v.2 (s.fls.map Prod.fst) true).length:Int)=(s.fls.countP λf=>AG v.2 f.1:Nat):=by
 have h:(s.fls.countP λf=>AG v.2 f.1)=((s.fls.map Prod.fst).filter λx=>AG v.2 x).length:=by
  rw[<-List.countP_eq_length_filter,List.countP_map];rfl
 rw[h];congr 1;unfold Bg;refine NX (q.filter _) ((GP j.1).filter _) λx=>?_;simp only[List.mem_filter,beq_iff_eq,E7];exact And.comm
theorem Sv{s:St}(h:VS s):Ha s (s.fls.map Prod.fst) (Bw s.fls)=!Is s:=by
 rw[Bool.eq_iff_iff];unfold Ha Is FX Eb;simp only[List.all_eq_true,List.any_eq_false,zB,zE,Bool.and_eq_false_iff,decide_eq_false_iff_not,Bool.not_eq_eq_eq_not,Bool.not_true];refine forall_congr' λv=>forall_congr' λy=>?_;have u:v.2.Nodup:=GP (Ng (YB h.vs y));rw[Tx h.fla u];by_cases j:Bw s.fls<=v.1<;>by_cases q:v.1<(Ar s.views).1<;>simp[j,q]<;>omega
def GY(s:St):St:=
 if Ee s=false\/Bw s.fls<0\/Ha s (s.fls.map Prod.fst) (Bw s.fls)=false then s
 else if DU s (Cn s.fls (Bw s.fls))=false then s
 else {s with base:=(Ar s.views).1,log:=Cn s.fls (Bw s.fls)++[AP (Ar s.views).1 (Ar s.views).2],fls:=[]}
theorem Tw{s:St}(h:VS s):GY s=BJ s:=by
 unfold GY BJ;have j:=Sv h;have z:=Ni s.fls;by_cases u:Ee s=false
 .rw[if_pos (.inl u),if_pos (.inl u)]
 .by_cases y:Bw s.fls = -1
  .rw[if_pos (.inr (.inl U)),if_pos (.inr y)]
  .rw[if_neg (c:=Ee s=false\/Bw s.fls = -1) (by simp[u,y])];cases hbl:Is s with
   | true=>
    rw[hbl] at j;rw[if_pos (.inr (.inr (by rw[j];rfl)))];simp
   | false=>
    rw[hbl] at j;rw[if_neg (by rw[j];simp only[Bool.not_false,Bool.true_eq_false,or_false];intro q;rcases q with q|q;exact u q;omega)];simp only[Bool.false_eq_true,if_false]
def Ef(s:St)(st:Nat)(i:Nat)(e:Ent):Bool:=if st+i<s.log.length then decide (s.log[st+i]?=some e) else decide (e.v=s.base)&&decide (e.o≠0)
def Fh(s:St)(st:Nat)(l:List Ent)(i:Nat):Bool:=match l[i]? with|some e=>Ef s st i e|none=>true
theorem In{s:St}{st:Nat}{l:List Ent}{i:Nat}{e:Ent}(h:l[i]?=some e):Fh s st l i=Ef s st i e:=by unfold Fh;rw[h]
def BX(s:St)(m:Msg):List Ent:=s.log++m.ents.drop (s.log.length - m.first.toNat)
def CC(s:St)(m:Msg):Bool:=decide (m.first<=s.log.length)&&((List.range m.ents.length).all (Fh s m.first.toNat m.ents)&&(Bc (BX s m)&&decide ((Aq (BX s m) s.self:Int)<=s.sent)))
theorem O0(c:Cs)(m:Msg):m.ents.drop (Cc c m)=m.ents.drop (c.s.log.length - m.first.toNat):=by
 unfold Cc;rcases Nat.le_total (c.s.log.length - m.first.toNat) m.ents.length with h|h
 .rw[Nat.min_eq_left h]
 .rw[Nat.min_eq_right h,List.drop_eq_nil_of_le (zR _),List.drop_eq_nil_of_le h]
theorem YM(s:St)(m:Msg)(T:m.first.toNat<=s.log.length)(F:List (Int×List UInt8))(D:List Ent):(List.range m.ents.length).all (Fh s m.first.toNat m.ents)=true↔
  (s.log.drop m.first.toNat).take (Cc ⟨s,F,D⟩ m)=m.ents.take (Cc ⟨s,F,D⟩ m)/\¬(m.ents.drop (Cc ⟨s,F,D⟩ m)).any (λe=>decide (e.v≠s.base)||decide (e.o=0))=true:=by
 obtain⟨f,z⟩:∃f,f=m.first.toNat:=⟨_,rfl⟩;rw[<-z] at T|-;obtain⟨b,K⟩:∃b,b=Cc ⟨s,F,D⟩ m:=⟨_,rfl⟩;have Q:b=min (s.log.length - f) m.ents.length:=by rw[K];unfold Cc;rw[z]
 rw[<-K];simp only[List.all_eq_true,List.mem_range];constructor
 .intro h;refine⟨List.ext_getElem? λi=>?_,?_⟩
  .rw[List.getElem?_take,List.getElem?_take];by_cases q:i<b
   .rw[if_pos q,if_pos q,List.getElem?_drop];have j:=h i U;rw[In (zY (show i<m.ents.length by omega))] at j;unfold Ef at j;rw[if_pos U] at j;simp only[zE] at j;rw[j,zY (show i<m.ents.length by omega)]
   .rw[if_neg q,if_neg q]
  .simp only[List.any_eq_true,not_exists,not_and];intro e R;obtain⟨i,q,rfl⟩:=List.mem_iff_getElem.1 R;rw[zD] at q;rw[List.getElem_drop];have j:=h (b+i) U;rw[In (zY (show b+i<m.ents.length by omega))] at j;unfold Ef at j;by_cases u:f+(b+i)<s.log.length
   .omega
   .rw[if_neg u] at j;simp only[zB,zE,Bool.or_eq_true,not_or,ne_eq,Decidable.not_not] at j|-;exact j
 .rintro⟨j,G⟩ i q;rw[In (zY q)];unfold Ef;by_cases u:f+i<s.log.length
  .rw[if_pos u];have y:=congrArg (λl=>l[i]?) j;simp only[List.getElem?_take,List.getElem?_drop] at y;rw[if_pos U,if_pos U,zY q] at y;simp only[zE];exact y
  .rw[if_neg u];simp only[List.any_eq_true,not_exists,not_and] at G;have y:=G m.ents[i] (List.mem_iff_getElem.2 ⟨i - b,by rw[zD];omega,by rw[List.getElem_drop];congr 1;omega⟩);simp only[zB,zE,Bool.or_eq_true,not_or,ne_eq,Decidable.not_not] at y|-;exact y
def Gp(c:Cs)(m:Msg):Cs:=if CC c.s m=false then c else Be {c with s:={c.s with log:=BX c.s m}} (min m.stable (BX c.s m).length)
theorem Vv(c:Cs)(m:Msg)(T:0<=m.first):Gp c m=CQ c m:=by
 unfold Gp CQ;obtain⟨s,j,h⟩:=c;rw[O0 ⟨s,j,h⟩ m];show (if CC s m=false then _ else _)=(if (s.log.length:Int)<m.first then _ else if (s.log.drop m.first.toNat).take (Cc ⟨s,j,h⟩ m)≠m.ents.take (Cc ⟨s,j,h⟩ m) then _ else if (m.ents.drop (s.log.length - m.first.toNat)).any (λe=>decide (e.v≠s.base)||decide (e.o=0))=true then _ else if Bc (BX s m)=false\/s.sent<Aq (BX s m) s.self then _ else Be ⟨{s with log:=BX s m},j,h⟩ (min m.stable (BX s m).length));by_cases K:(s.log.length:Int)<m.first
 .rw[if_pos K,if_pos (by unfold CC;rw[decide_eq_false U];rfl)]
 .rw[if_neg K];have z:=YM s m U j h;rw[O0 ⟨s,j,h⟩ m] at z;simp only at z;by_cases D:(List.range m.ents.length).all (Fh s m.first.toNat m.ents)=true
  .obtain⟨u,y⟩:=z.1 D;have R:CC s m=(Bc (BX s m)&&decide ((Aq (BX s m) s.self:Int)<=s.sent)):=by unfold CC;rw[D,decide_eq_true U];rfl
   rw[R,if_neg (c:=(s.log.drop m.first.toNat).take (Cc ⟨s,j,h⟩ m)≠m.ents.take (Cc ⟨s,j,h⟩ m)) (by simpa using u),if_neg (c:=(m.ents.drop (s.log.length - m.first.toNat)).any (λe=>decide (e.v≠s.base)||decide (e.o=0))=true) y];by_cases F:Bc (BX s m)=false
   .rw[if_pos (c:=Bc (BX s m)=false\/s.sent<Aq (BX s m) s.self) (.inl F),F];rfl
   .have q:Bc (BX s m)=true:=by simpa using F
    by_cases Q:s.sent<Aq (BX s m) s.self
    .rw[if_pos (c:=Bc (BX s m)=false\/s.sent<Aq (BX s m) s.self) (.inr Q),if_pos (by rw[q,decide_eq_false U];rfl)]
    .rw[if_neg (c:=Bc (BX s m)=false\/s.sent<Aq (BX s m) s.self) (by simp[q,Q]),if_neg (by rw[q,decide_eq_true U];simp)]
  .have G:(List.range m.ents.length).all (Fh s m.first.toNat m.ents)=false:=by simpa using D
   rw[if_pos (by unfold CC;rw[G];simp)];by_cases u:(s.log.drop m.first.toNat).take (Cc ⟨s,j,h⟩ m)≠m.ents.take (Cc ⟨s,j,h⟩ m)
   .rw[if_pos u]
   .rw[if_neg (c:=(s.log.drop m.first.toNat).take (Cc ⟨s,j,h⟩ m)≠m.ents.take (Cc ⟨s,j,h⟩ m)) u];by_cases y:(m.ents.drop (s.log.length - m.first.toNat)).any (λe=>decide (e.v≠s.base)||decide (e.o=0))=true
    .rw[if_pos y]
    .exact absurd (z.2 ⟨by simpa using u,y⟩) D
theorem Ma{P:Prop}(h:P:=by
 have XF:=q.o.t j;clear j;go_wp2;go_roundw
 case rel=>exact⟨k+1,U,by go_num,Q,XF⟩
 case measure=>simp[intOf];omega):P:=h
theorem TE(A u:Option Addr)(c G:Nat)(xs ys:List Ent)(w:World)(h:Row w A (Aa.cells xs))(K:Row w u (Aa.cells ys))(hc:xs.length<=c)(hn:xs.length<=1000000000)(r:Bool)(Q:Dd xs ys=r) :
  Calls prog 135 #[.slice A xs.length c,.slice u ys.length G] w λe w'=>e=.returned (.bool r)/\V w w':=by
 have H:=J (Elem.row_upto (E:=Aa) h ys.length);have R:=J K;have F:=J Q;clear h K Q;by_cases j:ys.length<=xs.length
 .have z:decide ((ys.length:Int)<=(xs.length:Int))=true:=decide_eq_true U;have D:decide (ys.length<=xs.length)=true:=decide_eq_true j;have aa:∀W,(Instr.slice 23 (.slice A xs.length c) none (some (I (ys.length:Int))) none).run prog W=.ok (.slice A ys.length c) W:=λW=>Aa.slice_h A xs.length c ys.length _ rfl U W;have y:O (CD (xs.take ys.length) ys=r):=J (by rw[<-F.o];unfold Dd CD;rw[decide_eq_true j,Bool.true_and]);have hk:O (ys.length=(xs.take ys.length).length):=J (by rw[zT];omega);have T:=J j;clear j;go_enter func135,ntmps135;go_wp2_with (first|(go_at_call 20;refine(y.o▸J2 A u ys.length ys.length c G (xs.take ys.length) ys _ H.o R.o hk.o rfl (by have:=T.o;omega)).mono ?_;rintro e w2 ⟨rfl,q⟩;have X:=J q;clear q));go_ret;exact⟨rfl,X.o⟩
 .have z:decide ((ys.length:Int)<=(xs.length:Int))=false:=decide_eq_false U;have D:decide (ys.length<=xs.length)=false:=decide_eq_false j;have y:O (r=false):=J (by rw[<-F.o];unfold Dd;rw[decide_eq_false j];rfl);clear j;go_enter func135,ntmps135;go_wp2;go_ret;exact⟨AC y.o.symm,V.refl _⟩
theorem Ib(A j:Option Addr)(k y c u:Nat)(xs ys:List Ent)(w:World)(h:Row w A (Aa.cells xs))(z:Row w j (Aa.cells ys))(F:k=xs.length)(q:y=ys.length)(D:xs.length<=c)(G:xs.length<=1000000000)(r:Bool)(K:Dd xs ys=r) :
  Calls prog 135 #[.slice A k c,.slice j y u] w λe w'=>e=.returned (.bool r)/\V w w':=by subst F q;exact TE A j c u xs ys w h z D G r K
theorem Lu{w:World}{A:Option Addr}{l:List VwM}{i:Nat}(h:AL.Box w A l)(K:i<l.length) :
  ∃b j n X q xs,A=some (Z b j)/\(∀w',V w w'->w'.cell? (Z b (j+i*2))=some (I n)/\w'.cell? (Z b (j+i*2+1))=some (.slice X (List.length xs) q))/\O (Row w X (Ai xs))/\O (l[i]?=some ⟨n,X,q,xs⟩):=by
 obtain⟨b,j,n,X,q,xs,y,u,z,D,F,_,_,G⟩:=DK h K;exact⟨b,j,n,X,q,xs,y,λw' x=>⟨(x.cell (p:=(Z b (j+i*2))) u).trans z,(x.cell (p:=(Z b (j+i*2+1))) u).trans D⟩,F,G⟩
theorem K0{α:Type}{p:α->Bool}{l:List α}{k:Nat}{x:α}(h:(l.take k).all p=true)(q:l[k]?=some x)(j:p x=true):(l.take (k+1)).all p=true:=by
 rw[Cz q,List.all_append,h];simp[j]
theorem YJ{α:Type}{p:α->Bool}{l:List α}{k:Nat}{x:α}(j:l[k]?=some x)(h:p x=false):l.all p=false:=by
 rw[List.all_eq_false];exact⟨x,zX j,by rw[h];simp⟩
theorem ML(b:BM)(A:Option Addr)(c:Nat)(u:List Int)(base:Int)(w:World)(h:b.Ok w)(hr:Row w A (Ai u))(hp:0<b.vs.length)(hm:u.length<=1000000)(r:Bool)(hR:Ha b.st u base=r) :
  Calls prog 134 #[.agg b.cells,.slice A u.length c,I base] w λe w'=>e=.returned (.bool r)/\V w w':=by
 have H:=J h;have HM:=J hr;have HR:=J hR;obtain⟨⟨T,ts⟩,ht⟩:∃v,Ar (vws b.vs)=v:=⟨_,rfl⟩;have HT:=J ht;clear h hr hR ht;have EX:O (V w (w.alloc (.cells b.cells 28))):=J (V.new _ _);have BP:O (BIs (w.alloc (.cells b.cells 28)) w.heap.size b.cells 28):=J (BIs.new _ _ _);replace H:=H.o.e EX.o;replace HM:=HM.o.e EX.o;have HN:=BP.o.n9;have ak:=H.o.f.vs;go_enter func134,ntmps134;go_upto_region 1 with fail;generalize (w.alloc (.cells b.cells 28))=u1 at *;go_wp2;go_loopw [7] (λi wr=>∃k:Nat,k<=b.vs.length/\i=I k/\O (((vws b.vs).take k).all (FX b.st u base)=true)/\O (V u1 wr)) (λi _=>b.vs.length - (intOf i).toNat)
 case atStart=>exact⟨0,zO _,rfl,J rfl,J (V.refl _)⟩
 case round=>
  obtain⟨k,hk,rfl,HA,q⟩:=hrel;obtain⟨W,rfl⟩:∃x,x=wr:=⟨wr,rfl⟩;have ad:=(HN _ q.o).2.1;by_cases ag:k<b.vs.length;rotate_left
  .have af:k=b.vs.length:=U;subst af;have HE:O (r=true):=J (by rw[<-HR.o];unfold Ha;have:=HA.o;rwa [<-AW b.vs,List.take_length] at this);go_wp2;go_ret;exact⟨AC HE.o.symm,EX.o.trans q.o⟩
  obtain⟨vb,vo,n,X,F,xs,hA,hv,HX,HV⟩:=Lu (H.o.r.vs.ext q.o) ag;rw[hA] at ad;obtain⟨v0,v1⟩:=hv _ (V.refl _);have D:=J (Dw HV.o);have ae:xs.length<=1000000:=H.o.f.vx _ (zX HV.o);go_upto_region 5 with fail;have BV:O (BIs (W.alloc (.cells #[I n,.slice X xs.length F] 46)) W.heap.size #[I n,.slice X xs.length F] 46):=J (BIs.new _ _ _);replace q:=q.o.t (V.new W (.cells #[I n,.slice X xs.length F] 46));replace HX:=HX.o.e (V.new W (.cells #[I n,.slice X xs.length F] 46));clear ad v0 v1 hv;generalize (W.alloc (.cells #[I n,.slice X xs.length F] 46))=w3 at *;generalize W.heap.size=rv at *;have ai:=BV.o.n2;have HB:=H.o.e q.o;have ac:=HM.o.e q.o;have ah:=λw' (x:V w3 w')=>HN w' (q.o.trans x);have XX:=EX.o.t q.o;have y:O (FX b.st u base (n,xs)=!(decide (base<=n)&&(decide (n<T)&&decide (((Bg xs u true).length:Int)<Bs xs.length)))):=J (by unfold FX;rw[show b.st.views=vws b.vs from rfl,HT.o]);have aj:=Ej;by_cases h1:base<=n;rotate_left
  .have d1:decide (base<=n)=false:=decide_eq_false h1;have Q:O (((vws b.vs).take (k+1)).all (FX b.st u base)=true):=J (K0 HA.o D.o (by rw[y.o];rw[d1];rfl));refine eD 24 (V.refl _) λj=>?_;refine ec 0 ?_;refine ea 4 ?_;refine ef 5 ?_;refine ee 9 ?_;refine eb 11 ?_;refine ef 13 ?_;refine ef 17 ?_;refine ee 21 ?_;refine ea 23 ?_;refine eA ?_;exact Ma
  have d1:decide (base<=n)=true:=decide_eq_true h1;by_cases h2:n<T;rotate_left
  .have d2:decide (n<T)=false:=decide_eq_false h2;have Q:O (((vws b.vs).take (k+1)).all (FX b.st u base)=true):=J (K0 HA.o D.o (by rw[y.o];rw[d1,d2];rfl));refine eD 24 (V.refl _) λj=>?_;refine ec 0 ?_;refine ec 4 ?_;refine eE 8 (Cb b _ (HB.o.r.ext j) hp H.o.f T ts HT.o) ?_;rintro _ v ⟨A5,c5,rfl,_,_,_,z⟩;refine⟨_,rfl,j.trans z,λj=>?_⟩;refine ec 9 ?_;refine ef 13 ?_;refine ef 17 ?_;refine ee 21 ?_;refine ea 23 ?_;refine eA ?_;exact Ma
  have d2:decide (n<T)=true:=decide_eq_true h2;obtain⟨am,K⟩:∃l,Bg xs u true=l:=⟨_,rfl⟩;have aa:=J K;obtain⟨mj,R⟩:∃m,Bs xs.length=m:=⟨_,rfl⟩;have ab:=J R;rw[K,R] at y;clear K R;by_cases h3:(am.length:Int)<mj
  .have d3:decide ((am.length:Int)<mj)=true:=decide_eq_true h3;have HE:O (r=false):=J (by rw[<-HR.o];exact YJ D.o (by rw[y.o,d1,d2,d3];rfl));refine eD 24 (V.refl _) λj=>?_;refine ec 0 ?_;refine ec 4 ?_;refine eE 8 (Cb b _ (HB.o.r.ext j) hp H.o.f T ts HT.o) ?_;rintro _ v ⟨A5,c5,rfl,_,_,_,z⟩;refine⟨_,rfl,j.trans z,λj=>?_⟩;refine ec 9 ?_;refine eb 13 ?_;refine ea 15 ?_;refine eb 18 ?_;refine ea 20 ?_;refine eE 16 (aa.o▸GW X A F c xs u true _ (HX.o.ext j) (ac.o.ext j) ae U) ?_;rintro _ v ⟨A6,c6,rfl,G,_,_,z⟩;refine⟨_,rfl,j.trans z,λj=>?_⟩;clear z G;refine ea 17 ?_;refine eI 21 (ab.o▸IS _ _) ?_;refine eb 22 ?_;refine eA ?_;go_wp2;go_ret;exact⟨AC HE.o.symm,XX.o.trans j⟩
  have d3:decide ((am.length:Int)<mj)=false:=decide_eq_false h3;have Q:O (((vws b.vs).take (k+1)).all (FX b.st u base)=true):=J (K0 HA.o D.o (by rw[y.o];rw[d1,d2,d3];rfl));refine eD 24 (V.refl _) λj=>?_;refine ec 0 ?_;refine ec 4 ?_;refine eE 8 (Cb b _ (HB.o.r.ext j) hp H.o.f T ts HT.o) ?_;rintro _ v ⟨A5,c5,rfl,_,_,_,z⟩;refine⟨_,rfl,j.trans z,λj=>?_⟩;refine ec 9 ?_;refine eb 13 ?_;refine ea 15 ?_;refine eb 18 ?_;refine ea 20 ?_;refine eE 16 (aa.o▸GW X A F c xs u true _ (HX.o.ext j) (ac.o.ext j) ae U) ?_;rintro _ v ⟨A6,c6,rfl,G,_,_,z⟩;refine⟨_,rfl,j.trans z,λj=>?_⟩;clear z G;refine ea 17 ?_;refine eI 21 (ab.o▸IS _ _) ?_;refine eb 22 ?_;refine eA ?_;exact Ma
theorem JH{P:Prop}(h:P:=by
 have XF:=q.o.t j;clear j;go_wp2;go_roundw
 case rel=>exact⟨k+1,U,by go_num,XF⟩
 case measure=>simp[intOf];omega):P:=h
theorem WO(a b:Int)(w:World):(binOp .neq 123 (.agg #[I a,I b]) (.agg #[I a,I b])).run prog w=.ok (.bool false) w:=by simp[go_sem]
theorem Hj{w:World}{A:Option Addr}{l:List FlM}{i:Nat}(h:flE.Box w A l)(W:i<l.length) :
  ∃b j m y q z u,A=some (Z b j)/\(∀w',V w w'->w'.cell? (Z b (j+i*3))=some (I m)/\w'.cell? (Z b (j+i*3+1))=some (I y)/\w'.cell? (Z b (j+i*3+2))=some (.slice q (List.length u) z))/\O (Row w q (Aa.cells u))/\O (l[i]?=some ⟨m,y,q,z,u⟩):=by
 obtain⟨b,j,f,F,D,G,K,Q,R,T⟩:=Fd h W;obtain⟨m,y,q,z,u⟩:=f;exact⟨b,j,m,y,q,z,u,F,λw' x=>⟨(x.cell (p:=(Z b (j+i*3))) D).trans G,(x.cell (p:=(Z b (j+i*3+1))) D).trans K,(x.cell (p:=(Z b (j+i*3+2))) D).trans Q⟩,R,T⟩
theorem Ln{w:World}{A:Option Addr}{l:List (Int×Int)}{i:Nat}(h:Row w A (AA.cells l))(F:i<l.length) :
  ∃b j m n,A=some (Z b j)/\(∀w',V w w'->w'.cell? (Z b (j+i*2))=some (I m)/\w'.cell? (Z b (j+i*2+1))=some (I n))/\O (l[i]?=some (m,n)):=by
 obtain⟨b,j,m,u,q,y,z,D⟩:=Fs h F;exact⟨b,j,m.1,m.2,u,λw' x=>⟨(x.cell (p:=(Z b (j+i*2))) q).trans y,(x.cell (p:=(Z b (j+i*2+1))) q).trans z⟩,D⟩
theorem Q2{w:World}{A:Option Addr}{l:List PkM}{i:Nat}(h:pkE.Box w A l)(W:i<l.length) :
  ∃b q t G pc z,A=some (Z b q)/\(∀w',V w w'->w'.cell? (Z b (q+i*2))=some (I t)/\w'.cell? (Z b (q+i*2+1))=some (.slice G (List.length z) pc))/\O (Row w G (Aj z))/\O ((l.map PkM.v)[i]?=some (t,z)):=by
 obtain⟨b,q,v,K,D,Q,R,T⟩:=h.at_ W;have y:∀j u,(pkE.f v)[j]?=some u->w.cell? (Z b (q+i*2+j))=some u:=Q.o;have F:=y 0 _ rfl;have X:=y 1 _ rfl;rw[Nat.add_zero] at F;exact⟨b,q,v.t,v.A,v.c,v.bs,K,λw' x=>⟨(x.cell (p:=(Z b (q+i*2))) D).trans F,(x.cell (p:=(Z b (q+i*2+1))) D).trans X⟩,J (R.o.2 (v.A,Aj v.bs) (by simp[pkE])),J (by rw[zM,T.o];rfl)⟩
theorem IJ{l:List FlM}{i:Nat}{m j:Int}{u:Option Addr}{y:Nat}{q:List Ent}(h:l[i]?=some ⟨m,j,u,y,q⟩):(l.map FlM.v)[i]?=some (m,j,q):=by rw[zM,h];rfl
structure BM.Rf(w:World)(b:BM):Prop where
 r:b.Reads w
 f:b.Fits
theorem BM.Rf.ext{a b:World}{s:BM}(h:s.Rf a)(e:V a b):s.Rf b:=⟨h.r.ext e,h.f⟩
theorem BM.Rf.e{a b:World}{s:BM}(h:s.Rf a)(e:V a b):O (s.Rf b):=J (h.ext e)
theorem BM.Ok.rf{w:World}{b:BM}(h:b.Ok w):b.Rf w:=⟨h.r,h.f⟩
theorem JW(a b:BM)(w:World)(ha:a.Rf w)(hb:b.Rf w)(he:a.st=b.st) :
  Calls prog 18 #[.agg a.cells,.agg b.cells] w λe w'=>e=.returned (.bool true)/\V w w':=by
 have F:=J ha;have G:=J hb;have bm:=ha.f.log;have bo:=ha.f.pend;have bn:=ha.f.marks;have bl:=ha.f.fls;have bp:=ha.f.vs;have an:=J ha.f.vx;have ak:=J ha.f.fl;clear ha hb;have W:O (V w ((w.alloc (.cells a.cells 28)).alloc (.cells b.cells 28))):=J ((V.new _ _).alloc _);have BA:O (BIs ((w.alloc (.cells a.cells 28)).alloc (.cells b.cells 28)) w.heap.size a.cells 28):=J ((BIs.new _ _ _).ext (V.new _ _));have T:O (BIs ((w.alloc (.cells a.cells 28)).alloc (.cells b.cells 28)) (w.heap.size+1) b.cells 28):=J (BIs.newAt (w:=w.alloc (.cells a.cells 28)) b.cells 28 zj);replace F:=F.o.e W.o;replace G:=G.o.e W.o;go_enter func18,ntmps18;go_upto_region 1 with fail;generalize ((w.alloc (.cells a.cells 28)).alloc (.cells b.cells 28))=u1 at *;obtain⟨self,base,af,ar,Av,cv,vs,Al,cl,ae,Ap,cp,ah,Am,cm,z,Af,cf,ac⟩:=a;obtain⟨bt,bf,au,bu,bz,b2,ax,az,bg,bv,a9,bh,br,bx,b1,ay,bw,b0,ag⟩:=b;simp only[BM.st,St.mk.injEq] at he;obtain⟨rfl,aj,rfl,rfl,rfl,rfl,rfl,rfl,ad⟩:=he;simp only at bm bo bn bl bp an ak;have bq:ax.length=vs.length:=by have:=congrArg List.length aj;rw[AW,AW] at this;exact this.symm
 have ap:ag.length=ac.length:=by have:=congrArg List.length ad;rw[zP,zP] at this;exact this.symm
 have be:=J aj;have ba:=J ad;clear aj ad;unfold BM.cells at BA T;simp only at BA T;rw[bq,ap] at T;have bc:O (CD ae ae=true):=J (decide_eq_true rfl);obtain⟨q0,q1,q2,q3,q4,q5,q6,q7,q8⟩:=nine BA.o;obtain⟨k0,k1,k2,k3,k4,k5,k6,k7,k8⟩:=nine T.o;go_upto_region 3 with (first
  | (go_at_call 20
     refine(bc.o▸JX Al az cl bg ae ae _ F.o.r.log G.o.r.log U).mono ?_;rintro e w2 ⟨rfl,u⟩;replace F:=F.o.e u;replace G:=G.o.e u;replace BA:=BA.o.e u;replace T:=T.o.e u;replace W:=W.o.t u;clear u q0 q1 q2 q3 q4 q5 q6 q7 q8 k0 k1 k2 k3 k4 k5 k6 k7 k8;obtain⟨q0,q1,q2,q3,q4,q5,q6,q7,q8⟩:=nine BA.o;obtain⟨k0,k1,k2,k3,k4,k5,k6,k7,k8⟩:=nine T.o)
  | (go_at_call 81
     refine(Sb Ap a9 cp bh ah _ F.o.r.pend G.o.r.pend U).mono ?_;rintro e w3 ⟨rfl,u⟩;replace F:=F.o.e u;replace G:=G.o.e u;replace BA:=BA.o.e u;replace T:=T.o.e u;replace W:=W.o.t u;clear u q0 q1 q2 q3 q4 q5 q6 q7 q8 k0 k1 k2 k3 k4 k5 k6 k7 k8;obtain⟨q0,q1,q2,q3,q4,q5,q6,q7,q8⟩:=nine BA.o;obtain⟨k0,k1,k2,k3,k4,k5,k6,k7,k8⟩:=nine T.o))
 clear q0 q1 q2 q3 q4 q5 q6 q7 q8 k0 k1 k2 k3 k4 k5 k6 k7 k8;have K:∀w',V w3 w'->N9 w' w.heap.size ⟨self,base,af,ar,Av,cv,vs,Al,cl,ae,Ap,cp,ah,Am,cm,z,Af,cf,ac⟩:=λw' x=>nine (BA.o.ext x);have R:=λw' (x:V w3 w')=>nine (T.o.ext x);simp only[N9] at K;go_wp2;go_loopw [5] (λi wr=>∃k:Nat,k<=vs.length/\i=I k/\O (V w3 wr)) (λi _=>vs.length - (intOf i).toNat)
 case atStart=>exact⟨0,zO _,rfl,J (V.refl _)⟩
 case round=>
  obtain⟨k,hk,rfl,q⟩:=hrel;obtain⟨w4,rfl⟩:∃x,x=wr:=⟨wr,rfl⟩;have hq:=(K _ q.o).2.1;have hp:=(R _ q.o).2.1;by_cases D:k<vs.length
  .skip
   obtain⟨vb,vo,n,X,cx,xs,rfl,hv,HX,HV⟩:=Lu (F.o.r.vs.ext q.o) D;obtain⟨av,aw,n2,X2,bi,Q,rfl,aq,ai,aa⟩:=Lu (G.o.r.vs.ext q.o) (show k<ax.length by omega);have h1:=Dw HV.o;have h2:=Dw aa.o;rw[be.o,h2] at h1;obtain⟨rfl,rfl⟩:n2=n/\Q=xs:=by cases h1;exact⟨rfl,rfl⟩
   clear h1 h2;have b4:Q.length<=1000000:=an.o _ (zX HV.o);have bd:O (EM n2 Q n2 Q=true):=J (by simp[EM,EK]);have am:=λw' (x:V w4 w')=>(K w' (q.o.trans x)).2.1;have al:=λw' (x:V w4 w')=>(R w' (q.o.trans x)).2.1;go_upto_region 6 with fail;refine eD 12 (V.refl _) λj=>?_;refine ec 0 ?_;refine ec 4 ?_;refine eb 8 ?_;refine eG 10 j (bd.o▸Kv n2 n2 X X2 cx bi Q Q _ (HX.o.ext j) (ai.o.ext j) U) λv j=>?_;refine ea 11 ?_;refine eA ?_;exact JH
  have XV:=q;clear q hq hp;replace F:=F.o.e XV.o;replace G:=G.o.e XV.o;replace W:=W.o.t XV.o;replace K:=λw' (x:V w4 w')=>K w' (XV.o.trans x);replace R:=λw' (x:V w4 w')=>R w' (XV.o.trans x);have hq:=(K _ (V.refl _)).2.1;have hp:=(R _ (V.refl _)).2.1;go_wp2;clear hq hp D hk;go_loopw [6] (λi wr=>∃k:Nat,k<=z.length/\i=I k/\O (V w4 wr)) (λi _=>z.length - (intOf i).toNat)
  case atStart=>exact⟨0,zO _,rfl,J (V.refl _)⟩
  case round=>
   obtain⟨k,hk,rfl,q⟩:=hrel;obtain⟨w5,rfl⟩:∃x,x=wr:=⟨wr,rfl⟩;have hq:=(K _ q.o).2.2.2.2.2.2.2.1;have hp:=(R _ q.o).2.2.2.2.2.2.2.1;by_cases D:k<z.length
   .skip
    obtain⟨vb,vo,n,y,rfl,hv,HV⟩:=Ln (F.o.r.marks.ext q.o) D;obtain⟨av,aw,n2,y2,rfl,aq,aa⟩:=Ln (G.o.r.marks.ext q.o) D;obtain⟨rfl,rfl⟩:n2=n/\y2=y:=by have h1:=HV.o;rw[aa.o] at h1;cases h1;exact⟨rfl,rfl⟩
    have am:=λw' (x:V w5 w')=>(K w' (q.o.trans x)).2.2.2.2.2.2.2.1;have al:=λw' (x:V w5 w')=>(R w' (q.o.trans x)).2.2.2.2.2.2.2.1;have b3:=WO n2 y2;go_upto_region 11 with fail;refine eD 11 (V.refl _) λj=>?_;refine ec 0 ?_;refine ec 4 ?_;refine eb 8 ?_;refine ea 10 ?_;refine eA ?_;exact JH
   have XV:=q;clear q hq hp;replace F:=F.o.e XV.o;replace G:=G.o.e XV.o;replace W:=W.o.t XV.o;replace K:=λw' (x:V w5 w')=>K w' (XV.o.trans x);replace R:=λw' (x:V w5 w')=>R w' (XV.o.trans x);have hq:=(K _ (V.refl _)).2.2.2.2.2.2.2.1;have hp:=(R _ (V.refl _)).2.2.2.2.2.2.2.1;go_wp2;clear hq hp D hk;go_loopw [7] (λi wr=>∃k:Nat,k<=ac.length/\i=I k/\O (V w5 wr)) (λi _=>ac.length - (intOf i).toNat)
   case atStart=>exact⟨0,zO _,rfl,J (V.refl _)⟩
   case round=>
    obtain⟨k,hk,rfl,q⟩:=hrel;obtain⟨w6,rfl⟩:∃x,x=wr:=⟨wr,rfl⟩;have hq:=(K _ q.o).2.2.2.2.2.2.2.2;have hp:=(R _ q.o).2.2.2.2.2.2.2.2;by_cases D:k<ac.length
    .skip
     obtain⟨vb,vo,n,y,fA,fc,fl,rfl,hv,HX,HV⟩:=Hj (F.o.r.fls.ext q.o) D;obtain⟨av,aw,n2,y2,bj,bk,ab,rfl,aq,ai,aa⟩:=Hj (G.o.r.fls.ext q.o) (show k<ag.length by omega);obtain⟨rfl,rfl,rfl⟩:n2=n/\y2=y/\ab=fl:=by have h1:=IJ HV.o;rw[ba.o,IJ aa.o] at h1;cases h1;exact⟨rfl,rfl,rfl⟩
     have bb:O (CD ab ab=true):=J (decide_eq_true rfl);have ao:=(ak.o _ (zX HV.o)).1;simp only at ao;have am:=λw' (x:V w6 w')=>(K w' (q.o.trans x)).2.2.2.2.2.2.2.2;have al:=λw' (x:V w6 w')=>(R w' (q.o.trans x)).2.2.2.2.2.2.2.2;go_upto_region 16 with fail;refine eD 44 (V.refl _) λj=>?_;refine ec 0 ?_;refine ec 4 ?_;refine ec 8 ?_;refine ec 12 ?_;refine ec 16 ?_;refine ec 20 ?_;refine ec 24 ?_;refine ec 28 ?_;refine ec 32 ?_;refine ec 36 ?_;refine ea 40 ?_;refine eG 41 j (bb.o▸JX fA bj fc bk ab ab _ (HX.o.ext j) (ai.o.ext j) U) λv j=>?_;refine eb 42 ?_;refine eA ?_;exact JH
    go_wp2;go_ret;exact⟨rfl,W.o.trans q.o⟩
theorem Mv(A T:Option Addr)(c c2:Nat)(l l2:List PkM)(w:World)(h:pkE.Box w A l)(h2:pkE.Box w T l2)(Q:l.map PkM.v=l2.map PkM.v)(hn:l.length<=1000000) :
  Calls prog 19 #[.slice A l.length c,.slice T l2.length c2] w λe w'=>e=.returned (.bool true)/\V w w':=by
 have H:=J h;have H2:=J h2;have HE:=J Q;have hl:l2.length=l.length:=by have:=congrArg List.length Q;rw[zP,zP] at this;exact this.symm
 clear h h2 Q;rw[hl];go_enter func19,ntmps19;go_wp2;go_loopw [5] (λi wr=>∃k:Nat,k<=l.length/\i=I k/\O (V w wr)) (λi _=>l.length - (intOf i).toNat)
 case atStart=>exact⟨0,zO _,rfl,J (V.refl _)⟩
 case round=>
  obtain⟨k,hk,rfl,q⟩:=hrel;obtain⟨w4,rfl⟩:∃x,x=wr:=⟨wr,rfl⟩;by_cases R:k<l.length
  .skip
   obtain⟨vb,vo,n,X,cx,xs,rfl,hv,HX,HV⟩:=Q2 (H.o.ext q.o) R;obtain⟨ab,ac,n2,X2,F,u,rfl,aa,D,z⟩:=Q2 (H2.o.ext q.o) (show k<l2.length by omega);obtain⟨rfl,rfl⟩:n2=n/\u=xs:=by have h1:=HV.o;rw[HE.o,z.o] at h1;cases h1;exact⟨rfl,rfl⟩
   have K:∀W,V w4 W->(convert 29 9 (.slice X u.length cx)).run prog W=.ok (.string (Ah u)) W:=λW x=>EZ _ _ (HX.o.ext x) rfl;have y:∀W,V w4 W->(convert 29 9 (.slice X2 u.length F)).run prog W=.ok (.string (Ah u)) W:=λW x=>EZ _ _ (D.o.ext x) rfl;go_upto_region 6 with fail;refine eD 26 (V.refl _) λj=>?_;refine ec 0 ?_;refine ec 4 ?_;refine ec 8 ?_;refine ec 12 ?_;refine ea 16 ?_;refine ea 17 ?_ (hy:=λw9 G=>by have hq:=K w9 G;go_simp<;>with_reducible rfl);refine ec 18 ?_;refine ea 22 ?_;refine ea 23 ?_ (hy:=λw9 G=>by have hq:=y w9 G;go_simp<;>with_reducible rfl);refine eb 24 ?_;refine eA ?_;exact JH
  go_wp2;go_ret;exact⟨rfl,q.o⟩
end Go.Proofs.YtponbabbabnaeaaGreat
