/- Part 34: contracts of functions. Conditions: as each theorem says. -/
import Derived.Test.YtponbabbabnaeaaGreatQh26
import Derived.Test.YtponbabbabnaeaaGreatQh18
set_option maxRecDepth 100000
set_option maxHeartbeats 40000000
set_option linter.unusedVariables false
namespace Go.Proofs.YtponbabbabnaeaaGreat
open Proofs.Tryz
open Go.RowKit
theorem LS{P:Prop}(h:P:=by
 go_upto_region 1 with fail;generalize (w.alloc (.cells b.cells 28))=u1 at *;obtain⟨K,Q,R,T,W,X,q6,q7,q8⟩:=nine u.o;go_wp2_with (first
  | (go_at_call 74
     refine(HI.o▸Dv b.self _).mono ?_;rintro e w2 ⟨rfl,rfl⟩)
  | (go_at_call 113
     refine(ag.o▸J4 b.Av b.cv b.vs _ H.o.r.vs (by have:=H.o.f.vs;omega) H.o.f.vx).mono ?_;rintro e w2 ⟨rfl,q⟩;replace H:=H.o.e q;replace u:=u.o.e q;replace z:=z.o.t q;clear K Q R T W X q6 q7 q8;obtain⟨K,Q,R,T,W,X,q6,q7,q8⟩:=nine u.o;clear q)
  | (go_at_call 114
     refine(al.o▸FH b.Al b.cl b.log _ H.o.r.log (by have:=H.o.f.log;omega) H.o.f.lp).mono ?_;rintro e w3 ⟨rfl,q⟩;replace H:=H.o.e q;replace u:=u.o.e q;replace z:=z.o.t q;clear K Q R T W X q6 q7 q8;obtain⟨K,Q,R,T,W,X,q6,q7,q8⟩:=nine u.o;clear q))
 go_ret;exact⟨AC F.o.symm,z.o⟩):P:=h
theorem LW{P:Prop}(h:P:=by
 go_upto_region 1 with fail;generalize (w.alloc (.cells b.cells 28))=u1 at *;obtain⟨K,Q,R,T,W,X,q6,q7,q8⟩:=nine u.o;go_wp2_with (first
  | (go_at_call 74
     refine(HI.o▸Dv b.self _).mono ?_;rintro e w2 ⟨rfl,rfl⟩)
  | (go_at_call 113
     refine(ag.o▸J4 b.Av b.cv b.vs _ H.o.r.vs (by have:=H.o.f.vs;omega) H.o.f.vx).mono ?_;rintro e w2 ⟨rfl,q⟩;replace H:=H.o.e q;replace u:=u.o.e q;replace z:=z.o.t q;clear K Q R T W X q6 q7 q8;obtain⟨K,Q,R,T,W,X,q6,q7,q8⟩:=nine u.o;clear q))
 go_ret;exact⟨AC F.o.symm,z.o⟩):P:=h
theorem Rw{P:Prop}(h:P:=by
 have d1:(ma == b.self)=true:=by simpa using aj
 have F:O (AM b.st=false):=J (Cp (λh=>(h.mks (ma,ml) (zX HM.o)).1 aj));refine eh 4 ?_;refine eu 5 true ?_;refine em 6 ?_;refine el 10 ?_;refine ek 12 ?_;refine eu 13 true ?_;refine eu 14 true ?_;refine et 15 ?_;refine em 23 ?_;refine el 27 ?_;refine eu 29 true ?_;refine eu 30 true ?_;refine el 31 ?_;refine ek 33 ?_;refine eu 34 true ?_;refine eu 35 true ?_;refine em 36 ?_;refine el 40 ?_;refine eu 42 true ?_;refine eA ?_;go_wp2;go_ret;exact⟨AC F.o.symm,XX.o.trans D⟩):P:=h
theorem RY{P:Prop}(h:P:=by
 have HC:=J y;clear y;have F:O (AM b.st=false):=J (Cp (λh=>by have:=(h.mks (ma,ml) (zX HM.o)).2.1;rw[show b.st.views=vws b.vs from rfl,ax.o,HC.o] at this;cases this));refine eN 11 (HC.o▸De A5 c5 ts ma _ HR.o U) ?_;refine eh 12 ?_;refine eu 13 true ?_;refine eu 14 true ?_;refine et 15 ?_;refine em 23 ?_;refine el 27 ?_;refine eu 29 true ?_;refine eu 30 true ?_;refine el 31 ?_;refine ek 33 ?_;refine eu 34 true ?_;refine eu 35 true ?_;refine em 36 ?_;refine el 40 ?_;refine eu 42 true ?_;refine eA ?_;go_wp2;go_ret;exact⟨AC F.o.symm,XX.o.trans D⟩):P:=h
theorem RQ{P:Prop}(h:P:=by
 have d2:decide (ml<0)=false:=decide_eq_false h1;refine eh 33 ?_;refine eu 34 false ?_;refine eu 35 false ?_;refine ej 36 ?_;refine eh 40 ?_;by_cases h2:(b.log.length:Int)<ml
 .as_aux_lemma=>
   have d3:decide ((b.log.length:Int)<ml)=true:=decide_eq_true h2;have F:O (AM b.st=false):=J (Cp (λh=>by have:=(h.mks (ma,ml) (zX HM.o)).2.2.2;simp only[BM.st] at this;omega));refine eh 41 ?_;refine eu 42 true ?_;refine eA ?_;go_wp2;go_ret;exact⟨AC F.o.symm,XX.o.trans D⟩
 have d3:decide ((b.log.length:Int)<ml)=false:=decide_eq_false h2;refine eh 41 ?_;refine eu 42 false ?_;refine eA ?_;have az:O (MkUp b.st (k+1)):=J (be.o.succ HM.o ⟨aj,by rw[show b.st.views=vws b.vs from rfl,ax.o];exact HC.o,by simp only;omega,by simp only[BM.st];omega⟩ ai.o);have XF:=G.o.t D;clear D;go_wp2;go_roundw
 case rel=>exact⟨k+1,U,by go_num,az,XF⟩
 case measure=>simp[intOf];omega):P:=h
theorem RB{P:Prop}(h:P:=by
 have ae:=J hpo;clear hpo;have F:O (AM b.st=false):=J (Cp (λh=>by have:=h.fls (fm,fb,fl) (List.mem_map_of_mem (f:=FlM.v) (zX HM.o));have h2:=ae.o;rw[show b.st.views=vws b.vs from rfl] at this;rw[this.1,this.2] at h2;cases h2));refine eO 6 D (ae.o▸Hx b ⟨fm,fb,fA,fc,fl⟩ _ (HX.o.ext D) (ar.o.ext D) am bd.o) λu6 D=>?_;refine eh 7 ?_;refine eu 8 true ?_;refine et 9 ?_;refine et 17 ?_;refine el 25 ?_;refine eu 27 true ?_;refine eA ?_;go_wp2;go_ret;exact⟨AC F.o.symm,XX.o.trans D⟩):P:=h
theorem RO{P:Prop}(h:P:=by
 have d2:decide (ml<0)=true:=decide_eq_true h1;have F:O (AM b.st=false):=J (Cp (λh=>by have:=(h.mks (ma,ml) (zX HM.o)).2.2.1;simp only at this;omega));refine eh 33 ?_;refine eu 34 true ?_;refine eu 35 true ?_;refine em 36 ?_;refine el 40 ?_;refine eu 42 true ?_;refine eA ?_;go_wp2;go_ret;exact⟨AC F.o.symm,XX.o.trans D⟩):P:=h
theorem Ru{P:Prop}(h:P:=by
 have XF:=G.o.t D;clear D;go_wp2;go_roundw
 case rel=>exact⟨k+1,U,by go_num,az,XF⟩
 case measure=>simp[intOf];omega):P:=h
theorem IM{P:Prop}(h:P:=by
 go_wp2;go_meet;exact⟨true,rfl,J (λh=>by cases h),J (λ_=>F.o),J D⟩):P:=h
theorem LI{P:Prop}(h:P:=by
 go_meet;exact⟨true,rfl,J (λh=>by cases h),J (λ_=>F.o),XQ⟩):P:=h
theorem Q6{P:Prop}(h:P:=by
 intro m hm;obtain⟨i,hi⟩:=List.getElem?_of_mem hm;exact(h i m (zZ hi).1 hi).1):P:=h
theorem Rl{P:Prop}(h:P:=by
 have F:=J (aq.o rfl);go_wp2;go_ret;exact⟨AC F.o.symm,z.o.trans G.o⟩):P:=h
theorem Ro{P:Prop}(h:P:=by
 go_wp2;go_meet;exact⟨false,rfl,J (λ_=>KN.o),J (λh=>by cases h),J D⟩):P:=h
theorem Cp{s:St}(h:VS s->False):AM s=false:=by
 cases hv:AM s with
 | false=>rfl
 | true=>exact absurd (Cm.1 hv) h
theorem WL{l:List Ent}{b:Int}(h:Bi l b=true):Bc l=true:=by
 unfold Bi at h;split at h
 .have:l=[]:=List.eq_nil_of_length_eq_zero (of_decide_eq_true h);subst this;decide
 .simp only[zB] at h;exact h.2.1
theorem OX(A:Option Addr)(c:Nat)(l:List Ent)(m:Nat)(j o:Int)(w:World)(h:Row w A (Aa.cells l))(q:l.length<=1000000000)(hm:m<=l.length)(e:j=(m:Int))(r:Nat)(u:Aq (l.take m) o=r) :
  Calls prog 65 #[.slice A l.length c,I j,I o] w λe w'=>e=.returned (I r)/\w=w':=by subst e;subst u;exact Hy A c l m o w h q hm
theorem YY{w:World}{A:Option Addr}{l:List (List UInt8)}{i:Nat}(h:Row w A (AU.cells l))(hi:i<l.length) :
  ∃b j p,A=some (Z b j)/\(∀w',V w w'->w'.cell? (Z b (j+i))=some (.string (Ah p)))/\O (l[i]?=some p):=by
 obtain⟨b,j,p,h1,h2,q,u⟩:=Gm h hi;exact⟨b,j,p,h1,λw' x=>(x.cell (p:=(Z b (j+i))) h2).trans q,u⟩
theorem Pw{w:World}{A:Option Addr}{l:List (Int×Int)}{i:Nat}(h:Row w A (AA.cells l))(hi:i<l.length) :
  ∃b j m,A=some (Z b j)/\(∀w',V w w'->w'.cell? (Z b (j+i*2))=some (I (Prod.fst m))/\w'.cell? (Z b (j+i*2+1))=some (I m.2))/\O (l[i]?=some m):=by
 obtain⟨b,j,m,h1,h2,q,u,y⟩:=Fs h hi;exact⟨b,j,m,h1,λw' x=>⟨(x.cell (p:=(Z b (j+i*2))) h2).trans q,(x.cell (p:=(Z b (j+i*2+1))) h2).trans u⟩,y⟩
theorem Rm{w:World}{A:Option Addr}{l:List FlM}{i:Nat}(h:flE.Box w A l)(hi:i<l.length) :
  ∃b j f,A=some (Z b j)/\(∀w',V w w'->w'.cell? (Z b (j+i*3))=some (I (FlM.m f))/\w'.cell? (Z b (j+i*3+1))=some (I f.b)/\w'.cell? (Z b (j+i*3+2))=some (.slice f.A f.log.length f.c))/\O (Row w f.A (Aa.cells f.log))/\O (l[i]?=some f):=by
 obtain⟨b,j,f,h1,h2,q,u,y,z,D⟩:=Fd h hi;exact⟨b,j,f,h1,λw' x=>⟨(x.cell (p:=(Z b (j+i*3))) h2).trans q,(x.cell (p:=(Z b (j+i*3+1))) h2).trans u,(x.cell (p:=(Z b (j+i*3+2))) h2).trans y⟩,z,D⟩
theorem Nq{α:Type}(q:α->Int){l:List α}(h:∀i a b,l[i]?=some a->l[i+1]?=some b->q a<q b)(y:∀a∈l,0<q a):EQ (l.map q):=by
 rw[<-JA];intro i k u;rw[zM] at u;cases hl:l[i]? with
 | none=>rw[hl] at u;cases u
 | some b=>
  rw[hl] at u;cases u;cases i with
  | zero=>rw[if_pos rfl];exact y b (zX hl)
  | succ j=>
   rw[if_neg U,Nat.add_sub_cancel,zM];cases ha:l[j]? with
   | none=>have:=(zZ hl).1;rw[List.getElem?_eq_none_iff] at ha;omega
   | some a=>exact h j a b ha hl
theorem Oq{l:List Int}(h:EQ l){i:Nat}{a b:Int}(j:l[i]?=some a)(q:l[i+1]?=some b):a<b:=by
 have:=JA.2 h (i+1) b q;rw[if_neg U,Nat.add_sub_cancel,j] at this;exact this
def MkUp(s:St)(k:Nat):Prop:=∀i m,i<k->s.marks[i]?=some m->Hm s m/\∀j a,i=j+1->s.marks[j]?=some a->a.1<m.1
theorem MkUp.succ{s:St}{k:Nat}{m:Int×Int}(h:MkUp s k)(hm:s.marks[k]?=some m)(u:Hm s m)(y:∀j a,k=j+1->s.marks[j]?=some a->a.1<m.1):MkUp s (k+1):=by
 intro i x hi q;rcases Nat.lt_or_ge i k with h1|h1
 .exact h i x h1 q
 .have:i=k:=U;subst this;rw[hm] at q;cases q;exact⟨u,y⟩
def FlUp(s:St)(l:List FlM)(k:Nat):Prop:=∀i f,i<k->l[i]?=some f->(AQ f.m=true/\Bh s.views f.v=true)/\∀j a,i=j+1->l[j]?=some a->FlM.m a<f.m
theorem FlUp.succ{s:St}{l:List FlM}{k:Nat}{f:FlM}(h:FlUp s l k)(hm:l[k]?=some f)(u:(AQ f.m&&Bh s.views f.v)=true)(y:∀j a,k=j+1->l[j]?=some a->FlM.m a<f.m):FlUp s l (k+1):=by
 intro i x hi q;rcases Nat.lt_or_ge i k with h1|h1
 .exact h i x h1 q
 .have:i=k:=U;subst this;rw[hm] at q;cases q;exact⟨by simpa using u,y⟩
theorem U9{b:BM}(q:AK (Ar (vws b.vs)).1 (Ar (vws b.vs)).2=true)(h:MkUp b.st b.marks.length):EQ (b.st.marks.map Prod.fst)/\∀m∈b.st.marks,Hm b.st m:=by
 have h2:∀m∈b.st.marks,Hm b.st m:=by
  exact Q6
 refine⟨Nq Prod.fst (λi a c j y=>(h (i+1) c (zZ y).1 y).2 i a rfl j) (λa j=>?_),h2⟩;exact(((DM (m:=16)).1 (Ei q)).2.2.2 a.1 (E7.1 (h2 a j).2.1)).1
theorem Yy{b:BM}(h:FlUp b.st b.fls b.fls.length):EQ (b.st.fls.map Prod.fst)/\∀f∈b.st.fls,AQ f.1=true/\Bh b.st.views f=true:=by
 have h2:∀f∈b.fls,AQ f.m=true/\Bh b.st.views f.v=true:=by
  exact Q6
 have h1:=Nq FlM.m (λi a c j y=>(h (i+1) c (zZ y).1 y).2 i a rfl j) (λa j=>by have:=KP (h2 a j).1;omega);have e:b.st.fls.map Prod.fst=b.fls.map FlM.m:=by show (b.fls.map FlM.v).map Prod.fst=_;rw[List.map_map];rfl
 refine⟨by rw[e];exact h1,λf q=>?_⟩;obtain⟨x,u,rfl⟩:=List.mem_map.1 (show f∈b.fls.map FlM.v from q);exact h2 x u
theorem Dt(b:BM)(w:World)(h:b.Ok w):Calls prog 43 #[.agg b.cells] w λe w'=>e=.returned (.bool (AM b.st))/\V w w':=by
 have H:=J h;clear h;have z:O (V w (w.alloc (.cells b.cells 28))):=J (V.new _ _);have u:O (BIs (w.alloc (.cells b.cells 28)) w.heap.size b.cells 28):=J (BIs.new _ _ _);replace H:=H.o.e z.o;cases hi:AQ b.self with
 | false=>
  have HI:=J hi;have F:O (AM b.st=false):=J (Cp (λh=>by have:=h.self;rw[show b.st.self=b.self from rfl,hi] at this;cases this));clear hi;go_enter func43,ntmps43;go_upto_region 1 with fail;generalize (w.alloc (.cells b.cells 28))=u1 at *;obtain⟨K,Q,R,T,W,X,q6,q7,q8⟩:=nine u.o;go_wp2_with (first
   | (go_at_call 74
      refine(HI.o▸Dv b.self _).mono ?_;rintro e w2 ⟨rfl,rfl⟩))
  go_ret;exact⟨AC F.o.symm,z.o⟩
 | true=>
  have HI:=J hi;clear hi;cases hvv:Bv (vws b.vs) with
  | false=>
   have ag:=J hvv;have F:O (AM b.st=false):=J (Cp (λh=>by have:=h.vs;rw[show b.st.views=vws b.vs from rfl,hvv] at this;cases this));clear hvv;go_enter func43,ntmps43;exact LW
  | true=>
   have ag:=J hvv;clear hvv;by_cases y:b.sent<0
   .have F:O (AM b.st=false):=J (Cp (λh=>by have:=h.sent0;simp only[BM.st] at this;omega));have d1:decide (b.sent<0)=true:=decide_eq_true y;clear y;go_enter func43,ntmps43;exact LW
   have d1:decide (b.sent<0)=false:=decide_eq_false y;have n1:=y;clear y;by_cases y:(1099511627776:Int)<b.sent
   .have F:O (AM b.st=false):=J (Cp (λh=>by have:=h.sent;simp only[BM.st] at this;omega));have d2:decide ((1099511627776:Int)<b.sent)=true:=decide_eq_true y;clear y;go_enter func43,ntmps43;exact LW
   have d2:decide ((1099511627776:Int)<b.sent)=false:=decide_eq_false y;have n2:=y;clear y;cases hvl:Bc b.log with
   | false=>
    have al:=J hvl;have F:O (AM b.st=false):=J (Cp (λh=>by have:=WL h.based;rw[show b.st.log=b.log from rfl,hvl] at this;cases this));clear hvl;go_enter func43,ntmps43;exact LS
   | true=>
    have al:=J hvl;clear hvl;by_cases y:b.stable<0
    .have F:O (AM b.st=false):=J (Cp (λh=>by have:=h.st0;simp only[BM.st] at this;omega));have d3:decide (b.stable<0)=true:=decide_eq_true y;clear y;go_enter func43,ntmps43;exact LS
    have d3:decide (b.stable<0)=false:=decide_eq_false y;have n3:=y;clear y;by_cases y:(b.log.length:Int)<b.stable
    .have F:O (AM b.st=false):=J (Cp (λh=>by have:=h.st;simp only[BM.st] at this;omega));have d4:decide ((b.log.length:Int)<b.stable)=true:=decide_eq_true y;clear y;go_enter func43,ntmps43;exact LS
    have d4:decide ((b.log.length:Int)<b.stable)=false:=decide_eq_false y;have n4:=y;clear y;obtain⟨st,cc⟩:∃st:Nat,b.stable=(st:Int):=⟨b.stable.toNat,U⟩;have b3:=J cc;have cb:st<=b.log.length:=U;clear cc;go_enter func43,ntmps43;go_upto_region 1 with fail;generalize (w.alloc (.cells b.cells 28))=u1 at *;obtain⟨K,Q,R,T,W,X,q6,q7,q8⟩:=nine u.o;go_upto_region 3 with (first
     | (go_at_call 74
        refine(HI.o▸Dv b.self _).mono ?_;rintro e w2 ⟨rfl,rfl⟩)
     | (go_at_call 113
        refine(ag.o▸J4 b.Av b.cv b.vs _ H.o.r.vs (by have:=H.o.f.vs;omega) H.o.f.vx).mono ?_;rintro e w2 ⟨rfl,q⟩;replace H:=H.o.e q;replace u:=u.o.e q;replace z:=z.o.t q;clear K Q R T W X q6 q7 q8;obtain⟨K,Q,R,T,W,X,q6,q7,q8⟩:=nine u.o;clear q)
     | (go_at_call 114
        refine(al.o▸FH b.Al b.cl b.log _ H.o.r.log (by have:=H.o.f.log;omega) H.o.f.lp).mono ?_;rintro e w3 ⟨rfl,q⟩;replace H:=H.o.e q;replace u:=u.o.e q;replace z:=z.o.t q;clear K Q R T W X q6 q7 q8;obtain⟨K,Q,R,T,W,X,q6,q7,q8⟩:=nine u.o;clear q))
    clear d1 d2 d3 d4;go_wp2_with fail;refine(Ka b b.base _ H.o.r H.o.f).mono ?_;rintro e w4 ⟨A4,c4,rfl,_,_,HR,q⟩;obtain⟨kv,bb⟩:∃v,v=Br (vws b.vs) b.base:=⟨_,rfl⟩;rw[<-bb] at HR|-;have ap:(kv.getD (0,[])).2.length<=9223372036854775807:=by
     cases kv with
     | none=>simp
     | some v=>exact QZ (m:=v.1) bb.symm H.o.f.vx
    have aw:=J bb;clear bb;obtain⟨⟨vn,xs⟩,bi⟩:∃v,v=kv.getD (0,[]):=⟨_,rfl⟩;rw[<-bi] at HR ap|-;have bu:=J bi;obtain⟨ok,bl⟩:∃o,o=kv.isSome:=⟨_,rfl⟩;rw[<-bl];have bf:=J bl;clear bi bl;simp only at HR ap|-;replace H:=H.o.e q;replace u:=u.o.e q;replace z:=z.o.t q;clear K Q R T W X q6 q7 q8;obtain⟨K,Q,R,T,W,X,q6,q7,q8⟩:=nine u.o;clear q;go_upto_region 4 with fail;have BV:O (BIs (w4.alloc (.cells #[I vn,.slice A4 xs.length c4] 46)) w4.heap.size #[I vn,.slice A4 xs.length c4] 46):=J (BIs.new _ _ _);have q:V w4 (w4.alloc (.cells #[I vn,.slice A4 xs.length c4] 46)):=V.new _ _;replace HR:=HR.o.e q;replace H:=H.o.e q;replace u:=u.o.e q;replace z:=z.o.t q;clear K Q R T W X q6 q7 q8;clear q;generalize (w4.alloc (.cells #[I vn,.slice A4 xs.length c4] 46))=w5 at *;generalize w4.heap.size=rv at *;have HN:=u.o.n9;have HV:=BV.o.n2;have b6:=H.o.f.log;go_cut [100] (λs wx=>∃aa:Bool,s=.bool aa/\O (aa=false->(Bi b.log b.base=true/\(b.base = -1\/∃v,Br (vws b.vs) b.base=some v/\AG v.2 b.self=true)))/\O (aa=true->AM b.st=false)/\O (V w5 wx))
    case first=>
     as_aux_lemma=>
      by_cases hb:b.base = -1
      .have HB:=J hb;have cj:(b.base == -1)=true:=by simpa using hb
       clear hb;have ck:(b.base != -1)=false:=by rw[HB.o];rfl
       refine eD 46 (V.refl _) λD=>?_;refine ei 0 ?_;refine eh 2 ?_;refine eu 3 true ?_;refine ei 4 ?_;refine eh 6 ?_;by_cases hl:0<b.log.length
       .as_aux_lemma=>
         have cm:decide (0<b.log.length)=true:=decide_eq_true hl;have cn:decide ((0:Int)<(b.log.length:Int))=true:=decide_eq_true U;have F:O (AM b.st=false):=J (Cp (λh=>by have:=h.based;rw[show b.st.base=b.base from rfl,HB.o] at this;unfold Bi at this;rw[if_pos rfl] at this;have:=of_decide_eq_true this;simp only[BM.st] at this;omega));refine ei 7 ?_;refine eu 9 true ?_;refine et 10 ?_;refine et 18 ?_;refine et 26 ?_;refine et 34 ?_;refine el 42 ?_;refine ek 44 ?_;refine eu 45 true ?_;refine eA ?_;exact IM
       have cm:decide (0<b.log.length)=false:=decide_eq_false hl;have cn:decide ((0:Int)<(b.log.length:Int))=false:=decide_eq_false U;refine ei 7 ?_;refine eu 9 false ?_;refine ei 10 ?_;refine eh 12 ?_;refine eu 13 false ?_;refine et 14 ?_;refine et 22 ?_;refine et 30 ?_;refine em 38 ?_;refine el 42 ?_;refine eh 44 ?_;refine eu 45 false ?_;refine eA ?_;have KN:O (Bi b.log b.base=true/\(b.base = -1\/∃v,Br (vws b.vs) b.base=some v/\AG v.2 b.self=true)):=J (⟨by rw[HB.o,NC rfl];exact decide_eq_true U,.inl HB.o⟩);exact Ro
      have HB:=J hb;have cj:(b.base == -1)=false:=by simpa using hb
      have ck:(b.base != -1)=true:=by simpa using hb
      clear hb;refine eD 46 (V.refl _) λD=>?_;refine ei 0 ?_;refine eh 2 ?_;refine eu 3 false ?_;refine em 4 ?_;refine eh 8 ?_;refine eu 9 false ?_;refine ei 10 ?_;refine eh 12 ?_;refine eu 13 true ?_;cases kv with
      | none=>
       as_aux_lemma=>
        cases bf.o;have F:O (AM b.st=false):=J (Cp (λh=>by rcases h.known with k|⟨v,k,_⟩;exact HB.o k;rw[show b.st.base=b.base from rfl,show b.st.views=vws b.vs from rfl,<-aw.o] at k;cases k));refine ei 14 ?_;refine eu 16 true ?_;refine em 17 ?_;refine el 21 ?_;refine eu 23 true ?_;refine eu 24 true ?_;refine em 25 ?_;refine eu 29 true ?_;refine eu 30 true ?_;refine et 31 ?_;refine em 39 ?_;refine eu 43 true ?_;refine eh 44 ?_;refine eu 45 true ?_;refine eA ?_;exact IM
      | some v=>
       cases bf.o;cases (show (vn,xs)=v from bu.o);refine ei 14 ?_;refine eu 16 false ?_;refine ej 17 ?_;cases y:AG xs b.self with
       | false=>
        as_aux_lemma=>
         have HC:=J y;clear y;have F:O (AM b.st=false):=J (Cp (λh=>by rcases h.known with k|⟨v,k,k2⟩;exact HB.o k;rw[show b.st.base=b.base from rfl,show b.st.views=vws b.vs from rfl,<-aw.o] at k;cases k;rw[show b.st.self=b.self from rfl,HC.o] at k2;cases k2));refine eN 21 (HC.o▸De A4 c4 xs b.self _ (HR.o.ext D) ap) ?_;refine eh 22 ?_;refine eu 23 true ?_;refine eu 24 true ?_;refine em 25 ?_;refine eu 29 true ?_;refine eu 30 true ?_;refine et 31 ?_;refine em 39 ?_;refine eu 43 true ?_;refine eh 44 ?_;refine eu 45 true ?_;refine eA ?_;exact IM
       | true=>
        have HC:=J y;clear y;refine eN 21 (HC.o▸De A4 c4 xs b.self _ (HR.o.ext D) ap) ?_;refine eh 22 ?_;refine eu 23 false ?_;refine eu 24 false ?_;refine ei 25 ?_;refine eh 27 ?_;by_cases h0:b.log.length=0
        .as_aux_lemma=>
          have ci:((b.log.length:Int) == 0)=true:=beq_iff_eq.2 U;have F:O (AM b.st=false):=J (Cp (λh=>by have:=h.based;rw[show b.st.base=b.base from rfl,show b.st.log=b.log from rfl,Pk HB.o h0] at this;cases this));refine eh 28 ?_;refine eu 29 true ?_;refine eu 30 true ?_;refine et 31 ?_;refine em 39 ?_;refine eu 43 true ?_;refine eh 44 ?_;refine eu 45 true ?_;refine eA ?_;exact IM
        have ci:((b.log.length:Int) == 0)=false:=beq_eq_false_iff_ne.2 U;have b7:0<b.log.length:=U;clear h0;obtain⟨ln,bj⟩:∃k,b.log.length=k+1:=⟨b.log.length - 1,U⟩;obtain⟨lb,lo,e,hA,_,he,HE⟩:=Gw H.o.r.log (show b.log.length - 1<b.log.length by omega);have bv:=J (Jo bj (by rw[show ln=b.log.length - 1 by omega];exact HE.o));rw[show b.log.length - 1=ln by omega] at he;have c7:IntKind.i64.wrap ((b.log.length:Int) - 1)=(ln:Int):=by rw[IntWalk.i64_in _ U];omega
        have m2:(ln:Int)<(b.log.length:Int):=U;have m3:ln<b.log.length:=U;have m1:(0:Int)<=(ln:Int):=U;have c1:=J bj;clear bj;simp only[N9,hA] at HN;refine eh 28 ?_;refine eu 29 false ?_;refine eu 30 false ?_;refine ej 31 ?_;refine ej 35 ?_;refine ei 39 ?_;refine eh 41 ?_;by_cases a9:e.v=b.base;rotate_left
        .as_aux_lemma=>
          have b5:(e.v != b.base)=true:=by simpa using a9
          have F:O (AM b.st=false):=J (Cp (λh=>by have:=h.based;rw[show b.st.base=b.base from rfl,show b.st.log=b.log from rfl,J5 HB.o b7 al.o,bv.o] at this;exact a9 (of_decide_eq_true this)));refine eh 42 ?_;refine eu 43 true ?_;refine eh 44 ?_;refine eu 45 true ?_;refine eA ?_;exact IM
        have b5:(e.v != b.base)=false:=by simpa using a9
        refine eh 42 ?_;refine eu 43 false ?_;refine eh 44 ?_;refine eu 45 false ?_;refine eA ?_;have KN:O (Bi b.log b.base=true/\(b.base = -1\/∃v,Br (vws b.vs) b.base=some v/\AG v.2 b.self=true)):=J (⟨by rw[J5 HB.o b7 al.o,bv.o];exact decide_eq_true a9,.inr ⟨_,aw.o.symm,HC.o⟩⟩);exact Ro
    -- PART1
    case rest=>
     as_aux_lemma=>
      obtain⟨aa,rfl,av,aq,G⟩:=hcut;cases aa with
      | true=>
       exact Rl
      | false=>
       replace av:=J (av.o rfl);clear aq b6;clear HR aw bu bf ap BV HV;replace H:=H.o.e G.o;replace u:=u.o.e G.o;replace z:=z.o.t G.o;clear HN G;obtain⟨w6,rfl⟩:∃x,x=wc:=⟨wc,rfl⟩;have HN:=u.o.n9;go_upto_region 6 with fail;obtain⟨on,bm⟩:∃x,Aq (b.log.take b.log.length) b.self=x:=⟨_,rfl⟩;obtain⟨so,bo⟩:∃x,Aq (b.log.take st) b.self=x:=⟨_,rfl⟩;have cf:=J bm;have b1:=J bo;have c0:so<=b.log.length:=by rw[<-bo];exact zL (G1 _ _ _) cb
       have c2:=H.o.f.log;have b0:O (Aq b.log b.self=on):=J (by rw[<-bm,List.take_length]);clear bm bo;have ct:IntKind.i64.wrap (b.sent - (so:Int))=b.sent - (so:Int):=IntWalk.i64_in _ U;have b2:O (Aq (b.st.log.take b.st.stable.toNat) b.st.self=so):=J (by rw[<-b1.o,show b.st.stable=b.stable from rfl,b3.o];rfl);refine eD 33 (V.refl _) λD=>?_;refine ej 0 ?_;refine ei 4 ?_;refine eh 6 ?_;refine ei 8 ?_;refine eN 7 (OX b.Al b.cl b.log b.log.length (b.log.length:Int) b.self _ (H.o.r.log.ext D) U (zR _) rfl on cf.o) ?_;by_cases y:b.sent<(on:Int)
       .as_aux_lemma=>
         have d1:decide (b.sent<(on:Int))=true:=decide_eq_true y;have F:O (AM b.st=false):=J (Cp (λh=>by have:=h.own;rw[show b.st.log=b.log from rfl,show b.st.self=b.self from rfl,b0.o] at this;simp only[BM.st] at this;omega));refine eh 10 ?_;refine eu 11 true ?_;refine et 12 ?_;refine em 20 ?_;refine el 24 ?_;refine eu 26 true ?_;refine eu 27 true ?_;refine em 28 ?_;refine eu 32 true ?_;refine eA ?_;go_wp2;go_ret;exact⟨AC F.o.symm,z.o.trans D⟩
       have d1:decide (b.sent<(on:Int))=false:=decide_eq_false y;have n5:=y;clear y;refine eh 10 ?_;refine eu 11 false ?_;refine ej 12 ?_;refine ej 16 ?_;refine ei 20 ?_;refine eh 22 ?_;refine eN 23 (OX b.Al b.cl b.log st b.stable b.self _ (H.o.r.log.ext D) U cb b3.o so b1.o) ?_;refine eh 24 ?_;by_cases y:(b.pend.length:Int)=b.sent - (so:Int);rotate_left
       .as_aux_lemma=>
         have d2:((b.pend.length:Int) != b.sent - (so:Int))=true:=by simpa using y
         have F:O (AM b.st=false):=J (Cp (λh=>by have:=h.pd;rw[b2.o] at this;exact y this));refine eh 25 ?_;refine eu 26 true ?_;refine eu 27 true ?_;refine em 28 ?_;refine eu 32 true ?_;refine eA ?_;go_wp2;go_ret;exact⟨AC F.o.symm,z.o.trans D⟩
       have d2:((b.pend.length:Int) != b.sent - (so:Int))=false:=by simpa using y
       have cg:=J y;clear y;refine eh 25 ?_;refine eu 26 false ?_;refine eu 27 false ?_;refine ei 28 ?_;refine eh 30 ?_;by_cases y:(32:Int)<(b.pend.length:Int)
       .as_aux_lemma=>
         have d3:decide ((32:Int)<(b.pend.length:Int))=true:=decide_eq_true y;have F:O (AM b.st=false):=J (Cp (λh=>by have:=h.pl;simp only[BM.st] at this;omega));refine eh 31 ?_;refine eu 32 true ?_;refine eA ?_;go_wp2;go_ret;exact⟨AC F.o.symm,z.o.trans D⟩
       have d3:decide ((32:Int)<(b.pend.length:Int))=false:=decide_eq_false y;have n6:=y;clear y;refine eh 31 ?_;refine eu 32 false ?_;refine eA ?_;have G:=J D;clear D d1 d2 d3 ct;go_wp2;go_loopw [5] (λi wr=>∃k:Nat,k<=b.pend.length/\i=I k/\O (∀p∈b.pend.take k,p.length<=6000)/\O (V w6 wr)) (λi _=>b.pend.length - (intOf i).toNat)
       case atStart=>exact⟨0,zO _,rfl,J (λp hp=>by simp at hp),G⟩
       case round=>
        clear G;obtain⟨k,hk,rfl,HT,G⟩:=hrel;obtain⟨w7,rfl⟩:∃x,x=wr:=⟨wr,rfl⟩;have b9:=(HN _ G.o).2.2.2.2.2.2.1;by_cases af:k<b.pend.length
        .obtain⟨pb,po,pl,hA,hp,HP⟩:=YY (H.o.r.pend.ext G.o) af;rw[hA] at b9;have c3:=hp _ (V.refl _);clear hp;have c6:=CZ pl;by_cases y:(6000:Int)<(pl.length:Int)
         .have F:O (AM b.st=false):=J (Cp (λh=>by have:=h.pp pl (zX HP.o);omega));have d1:decide ((6000:Int)<(pl.length:Int))=true:=decide_eq_true y;go_wp2;go_ret;exact⟨AC F.o.symm,z.o.trans G.o⟩
         have d1:decide ((6000:Int)<(pl.length:Int))=false:=decide_eq_false y;have ch:O (∀p∈b.pend.take (k+1),p.length<=6000):=J (λp hp=>by
          rw[Cz HP.o] at hp;rcases List.mem_append.1 hp with h|h
          .exact HT.o p h
          .rw[List.mem_singleton.1 h];omega)
         go_wp2;go_roundw
         case rel=>exact⟨k+1,U,by go_num,ch,G⟩
         case measure=>simp[intOf];omega
        have an:k=b.pend.length:=U;subst an;rw[List.take_length] at HT;clear af hk;replace H:=H.o.e G.o;replace u:=u.o.e G.o;replace z:=z.o.t G.o;clear HN G;go_upto_region 13 with fail;clear b9;obtain⟨K,Q,R,T,W,X,q6,q7,q8⟩:=nine u.o;have ab:=(DY ag.o).1;rw[AW] at ab;go_cut [167] (λs wx=>∃aa:Bool,s=.bool aa/\O (aa=false->((b.marks=[]\/(AD b.st=true/\AE b.st=true))/\(b.fls=[]\/(AD b.st=false/\AE b.st=true))))/\O (aa=true->AM b.st=false)/\O (V w7 wx))
        case first=>
         have XQ:O (V w7 w7):=J (V.refl _);obtain⟨ld,b8⟩:∃x,(AD b.st&&AE b.st)=x:=⟨_,rfl⟩;obtain⟨co,b4⟩:∃x,(!AD b.st&&AE b.st)=x:=⟨_,rfl⟩;have ad:=J b8;have ac:=J b4;clear b8 b4;by_cases hm:b.marks.length=0
         .skip
          have bk:decide (0<b.marks.length)=false:=decide_eq_false U;have cq:decide ((0:Int)<(b.marks.length:Int))=false:=decide_eq_false U;have bw:=J hm;clear hm;by_cases hf:b.fls.length=0
          .have bg:decide (0<b.fls.length)=false:=decide_eq_false U;have bh:decide ((0:Int)<(b.fls.length:Int))=false:=decide_eq_false U;have bc:=J hf;clear hf;go_wp2;go_meet;exact⟨false,rfl,J (λ_=>⟨.inl (List.eq_nil_of_length_eq_zero bw.o),.inl (List.eq_nil_of_length_eq_zero bc.o)⟩),J (λh=>by cases h),XQ⟩
          have bg:decide (0<b.fls.length)=true:=decide_eq_true U;have bh:decide ((0:Int)<(b.fls.length:Int))=true:=decide_eq_true U;cases co with
          | false=>
           have F:O (AM b.st=false):=J (Cp (λh=>by rcases h.fl0 with k|⟨k1,k2⟩;exact absurd (congrArg List.length k) (by simp only[BM.st,zP,List.length_nil];omega);rw[k1,k2] at ac;exact absurd ac.o zd));go_wp2_with (first
            | (go_at_call 67
               refine(ac.o▸EW b _ H.o.r ab H.o.f).mono ?_;rintro e w9 ⟨rfl,q⟩;replace XQ:=XQ.o.t q;replace H:=H.o.e q;replace u:=u.o.e q;replace z:=z.o.t q;clear K Q R T W X q6 q7 q8;obtain⟨K,Q,R,T,W,X,q6,q7,q8⟩:=nine u.o;clear q))
           exact LI
          | true=>
           go_wp2_with (first
            | (go_at_call 67
               refine(ac.o▸EW b _ H.o.r ab H.o.f).mono ?_;rintro e w9 ⟨rfl,q⟩;replace XQ:=XQ.o.t q;replace H:=H.o.e q;replace u:=u.o.e q;replace z:=z.o.t q;clear K Q R T W X q6 q7 q8;obtain⟨K,Q,R,T,W,X,q6,q7,q8⟩:=nine u.o;clear q))
           go_meet;exact⟨false,rfl,J (λ_=>⟨.inl (List.eq_nil_of_length_eq_zero bw.o),.inr (by have:=ac.o;simpa using this)⟩),J (λh=>by cases h),XQ⟩
         have bk:decide (0<b.marks.length)=true:=decide_eq_true U;have cq:decide ((0:Int)<(b.marks.length:Int))=true:=decide_eq_true U;cases ld with
         | false=>
          have F:O (AM b.st=false):=J (Cp (λh=>by rcases h.mk0 with k|⟨k1,k2⟩;exact absurd (congrArg List.length k) (by simp only[BM.st,List.length_nil];omega);rw[k1,k2] at ad;exact absurd ad.o zd));go_wp2_with (first
           | (go_at_call 59
              refine(ad.o▸Cy b _ H.o.r ab H.o.f).mono ?_;rintro e w8 ⟨rfl,q⟩;replace XQ:=XQ.o.t q;replace H:=H.o.e q;replace u:=u.o.e q;replace z:=z.o.t q;clear K Q R T W X q6 q7 q8;obtain⟨K,Q,R,T,W,X,q6,q7,q8⟩:=nine u.o;clear q))
          exact LI
         | true=>
          by_cases hf:b.fls.length=0
          .have bg:decide (0<b.fls.length)=false:=decide_eq_false U;have bh:decide ((0:Int)<(b.fls.length:Int))=false:=decide_eq_false U;have bc:=J hf;clear hf;go_wp2_with (first
            | (go_at_call 59
               refine(ad.o▸Cy b _ H.o.r ab H.o.f).mono ?_;rintro e w8 ⟨rfl,q⟩;replace XQ:=XQ.o.t q;replace H:=H.o.e q;replace u:=u.o.e q;replace z:=z.o.t q;clear K Q R T W X q6 q7 q8;obtain⟨K,Q,R,T,W,X,q6,q7,q8⟩:=nine u.o;clear q))
           go_meet;exact⟨false,rfl,J (λ_=>⟨.inr (by have:=ad.o;simpa using this),.inl (List.eq_nil_of_length_eq_zero bc.o)⟩),J (λh=>by cases h),XQ⟩
          have bg:decide (0<b.fls.length)=true:=decide_eq_true U;have bh:decide ((0:Int)<(b.fls.length:Int))=true:=decide_eq_true U;cases co with
          | false=>
           have F:O (AM b.st=false):=J (Cp (λh=>by rcases h.fl0 with k|⟨k1,k2⟩;exact absurd (congrArg List.length k) (by simp only[BM.st,zP,List.length_nil];omega);rw[k1,k2] at ac;exact absurd ac.o zd));go_wp2_with (first
            | (go_at_call 59
               refine(ad.o▸Cy b _ H.o.r ab H.o.f).mono ?_;rintro e w8 ⟨rfl,q⟩;replace XQ:=XQ.o.t q;replace H:=H.o.e q;replace u:=u.o.e q;replace z:=z.o.t q;clear K Q R T W X q6 q7 q8;obtain⟨K,Q,R,T,W,X,q6,q7,q8⟩:=nine u.o;clear q)
            | (go_at_call 67
               refine(ac.o▸EW b _ H.o.r ab H.o.f).mono ?_;rintro e w9 ⟨rfl,q⟩;replace XQ:=XQ.o.t q;replace H:=H.o.e q;replace u:=u.o.e q;replace z:=z.o.t q;clear K Q R T W X q6 q7 q8;obtain⟨K,Q,R,T,W,X,q6,q7,q8⟩:=nine u.o;clear q))
           exact LI
          | true=>
           go_wp2_with (first
            | (go_at_call 59
               refine(ad.o▸Cy b _ H.o.r ab H.o.f).mono ?_;rintro e w8 ⟨rfl,q⟩;replace XQ:=XQ.o.t q;replace H:=H.o.e q;replace u:=u.o.e q;replace z:=z.o.t q;clear K Q R T W X q6 q7 q8;obtain⟨K,Q,R,T,W,X,q6,q7,q8⟩:=nine u.o;clear q)
            | (go_at_call 67
               refine(ac.o▸EW b _ H.o.r ab H.o.f).mono ?_;rintro e w9 ⟨rfl,q⟩;replace XQ:=XQ.o.t q;replace H:=H.o.e q;replace u:=u.o.e q;replace z:=z.o.t q;clear K Q R T W X q6 q7 q8;obtain⟨K,Q,R,T,W,X,q6,q7,q8⟩:=nine u.o;clear q))
           go_meet;exact⟨false,rfl,J (λ_=>⟨.inr (by have:=ad.o;simpa using this),.inr (by have:=ac.o;simpa using this)⟩),J (λh=>by cases h),XQ⟩
        case rest=>
         as_aux_lemma=>
          obtain⟨aa,rfl,ay,aq,G⟩:=hcut;cases aa with
          | true=>
           exact Rl
          | false=>
           replace ay:=J (ay.o rfl);clear aq;replace H:=H.o.e G.o;replace u:=u.o.e G.o;replace z:=z.o.t G.o;clear G K Q R T W X q6 q7 q8;obtain⟨w8,rfl⟩:∃x,x=wc:=⟨wc,rfl⟩;have HN:=u.o.n9;simp only[N9] at HN;obtain⟨⟨tn,ts⟩,ht⟩:∃v,Ar (vws b.vs)=v:=⟨_,rfl⟩;have ax:=J ht;have cd:=Eu H.o.f.vx;rw[ht] at cd;simp only at cd;clear ht;have cz:=H.o.f.marks;have cy:=H.o.f.fls;go_wp2;go_loopw [6] (λi wr=>∃k:Nat,k<=b.marks.length/\i=I k/\O (MkUp b.st k)/\O (V w8 wr)) (λi _=>b.marks.length - (intOf i).toNat)
           case atStart=>exact⟨0,zO _,rfl,J (λi m hi=>absurd hi (Nat.not_lt_zero _)),J (V.refl _)⟩
           case round=>
            obtain⟨k,hk,rfl,be,G⟩:=hrel;obtain⟨w9,rfl⟩:∃x,x=wr:=⟨wr,rfl⟩;have bn:=(HN _ G.o).2.2.2.2.2.2.2.1;by_cases af:k<b.marks.length;rotate_left
            .have an:k=b.marks.length:=U;subst an;have bx:=J (U9 (b:=b) (JQ ag.o) be.o);clear be af hk;replace H:=H.o.e G.o;replace u:=u.o.e G.o;replace z:=z.o.t G.o;clear HN G;have HN:=u.o.n9;simp only[N9] at HN;go_wp2;go_loopw [8] (λi wr=>∃k:Nat,k<=b.fls.length/\i=I k/\O (FlUp b.st b.fls k)/\O (V w9 wr)) (λi _=>b.fls.length - (intOf i).toNat)
             case atStart=>exact⟨0,zO _,rfl,J (λi m hi=>absurd hi (Nat.not_lt_zero _)),J (V.refl _)⟩
             case round=>
              clear bn;obtain⟨k,hk,rfl,au,G⟩:=hrel;obtain⟨wB,rfl⟩:∃x,x=wr:=⟨wr,rfl⟩;have ca:=(HN _ G.o).2.2.2.2.2.2.2.2;by_cases af:k<b.fls.length;rotate_left
              .have an:k=b.fls.length:=U;subst an;have bt:=J (Yy (b:=b) au.o);have F:O (AM b.st=true):=J (Cm.2 ⟨HI.o,ag.o,by simp only[BM.st];omega,by simp only[BM.st];omega,av.o.1,av.o.2,by rw[show b.st.log=b.log from rfl,show b.st.self=b.self from rfl,b0.o];simp only[BM.st];omega,by simp only[BM.st];omega,by simp only[BM.st];omega,by simp only[BM.st];omega,by rw[b2.o];exact cg.o,HT.o,ay.o.1,by rcases ay.o.2 with k|k;exact .inl (by rw[show b.st.fls=b.fls.map FlM.v from rfl,k];rfl);exact .inr k,bx.o.1,bx.o.2,bt.o.1,bt.o.2⟩);clear au af hk;go_wp2;go_ret;exact⟨AC F.o.symm,z.o.trans G.o⟩
              obtain⟨mb,mo,f,hA,hm,ar,HM⟩:=Rm (H.o.r.fls.ext G.o) af;have ba:=H.o.f.fl f (zX HM.o);obtain⟨fm,fb,fA,fc,fl⟩:=f;simp only at hm ar ba;have bd:=J ba.2;have am:=ba.1;clear ba;rw[hA] at ca;go_upto_region 24 with fail;clear ca;have HX:=H.o.e G.o;replace HN:=λw' (x:V wB w')=>HN w' (G.o.trans x);simp only[hA] at HN;have XX:=z.o.t G.o;by_cases hz:k=0
              .have bp:decide ((0:Int)<(k:Int))=false:=decide_eq_false U;have br:decide (0<k)=false:=decide_eq_false U;have ai:O (∀j a,k=j+1->b.fls[j]?=some a->FlM.m a<fm):=J (λj a h=>by omega);clear hz;refine eD 28 (V.refl _) λD=>?_;refine ej 0 ?_;refine ei 4 ?_;cases hpo:(AQ fm&&Bh (vws b.vs) (fm,fb,fl)) with
               | false=>
                as_aux_lemma=>
                 exact RB
               | true=>
                have ae:=J hpo;clear hpo;refine eO 6 D (ae.o▸Hx b ⟨fm,fb,fA,fc,fl⟩ _ (HX.o.ext D) (ar.o.ext D) am bd.o) λu6 D=>?_;refine eh 7 ?_;refine eu 8 false ?_;refine ei 9 ?_;refine eu 11 false ?_;refine et 12 ?_;refine em 20 ?_;refine el 24 ?_;refine eh 26 ?_;refine eu 27 false ?_;refine eA ?_;have az:O (FlUp b.st b.fls (k+1)):=J (au.o.succ HM.o ae.o ai.o);exact Ru
              obtain⟨j,hj⟩:∃j,k=j+1:=⟨k - 1,U⟩;have bq:0<k:=U;have bp:decide ((0:Int)<(k:Int))=true:=decide_eq_true U;have br:decide (0<k)=true:=decide_eq_true bq;have cr:IntKind.i64.wrap ((k:Int) - 1)=(j:Int):=by rw[IntWalk.i64_in _ U];omega
              have m1:(0:Int)<=(j:Int):=U;have m2:(j:Int)<(b.fls.length:Int):=U;have m3:j<b.fls.length:=U;obtain⟨cu,cw,fp,ah,hp,_,ak⟩:=Rm HX.o.r.fls m3;obtain⟨pm,pb,pA,pc,pl⟩:=fp;rw[hA] at ah;simp only[zJ,Addr.mk.injEq,and_true] at ah;obtain⟨rfl,rfl⟩:=ah;simp only at hp;have HJ:=J hj;clear hj hz;refine eD 28 (V.refl _) λD=>?_;refine ej 0 ?_;refine ei 4 ?_;cases hpo:(AQ fm&&Bh (vws b.vs) (fm,fb,fl)) with
              | false=>
               as_aux_lemma=>
                exact RB
              | true=>
               have ae:=J hpo;clear hpo;refine eO 6 D (ae.o▸Hx b ⟨fm,fb,fA,fc,fl⟩ _ (HX.o.ext D) (ar.o.ext D) am bd.o) λu6 D=>?_;refine eh 7 ?_;refine eu 8 false ?_;refine ei 9 ?_;refine eu 11 true ?_;refine ej 12 ?_;refine ej 16 ?_;refine ej 20 ?_;refine eh 24 ?_;by_cases ao:fm<=pm
               .as_aux_lemma=>
                 have d4:decide (fm<=pm)=true:=decide_eq_true ao;have F:O (AM b.st=false):=J (Cp (λh=>by have e:b.st.fls=b.fls.map FlM.v:=rfl;have:=Oq h.fla (i:=j) (a:=pm) (b:=fm) (by rw[zM,e,zM,ak.o];rfl) (by rw[zM,e,zM,<-HJ.o,HM.o];rfl);omega));refine ei 25 ?_;refine eu 27 true ?_;refine eA ?_;go_wp2;go_ret;exact⟨AC F.o.symm,XX.o.trans D⟩
               have d4:decide (fm<=pm)=false:=decide_eq_false ao;have ai:O (∀j a,k=j+1->b.fls[j]?=some a->FlM.m a<fm):=J (λj2 a h2 ha=>by
                have e:j2=j:=by have:=HJ.o;omega
                subst e;rw[ak.o] at ha;cases ha;simp only;omega)
               refine ei 25 ?_;refine eu 27 false ?_;refine eA ?_;have az:O (FlUp b.st b.fls (k+1)):=J (au.o.succ HM.o ae.o ai.o);exact Ru
            obtain⟨mb,mo,m,hA,hm,HM⟩:=Pw (H.o.r.marks.ext G.o) af;obtain⟨ma,ml⟩:=m;simp only at hm;obtain⟨cp,bk⟩:=hm _ (V.refl _);have bz:=J hm;clear hm;rw[hA] at bn;go_upto_region 19 with fail;have ce:O (BIs (w9.alloc (.cells #[I ma,I ml] 123)) w9.heap.size #[I ma,I ml] 123):=J (BIs.new _ _ _);replace G:=G.o.t (V.new w9 (.cells #[I ma,I ml] 123));replace bz:=J (λw' (x:V (w9.alloc (.cells #[I ma,I ml] 123)) w')=>bz.o w' ((V.new _ _).trans x));clear bn cp bk;generalize (w9.alloc (.cells #[I ma,I ml] 123))=wA at *;generalize w9.heap.size=rm at *;have HV:=ce.o.n2;have HX:=H.o.e G.o;replace HN:=λw' (x:V wA w')=>HN w' (G.o.trans x);simp only[hA] at HN;have XX:=z.o.t G.o;have cx:=DJ;by_cases hz:k=0
            .have bp:decide ((0:Int)<(k:Int))=false:=decide_eq_false U;have br:decide (0<k)=false:=decide_eq_false U;have ai:O (∀j a,k=j+1->b.st.marks[j]?=some a->a.1<ma):=J (λj a h=>by omega);have HZ:=J hz;clear hz;refine eD 43 (V.refl _) λD=>?_;refine ej 0 ?_;by_cases aj:ma=b.self
             .as_aux_lemma=>
               exact Rw
             have d1:(ma == b.self)=false:=by simpa using aj
             refine eh 4 ?_;refine eu 5 false ?_;refine eh 6 ?_;refine ei 9 ?_;refine eM 7 (Cb b _ (HX.o.r.ext D) ab H.o.f tn ts ax.o) ?_;rintro _ u7 ⟨A5,c5,rfl,_,_,HR,hx⟩;refine⟨_,rfl,D.trans hx,λD=>?_⟩;refine eh 8 ?_;cases y:AG ts ma with
             | false=>
              as_aux_lemma=>
               exact RY
             | true=>
              have HC:=J y;clear y;refine eN 11 (HC.o▸De A5 c5 ts ma _ HR.o U) ?_;refine eh 12 ?_;refine eu 13 false ?_;refine eu 14 false ?_;refine ei 15 ?_;refine eu 17 false ?_;refine et 18 ?_;refine el 26 ?_;refine eh 28 ?_;refine eu 29 false ?_;refine eu 30 false ?_;refine ei 31 ?_;by_cases h1:ml<0
              .as_aux_lemma=>
                exact RO
              exact RQ
            obtain⟨j,hj⟩:∃j,k=j+1:=⟨k - 1,U⟩;have bq:0<k:=U;have bp:decide ((0:Int)<(k:Int))=true:=decide_eq_true U;have br:decide (0<k)=true:=decide_eq_true bq;have cr:IntKind.i64.wrap ((k:Int) - 1)=(j:Int):=by rw[IntWalk.i64_in _ U];omega
            have m1:(0:Int)<=(j:Int):=U;have m2:(j:Int)<(b.marks.length:Int):=U;have m3:j<b.marks.length:=U;obtain⟨cu,cw,mp,ah,hp,ak⟩:=Pw (HX.o.r.marks) m3;obtain⟨pa,pl⟩:=mp;rw[hA] at ah;simp only[zJ,Addr.mk.injEq,and_true] at ah;obtain⟨rfl,rfl⟩:=ah;simp only at hp;have HJ:=J hj;clear hj hz;refine eD 43 (V.refl _) λD=>?_;refine ej 0 ?_;by_cases aj:ma=b.self
            .as_aux_lemma=>
              exact Rw
            have d1:(ma == b.self)=false:=by simpa using aj
            refine eh 4 ?_;refine eu 5 false ?_;refine eh 6 ?_;refine ei 9 ?_;refine eM 7 (Cb b _ (HX.o.r.ext D) ab H.o.f tn ts ax.o) ?_;rintro _ u7 ⟨A5,c5,rfl,_,_,HR,hx⟩;refine⟨_,rfl,D.trans hx,λD=>?_⟩;refine eh 8 ?_;cases y:AG ts ma with
            | false=>
             as_aux_lemma=>
              exact RY
            | true=>
             have HC:=J y;clear y;refine eN 11 (HC.o▸De A5 c5 ts ma _ HR.o U) ?_;refine eh 12 ?_;refine eu 13 false ?_;refine eu 14 false ?_;refine ei 15 ?_;refine eu 17 true ?_;refine ej 18 ?_;refine ej 22 ?_;refine eh 26 ?_;by_cases ao:ma<=pa
             .as_aux_lemma=>
               have d4:decide (ma<=pa)=true:=decide_eq_true ao;have F:O (AM b.st=false):=J (Cp (λh=>by have:=Oq h.mka (i:=j) (a:=pa) (b:=ma) (by rw[zM,show b.st.marks=b.marks from rfl,ak.o];rfl) (by rw[zM,show b.st.marks=b.marks from rfl,<-HJ.o,HM.o];rfl);omega));refine ei 27 ?_;refine eu 29 true ?_;refine eu 30 true ?_;refine el 31 ?_;refine ek 33 ?_;refine eu 34 true ?_;refine eu 35 true ?_;refine em 36 ?_;refine el 40 ?_;refine eu 42 true ?_;refine eA ?_;go_wp2;go_ret;exact⟨AC F.o.symm,XX.o.trans D⟩
             have d4:decide (ma<=pa)=false:=decide_eq_false ao;have ai:O (∀j a,k=j+1->b.st.marks[j]?=some a->a.1<ma):=J (λj2 a h2 ha=>by
              have e:j2=j:=by have:=HJ.o;omega
              subst e;have e2:a=(pa,pl):=by rw[show b.st.marks=b.marks from rfl,ak.o] at ha;cases ha;rfl
              rw[e2];simp only;omega)
             refine ei 27 ?_;refine eu 29 false ?_;refine eu 30 false ?_;refine ei 31 ?_;by_cases h1:ml<0
             .as_aux_lemma=>
               exact RO
             exact RQ
end Go.Proofs.YtponbabbabnaeaaGreat
