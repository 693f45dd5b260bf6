/- Part 25: contracts of functions. Conditions: as each theorem says. -/
import Derived.Test.YtponbabbabnaeaaGreatQh24
set_option maxRecDepth 100000
set_option maxHeartbeats 40000000
set_option linter.unusedVariables false
namespace Go.Proofs.YtponbabbabnaeaaGreat
open Proofs.Tryz
def AY(s:St)(m:Int):Int:=if m=s.self then (s.log.length:Int) else (B9 s.marks m).getD 0
def GD(s:St)(ms:List Int)(m:Int):Nat:=ms.countP λk=>decide (AY s m<=AY s k)
def Dl(s:St)(ms:List Int)(b:Int)(m:Int):Int:=if Bs ms.length<=(GD s ms m:Int) then max b (AY s m) else b
def Cv(s:St)(ms:List Int):Int:=ms.foldl (Dl s ms) 0
theorem Jb(s:St)(j:List Int):∀(l:List Int) (b:Int),(b<=l.foldl (Dl s j) b)/\(∀m∈l,Bs j.length<=(GD s j m:Int)->AY s m<=l.foldl (Dl s j) b)/\
  (l.foldl (Dl s j) b=b\/∃m∈l,Bs j.length<=(GD s j m:Int)/\l.foldl (Dl s j) b=AY s m)
 | [],b=>by simp
 | x::l,b=>by
  obtain⟨F,D,q⟩:=Jb s j l (Dl s j b x);have G:b<=Dl s j b x:=by unfold Dl;split<;>omega
  have K:Bs j.length<=(GD s j x:Int)->AY s x<=Dl s j b x:=by intro h;unfold Dl;rw[if_pos h];omega
  have y:Dl s j b x=b\/(Bs j.length<=(GD s j x:Int)/\Dl s j b x=AY s x):=by
   unfold Dl;split
   .next h=>
    rcases Int.le_total b (AY s x) with h7|h7
    .right;exact⟨h,U⟩
    .left;omega
   .left;rfl
  refine⟨Int.le_trans G F,λm z u=>?_,?_⟩
  .rcases zC.1 z with rfl|z
   .exact Int.le_trans (K u) F
   .exact D m z u
  .rcases q with q|⟨m,z,u,q⟩
   .rcases y with y|⟨u,y⟩
    .left;rw[List.foldl_cons,q,y]
    .right;exact⟨x,zj,u,by rw[List.foldl_cons,q,y]⟩
   .right;exact⟨m,by simp[z],u,q⟩
theorem Ng{n:Int}{xs:List Int}(h:AK n xs=true):xs.Pairwise (·<·):=((DM (m:=16)).1 (Ei h)).2.2.1
theorem Qs{α:Type}{p:α->Bool}:∀(l:List α) {k:Nat} (_:k=(l.takeWhile p).length) (j:k<l.length),p l[k]=false
 | x::l,k,h,j=>by
  by_cases q:p x=true
  .rw[List.takeWhile_cons,if_pos q,zK] at h;subst h;exact Qs l rfl (by simpa using j)
  .rw[List.takeWhile_cons,if_neg q] at h;subst h;simpa using q
theorem Rj{α:Type}{p:α->Bool}:∀(l:List α) {j:Nat} (_:j<(l.takeWhile p).length),∃x,l[j]?=some x/\p x=true
 | [],j,h=>by simp at h
 | x::l,j,h=>by
  by_cases q:p x=true
  .rw[List.takeWhile_cons,if_pos q,zK] at h
   match j with
   | 0=>exact⟨x,rfl,q⟩
   | j+1=>exact Rj l U
  .rw[List.takeWhile_cons,if_neg q] at h;simp at h
theorem NX{l k:List Int}(q:l.Nodup)(j:k.Nodup)(h:∀x,x∈l↔x∈k):l.length=k.length:=
 ((List.perm_ext_iff_of_nodup q j).2 h).length_eq
theorem GP{l:List Int}(h:l.Pairwise (·<·)):l.Nodup:=h.imp (λh e=>by omega)
theorem La{l:List (Int×Int)}(h:(l.map Prod.fst).Nodup){m:Int×Int}(j:m∈l):B9 l m.1=some m.2:=by
 induction l with
 | nil=>cases j
 | cons x l q=>
  simp only[List.map_cons,List.nodup_cons,List.mem_map,not_exists,not_and] at h;unfold B9;rw[List.find?_cons];rcases zC.1 j with rfl|j
  .simp
  .have:(x.1 == m.1)=false:=by simp only[beq_eq_false_iff_ne];intro e;exact h.1 m j e.symm
   rw[this];exact q h.2 j
theorem Ig{l:List (Int×Int)}{k n:Int}(h:B9 l k=some n):(k,n)∈l:=by
 unfold B9 at h;obtain⟨x,q,rfl⟩:=Option.map_eq_some_iff.1 h;have F:=List.mem_of_find?_eq_some q;have j:=List.find?_some q;simp only[beq_iff_eq] at j;rw[<-j];exact F
theorem N6{s:St}(h:VS s)(hl:AE s=true){F:List Int}(y:F=(Ar s.views).2){a:Int}(ha:0<a) :
  (F.countP λk=>decide (a<=AY s k))=(BO s).countP λx=>decide (a<=x):=by
 have z:s.self∈F:=by rw[y,<-E7];exact h.lead_has hl
 have K:F.Nodup:=by rw[y];exact GP (Ng h.last)
 have R:(s.marks.map Prod.fst).Nodup:=GP h.mka.1;have Q:s.self∉s.marks.map Prod.fst:=by
  intro W;obtain⟨m,u,X⟩:=List.mem_map.1 W;exact(h.mks m u).1 X
 have G:(s.self::s.marks.map Prod.fst).Nodup:=List.nodup_cons.2 ⟨Q,R⟩;have T:BO s=(s.self::s.marks.map Prod.fst).map (AY s):=by
  unfold BO;rw[List.map_cons,List.map_map];congr 1
  .unfold AY;rw[if_pos rfl]
  .refine List.map_congr_left λm u=>?_;show m.2=AY s m.1;unfold AY;rw[if_neg (h.mks m u).1,La R u];rfl
 rw[T,List.countP_map,List.countP_eq_length_filter,List.countP_eq_length_filter];refine NX (K.filter _) (G.filter _) λx=>?_;simp only[List.mem_filter,zE,Function.comp];constructor
 .rintro⟨q,j⟩;refine⟨?_,j⟩;by_cases D:x=s.self
  .rw[D];simp
  .unfold AY at j;rw[if_neg D] at j;cases u:B9 s.marks x with
   | none=>rw[u] at j;simp at j;omega
   | some n=>have:=Ig u;simp only[zC,List.mem_map];right;exact⟨_,this,rfl⟩
 .rintro⟨q,j⟩;refine⟨?_,j⟩;rcases zC.1 q with rfl|q
  .exact z
  .obtain⟨m,u,rfl⟩:=List.mem_map.1 q;rw[y,<-E7];exact(h.mks m u).2.1
theorem Wk{l:List Int}{k:Nat}{y:Int}(D:k<=l.length)(hy:(Cr l)[l.length - k]?=some y):k<=l.countP (λx=>decide (y<=x)):=by
 rw[(F8 l).symm.countP_eq];have F:((Cr l).drop (l.length - k)).countP (λx=>decide (y<=x))=k:=by
  rw[List.countP_eq_length.2,zD,GO]
  .omega
  .intro x q;obtain⟨j,u,rfl⟩:=List.mem_iff_getElem.1 q;rw[List.getElem_drop];obtain⟨h,rfl⟩:=zZ hy;rw[zD] at u;simp only[zE];rcases Nat.eq_zero_or_pos j with h0|h0
   .subst h0;exact Int.le_refl _
   .exact List.pairwise_iff_getElem.1 (JO l) _ _ h U U
 have z:=List.Sublist.countP_le (p:=λx=>decide (y<=x)) (List.drop_sublist (l.length - k) (Cr l));omega
theorem XJ{l:List Int}{k:Nat}{x y:Int}(K:0<k)(W:k<=l.length)(hy:(Cr l)[l.length - k]?=some y)(D:k<=l.countP λz=>decide (x<=z)):x<=y:=by
 rw[(F8 l).symm.countP_eq] at D;refine Int.not_lt.1 λQ=>?_;obtain⟨u,h⟩:=zZ hy;have F:Cr l=(Cr l).take (l.length - k+1)++(Cr l).drop (l.length - k+1):=(List.take_append_drop _ _).symm;rw[F,List.countP_append] at D;have T:((Cr l).take (l.length - k+1)).countP (λz=>decide (x<=z))=0:=by
  rw[List.countP_eq_zero];intro z R;obtain⟨j,G,rfl⟩:=List.mem_iff_getElem.1 R;rw[zT] at G;rw[List.getElem_take];have:(Cr l)[j]'(by omega)<=y:=by
   rcases Nat.lt_or_ge j (l.length - k) with q|q
   .rw[<-h];exact List.pairwise_iff_getElem.1 (JO l) _ _ U u q
   .have:j=l.length - k:=U;subst this;rw[h];exact Int.le_refl _
  simp only[zE];omega
 have q:=List.countP_le_length (p:=λz=>decide (x<=z)) (l:=(Cr l).drop (l.length - k+1));rw[zD,GO] at q;omega
theorem Nd{c:Cs}{n:Int}(h:n<=c.s.stable):Be c n=c:=by unfold Be;rw[if_pos h]
theorem JM{s:St}(h:VS s)(hl:AE s=true)(pk:List (Int×List UInt8))(dl:List Ent):Cf ⟨s,pk,dl⟩=Be ⟨s,pk,dl⟩ (Cv s (Ar s.views).2):=by
 obtain⟨u,z⟩:∃u,u=(Ar s.views).2:=⟨_,rfl⟩;have af:=h.st0;have aa:=Dk h.last;rw[<-z] at aa;have ae:1<=Bs u.length/\Bs u.length=((Bs u.length).toNat:Nat):=by unfold Bs;rw[if_pos U];omega
 obtain⟨T,ad⟩:∃T,T=(Bs u.length).toNat:=⟨_,rfl⟩;obtain⟨f1,f2,R⟩:=Jb s u u 0;have Q:∀m,0<AY s m->GD s u m=(BO s).countP λx=>decide (AY s m<=x):=λm D=>N6 h hl z D;unfold Cf;rw[<-z];show (if ((BO s).length:Int)<Bs u.length then _ else _)=_;split
 .next W=>
  rw[Nd];show Cv s u<=s.stable;unfold Cv;rcases R with R|⟨m,D,hc,R⟩
  .omega
  .refine Int.not_lt.1 λq=>?_;have F:=Q m U;have h2:=List.countP_le_length (p:=λx=>decide (AY s m<=x)) (l:=BO s);omega
 .next hge=>
  have K:T<=(BO s).length:=U;have G:(((BO s).length:Int) - Bs u.length).toNat=(BO s).length - T:=U;show Be _ (((Cr (BO s))[(((BO s).length:Int) - Bs u.length).toNat]?).getD 0)=_;rw[G];have W:(BO s).length - T<(Cr (BO s)).length:=by rw[GO];omega
  obtain⟨y,hy⟩:∃y,(Cr (BO s))[(BO s).length - T]?=some y:=⟨_,zY W⟩;rw[hy,Option.getD_some];congr 1;have j:y∈BO s:=(F8 _).mem_iff.1 (zX hy);have ab:0<=y:=by
   unfold BO at j;rcases zC.1 j with rfl|j
   .omega
   .obtain⟨m,D,rfl⟩:=List.mem_map.1 j;exact(h.mks m D).2.2.1
  have ac:=Wk K hy;refine Int.le_antisymm ?_ ?_
  .rcases Int.lt_or_eq_of_le ab with hp|hp
   .have:=N6 h hl z hp;have h9:0<(u.countP λk=>decide (y<=AY s k)):=U
    -- y is the length of some member
    have X:∃m∈u,AY s m=y:=by
     unfold BO at j;rcases zC.1 j with rfl|j
     .exact⟨s.self,by rw[z,<-E7];exact h.lead_has hl,by unfold AY;rw[if_pos rfl]⟩
     .obtain⟨m,D,rfl⟩:=List.mem_map.1 j;refine⟨m.1,by rw[z,<-E7];exact(h.mks m D).2.1,?_⟩;unfold AY;rw[if_neg (h.mks m D).1,La (GP h.mka.1) D];rfl
    obtain⟨m,D,he⟩:=X;have h5:=Q m U;rw[he] at h5;have:=f2 m D U;unfold Cv;omega
   .unfold Cv;omega
  .unfold Cv;rcases R with R|⟨m,D,hc,R⟩
   .omega
   .refine Int.not_lt.1 λq=>?_;have h5:=Q m U;have:=XJ U K hy (x:=AY s m) U;omega
def Bk{α:Type}(key:α->Int)(x:α)(a:List α×Bool)(g:α):List α×Bool:=
 (a.1++(if a.2=false/\key x<=key g then [x] else [])++(if key g≠key x then [g] else []),a.2||decide (key x<=key g))
def En{α:Type}(y:α)(a:List α×Bool):List α:=if a.2 then a.1 else a.1++[y]
theorem KY{α:Type}(j:α->Int)(x y:α):∀(l out:List α),(∀g∈l,j x<j g)->En y (l.foldl (Bk j x) (out,true))=out++l
 | [],out,_=>by simp[En]
 | g::l,out,h=>by
  have F:=h g zj;rw[List.foldl_cons];have:Bk j x (out,true) g=(out++[g],true):=by unfold Bk;simp[show j g≠j x by omega]
  rw[this,KY j x y l _ (λg q=>h g (by simp[q])),List.append_assoc];rfl
theorem KT{α:Type}(j:α->Int)(x y:α):∀(l out:List α),(l.map j).Pairwise (·<·)->En y (l.foldl (Bk j x) (out,false)) =
  out++(if ((l[(l.takeWhile λg=>decide (j g<j x)).length]?).map j)=some (j x) then l.set (l.takeWhile λg=>decide (j g<j x)).length x
   else if (l.takeWhile λg=>decide (j g<j x)).length<l.length then l.take (l.takeWhile λg=>decide (j g<j x)).length++x::l.drop (l.takeWhile λg=>decide (j g<j x)).length else l++[y])
 | [],out,_=>by simp[En]
 | g::l,out,h=>by
  simp only[List.map_cons,List.pairwise_cons,List.mem_map,forall_exists_index,and_imp,forall_apply_eq_imp_iff₂] at h;rw[List.foldl_cons];by_cases u:j g<j x
  .have q:Bk j x (out,false) g=(out++[g],false):=by
    unfold Bk;simp[show ¬j x<=j g by omega,show j g≠j x by omega]
   rw[q,KT j x y l _ h.2];simp only[List.takeWhile_cons,u,decide_true,if_true,zK,List.getElem?_cons_succ,List.set_cons_succ,List.take_succ_cons,List.drop_succ_cons,Nat.add_lt_add_iff_right];rw[List.append_assoc];congr 1;split
   .rfl
   .split<;>rfl
  .by_cases D:j g=j x
   .have q:Bk j x (out,false) g=(out++[x],true):=by
     unfold Bk;simp[D]
    rw[q,KY j x y l _ (λz F=>by have:=h.1 z F;omega)];simp[D]
   .have q:Bk j x (out,false) g=(out++[x]++[g],true):=by
     unfold Bk;simp[show j x<=j g by omega,D]
    rw[q,KY j x y l _ (λz F=>by have:=h.1 z F;omega)];simp[u,D]
def Rq(l:List Fls)(f:Fls):List Fls:=En f (l.foldl (Bk Prod.fst f) ([],false))
theorem PW{l:List Fls}(f:Fls)(h:(l.map Prod.fst).Pairwise (·<·)):Rq l f=Bz l f:=by
 unfold Rq;rw[KT Prod.fst f f l [] h,List.nil_append];unfold Bz ED;split
 .rfl
 .split
  .rfl
  .next h2=>
   have:(l.takeWhile λg=>decide (g.1<f.1)).length=l.length:=Nat.le_antisymm (List.takeWhile_prefix _).length_le (Nat.not_lt.1 h2);rw[this,List.take_length,List.drop_length]
def LE(s:St)(fr n:Int):List (Int×Int):=En (fr,n) (s.marks.foldl (Bk Prod.fst (fr,max n (AY s fr))) ([],false))
theorem Wv{s:St}(h:VS s){u n:Int}(hf:u≠s.self)(hn:0<=n):LE s u n=CF s.marks u n:=by
 unfold LE;have hk:=h.mka.1;have ab:=GP hk;rw[KT Prod.fst (u,max n (AY s u)) (u,n) s.marks [] hk,List.nil_append];unfold CF Dx;show (if ((s.marks[(s.marks.takeWhile λx=>decide (x.1<u)).length]?).map Prod.fst)=some u then s.marks.set (s.marks.takeWhile λx=>decide (x.1<u)).length (u,max n (AY s u)) else if (s.marks.takeWhile λx=>decide (x.1<u)).length<s.marks.length then s.marks.take (s.marks.takeWhile λx=>decide (x.1<u)).length++(u,max n (AY s u))::s.marks.drop (s.marks.takeWhile λx=>decide (x.1<u)).length else s.marks++[(u,n)])=_;obtain⟨k,D⟩:∃k,k=(s.marks.takeWhile λx=>decide (x.1<u)).length:=⟨_,rfl⟩;rw[<-D];cases hm:s.marks[k]? with
 | none=>
  have:¬k<s.marks.length:=by have:=List.getElem?_eq_none_iff.1 hm;omega
  simp only[Option.map_none,reduceCtorEq,if_false,this];rw[Int.max_eq_right hn]
 | some m=>
  obtain⟨a,b⟩:=m;have K:k<s.marks.length:=(zZ hm).1;simp only[Option.map_some,zJ,K,if_true];by_cases ha:a=u
  .subst ha;have F:AY s a=b:=by unfold AY;rw[if_neg hf,La ab (zX hm)];rfl
   rw[if_pos rfl,if_pos rfl,F,Int.max_comm]
  .rw[if_neg ha,if_neg ha];have F:AY s u=0:=by
    unfold AY;rw[if_neg hf];cases q:B9 s.marks u with
    | none=>rfl
    | some z=>
     exfalso
     -- a mark of u lies at the Gz where the lesser ones end
     obtain⟨j,T,y⟩:=List.mem_iff_getElem.1 (Ig q);have hp:∀(i j:Nat) (G:i<s.marks.length) (T:j<s.marks.length),i<j->(s.marks[i]).1<(s.marks[j]).1:=λi j G T aa=>by
      have:=List.pairwise_iff_getElem.1 hk i j (by simpa using G) (by simpa using T) aa;simpa using this
     have R:¬(s.marks[k]).1<u:=by
      intro hc;have h2:=Qs s.marks (p:=λx=>decide (x.1<u)) D K;simp[hc] at h2
     have Q:s.marks[k]=(a,b):=(zZ hm).2;rw[Q] at R;simp only at R;rcases Nat.lt_trichotomy j k with h3|h3|h3
     .obtain⟨x,W,X⟩:=Rj (p:=λx=>decide (x.1<u)) s.marks (D▸h3);rw[zY T] at W;cases W;rw[y] at X;simp at X
     .subst h3;rw[Q] at y;cases y;exact ha rfl
     .have:=hp k j K T h3;rw[Q,y] at this;simp only at this;omega
   rw[F,Int.max_eq_left hn,Int.max_eq_right hn]
open Go.RowKit
theorem RX{P:Prop}(h:P:=by
 have aa:O (∀i y,i<k+1->u[i]?=some y->y.1≠mb):=J (λi y G hy=>by
  rcases Nat.lt_or_ge i k with F|F
  .exact Q.o i y F hy
  .have:i=k:=U;subst this;rw[HE.o] at hy;cases hy;exact q)
 have hd:(x.1 == mb)=false:=by simpa using q
 clear q;go_wp2;go_roundw
 case rel=>exact⟨k+1,U,by go_num,aa,j⟩
 case measure=>simp[intOf];omega):P:=h
theorem EW(b:BM)(w:World)(h:b.Reads w)(G:0<b.vs.length)(F:b.Fits) :
  Calls prog 67 #[.agg b.cells] w λe w'=>e=.returned (.bool (!AD b.st&&AE b.st))/\V w w':=by
 have X:=(BIs.new w b.cells 28).n9;have H:=J h;have HF:=J F;have y:=Eu F.vx;obtain⟨⟨n,xs⟩,D⟩:∃v,Ar (vws b.vs)=v:=⟨_,rfl⟩;have R:=J D;rw[D] at y;obtain⟨Q,u⟩:∃s,AZ (n,xs)=s:=⟨_,rfl⟩;have T:=J u;have HO:O (AE b.st=decide (Q=b.self)):=J (by show decide (AZ (Ar (vws b.vs))=b.self)=_;rw[D,u]);have z:O (xs.length<=9223372036854775807):=J (by simp only at y;omega);clear h F D u y;cases ho:AD b.st with
 | true=>
  have j:=J ho;clear ho;go_enter func67,ntmps67;go_upto_region 1 with fail;refine eD 12 (V.refl _) λK=>?_;refine ea 0 ?_;refine eG 1 K (j.o▸D5 b _ (H.o.ext ((V.new _ _).trans K)) G HF.o) λv K=>?_;refine eb 2 ?_;refine ef 4 ?_;refine ee 8 ?_;refine eb 10 ?_;refine eA ?_;go_wp2;go_ret;exact⟨rfl,(V.new _ _).trans K⟩
 | false=>
  have j:=J ho;clear ho;go_enter func67,ntmps67;go_upto_region 1 with fail;refine eD 12 (V.refl _) λK=>?_;refine ea 0 ?_;refine eG 1 K (j.o▸D5 b _ (H.o.ext ((V.new _ _).trans K)) G HF.o) λv K=>?_;refine eb 2 ?_;refine ea 4 ?_;refine eb 7 ?_;refine eE 5 (Cb b _ (H.o.ext ((V.new _ _).trans K)) G HF.o n xs R.o) ?_;rintro _ v ⟨A,c,rfl,_,_,W,q⟩;refine⟨_,rfl,K.trans q,λK=>?_⟩;refine eG 6 K (EG n A c xs _ W.o z.o Q T.o) λv K=>?_;refine eb 9 ?_;refine ea 11 ?_;refine eA ?_;go_wp2;go_ret;exact⟨AC (by rw[HO.o,Bool.eq_iff_iff];simp),(V.new _ _).trans K⟩
theorem G9(b:BM)(mb:Int)(w:World)(h:b.Reads w)(hf:b.Fits) :
  Calls prog 62 #[.agg b.cells,I mb] w λe w'=>e=.returned (I (AY b.st mb))/\V w w':=by
 have HN:=(BIs.new w b.cells 28).n9;have HM:=J h.marks;have ab:=hf.marks;have ac:=hf.log;have W:=V.new w (.cells b.cells 28);obtain⟨self,base,stable,z,Av,cv,vs,Al,cl,K,Ap,cp,pend,Am,cm,u,Af,cf,D⟩:=b;simp only at HM ab ac;clear h hf;by_cases R:mb=self
 .have ae:(mb == self)=true:=by simpa using R
  have HS:O (AY (BM.st ⟨self,base,stable,z,Av,cv,vs,Al,cl,K,Ap,cp,pend,Am,cm,u,Af,cf,D⟩) mb=K.length):=J (by unfold AY;rw[if_pos (by exact R)];rfl);clear R;have T:=(HN _ (V.refl _)).1;have q3:=(HN _ (V.refl _)).2.2.2.1;simp only at T q3;go_enter func62,ntmps62;go_wp2;go_ret;exact⟨by rw[HS.o];rfl,W⟩
 have ae:(mb == self)=false:=by simpa using R
 have HS:O (AY (BM.st ⟨self,base,stable,z,Av,cv,vs,Al,cl,K,Ap,cp,pend,Am,cm,u,Af,cf,D⟩) mb=(B9 u mb).getD 0):=J (by unfold AY;rw[if_neg (by exact R)];rfl);clear R;have T:=(HN _ (V.refl _)).1;simp only at T;go_enter func62,ntmps62;go_wp2;go_loopw [5] (λi wr=>∃k:Nat,k<=u.length/\i=I k/\O (∀i y,i<k->u[i]?=some y->y.1≠mb)/\V (w.alloc (.cells (BM.cells ⟨self,base,stable,z,Av,cv,vs,Al,cl,K,Ap,cp,pend,Am,cm,u,Af,cf,D⟩) 28)) wr) (λi _=>u.length - (intOf i).toNat)
 case atStart=>exact⟨0,zO _,rfl,J (λi y G=>absurd G (Nat.not_lt_zero _)),V.refl _⟩
 case round=>
  obtain⟨k,hk,rfl,Q,j⟩:=hrel;have X:=(HN wr j).2.2.2.2.2.2.2.1;simp only at X;by_cases ad:k<u.length
  .obtain⟨bb,af,x,rfl,hb,c0,c1,HE⟩:=Fs ((HM.o.ext W).ext j) ad;by_cases q:x.1=mb
   .have HF:=J (J6 HE.o Q.o q);have hd:(x.1 == mb)=true:=by simpa using q
    clear q;go_wp2;go_ret;exact⟨by rw[HS.o,HF.o];rfl,W.trans j⟩
   .exact RX
  .have HF:=J (Kb (l:=u) (mb:=mb) (λi y G hy=>Q.o i y U hy));go_wp2;go_ret;exact⟨by rw[HS.o,HF.o];rfl,W.trans j⟩
theorem MW(b:BM)(mb:Int)(w:World)(h:b.Reads w)(R:b.Fits) :
  Calls prog 61 #[.agg b.cells,I mb] w λe w'=>e=.returned (.bool (B9 b.marks mb).isSome)/\V w w':=by
 have HN:=(BIs.new w b.cells 28).n9;have HM:=J h.marks;have T:=R.marks;have W:=R.log;have K:=V.new w (.cells b.cells 28);obtain⟨self,base,stable,z,Av,cv,vs,Al,cl,ac,Ap,cp,pend,Am,cm,u,Af,cf,D⟩:=b;simp only at HM T W;clear h R;go_enter func61,ntmps61;go_wp2;go_loopw [5] (λi wr=>∃k:Nat,k<=u.length/\i=I k/\O (∀i y,i<k->u[i]?=some y->y.1≠mb)/\V (w.alloc (.cells (BM.cells ⟨self,base,stable,z,Av,cv,vs,Al,cl,ac,Ap,cp,pend,Am,cm,u,Af,cf,D⟩) 28)) wr) (λi _=>u.length - (intOf i).toNat)
 case atStart=>exact⟨0,zO _,rfl,J (λi y G=>absurd G (Nat.not_lt_zero _)),V.refl _⟩
 case round=>
  obtain⟨k,hk,rfl,Q,j⟩:=hrel;have X:=(HN wr j).2.2.2.2.2.2.2.1;simp only at X;by_cases ab:k<u.length
  .obtain⟨bb,ad,x,rfl,hb,c0,c1,HE⟩:=Fs ((HM.o.ext K).ext j) ab;by_cases q:x.1=mb
   .have HF:=J (J6 HE.o Q.o q);have hd:(x.1 == mb)=true:=by simpa using q
    clear q;go_wp2;go_ret;exact⟨by rw[HF.o];rfl,K.trans j⟩
   .exact RX
  .have HF:=J (Kb (l:=u) (mb:=mb) (λi y G hy=>Q.o i y U hy));go_wp2;go_ret;exact⟨by rw[HF.o];rfl,K.trans j⟩
theorem D1{W:World}{v:Value}{l:List Ent}:∀q∈l,Aa.ok q/\∀r∈Aa.inn q,Row W r.1 r.2/\Apt v r:=λ_ _=>⟨trivial,λr h=>by simp[Aa] at h⟩
theorem KD{W:World}{v:Value}{l:List (List UInt8)}:∀q∈l,AU.ok q/\∀r∈AU.inn q,Row W r.1 r.2/\Apt v r:=λ_ _=>⟨trivial,λr h=>by simp[AU] at h⟩
section
variable {w:World} {b:BM} {N M:Nat} {A:Option Addr} {c:Nat}
theorem BM.Ok.withPend(h:b.Ok w)(st:Int){l:List (List UInt8)}(y:Row w A (AU.cells l))(q:l.length<=100000)(u:∀p∈l,p.length<=1000000)(j:l.length<=c):({b with stable:=st,Ap:=A,cp:=c,pend:=l}:BM).Ok w:=
 ⟨⟨h.r.vs,h.r.log,y,h.r.marks,h.r.fls⟩,⟨h.f.vs,h.f.vx,h.f.log,h.f.lp,q,u,h.f.marks,h.f.fls,h.f.fl,h.f.cl⟩,j⟩
theorem BM.Off.withPend(h:b.Off N M)(st:Int){l:List (List UInt8)}(j:OffR N M A (AU.cells l)):({b with stable:=st,Ap:=A,cp:=c,pend:=l}:BM).Off N M:=⟨h.vs,h.vi,h.log,j,h.marks,h.fls,h.fi⟩
theorem Elem.Own.newAt{α:Type}{E:Elem α}{w:World}{B K k cap:Nat}{A:Option Addr}{l:List α}(h:E.Own w B (.slice A k cap) l)(j:K<=B):NewAt K A (E.cells l):=λp _ q=>by subst q;exact zL j (h.lt p.block rfl).1
end
theorem MB(b:BM)(nI:Int)(w:World)(h:b.Ok w)(bm:0<=b.stable)(hn:nI<=b.log.length)(hp:Aq (Bm b.log b.stable nI) b.self<=b.pend.length) :
  Calls prog 132 #[.agg b.cells,I nI] w (RSd w b (Be ⟨b.st,[],[]⟩ nI).s (Be ⟨b.st,[],[]⟩ nI).dl):=by
 have H:=J h;have ax:=h.f.cl;have au:=h.cp;have bh:=h.f.log;have bi:=h.f.pend;have OF:O (b.Off w.heap.size (w.heap.size+2)):=J (h.r.off (zR _));clear h;have Q:O (V w ((w.alloc (.cells b.cells 28)).alloc (.cells Yq 28))):=J ((V.new _ _).alloc _);have G:O (BIs ((w.alloc (.cells b.cells 28)).alloc (.cells Yq 28)) w.heap.size b.cells 28):=J ((BIs.new _ _ _).ext (V.new _ _));have F:O (BIs ((w.alloc (.cells b.cells 28)).alloc (.cells Yq 28)) (w.heap.size+1) Yq 28):=J (BIs.newAt (w:=w.alloc (.cells b.cells 28)) Yq 28 zj);by_cases ad:nI<=b.stable
 .have HF:=J (Nd (c:=⟨b.st,[],[]⟩) ad);replace H:=H.o.e Q.o;go_enter func132,ntmps132;go_upto_region 1 with fail;generalize ((w.alloc (.cells b.cells 28)).alloc (.cells Yq 28))=u1 at *;obtain⟨self,base,stable,z,Av,cv,vs,K,y,j,Ap,cp,pend,Am,cm,u,Af,cf,D⟩:=b;simp only at ad;unfold BM.cells at G;obtain⟨T,q1,q2,q3,q4,q5,q6,X,q8⟩:=nine G.o;obtain⟨z0,z1,z2,z3,z4,z5,z6,z7,z8⟩:=F.o.free9;obtain⟨k0,k1,k2,k3,k4,k5,k6,k7,k8⟩:=nine F.o;have bn:decide (nI<=stable)=true:=decide_eq_true ad;go_wp2;rw[HF.o];generalize R:(((((((((u1.setCell (Pv w 0) (I self)).setCell (Pv w 1) (.slice Av vs.length cv)).setCell (Pv w 2) (I base)).setCell (Pv w 3) (.slice K j.length y)).setCell (Pv w 4) (I stable)).setCell (Pv w 5) (I z)).setCell (Pv w 6) (.slice Ap pend.length cp)).setCell (Pv w 7) (.slice Am u.length cm)).setCell (Pv w 8) (.slice Af D.length cf))=wz at *;have WQ:O (Lit w.heap.size (w.heap.size+2) u1 wz):=(by subst R;exact J (Lit.wrote (p:=w.heap.size+1) AS U U));have BN:O (BIs wz (w.heap.size+1) #[I self,.slice Av vs.length cv,I base,.slice K j.length y,I stable,I z,.slice Ap pend.length cp,.slice Am u.length cm,.slice Af D.length cf] 28):=(by subst R;exact J (Ba F.o));clear F z0 z1 z2 z3 z4 z5 z6 z7 z8 k0 k1 k2 k3 k4 k5 k6 k7 k8;clear R;obtain⟨n0,n1,n2,n3,n4,n5,n6,n7,n8⟩:=nine BN.o;refine bodyPost_ret (v:=.tuple #[.agg #[I self,.slice Av vs.length cv,I base,.slice K j.length y,I stable,I z,.slice Ap pend.length cp,.slice Am u.length cm,.slice Af D.length cf],Zq]) (by simp[results,results132,go_sem,n0,n1,n2,n3,n4,n5,n6,n7,n8]) rfl ?_;exact⟨⟨self,base,stable,z,Av,cv,vs,K,y,j,Ap,cp,pend,Am,cm,u,Af,cf,D⟩,none,0,rfl,zR _,zO _,rfl,H.o.lit OF.o WQ.o,Row.nil _ _,λ_ h=>absurd rfl h,WQ.o.ext Q.o (zR _),λN M _ h=>h⟩
 obtain⟨st,aa⟩:∃st:Nat,b.stable=(st:Int):=⟨b.stable.toNat,U⟩;obtain⟨n,rfl⟩:∃n:Nat,nI=(n:Int):=⟨nI.toNat,U⟩;have HF:O (Be ⟨b.st,[],[]⟩ (n:Int)=⟨{b.st with pend:=b.pend.drop (Aq ((b.log.take n).drop st) b.self),stable:=n},[],(b.log.take n).drop st⟩):=J (by
 unfold Be;rw[if_neg (by simpa[BM.st] using ad)];simp[BM.st,Bm,aa])
 have ah:Aq ((b.log.take n).drop st) b.self<=b.pend.length:=by simpa[Bm,aa] using hp
 have bq:st<n:=U;have an:w.heap.size+2<=((w.alloc (.cells b.cells 28)).alloc (.cells Yq 28)).heap.size:=zj;go_enter func132,ntmps132;go_upto_region 1 with fail;generalize ((w.alloc (.cells b.cells 28)).alloc (.cells Yq 28))=u1 at *;replace H:=H.o.e Q.o;obtain⟨self,base,stable,z,Av,cv,vs,K,y,j,Ap,cp,pend,Am,cm,u,Af,cf,D⟩:=b;simp only at aa hn ah bh ax au bi HF;subst aa;unfold BM.cells at G;obtain⟨T,q1,q2,q3,q4,q5,q6,X,q8⟩:=nine G.o;have br:n<=j.length:=U;have aj:O (n - st=((j.take n).drop st).length):=J (by rw[zD,zT];omega);obtain⟨k,hk⟩:∃k,k=Aq ((j.take n).drop st) self:=⟨_,rfl⟩;have HK:=J hk;have bj:k<=pend.length:=by rw[hk];exact ah
 clear ah hp ad hn bm hk;have bo:∀W,(Instr.slice 23 (.slice K j.length y) (some (I (st:Int))) (some (I (n:Int))) none).run prog W=.ok (.slice (AO K st y 4) (n - st) (y - st)) W:=λW=>Aa.slice_lh K j.length y st n _ _ rfl rfl U U W;have bp:∀W,(Instr.slice 24 (.slice Ap pend.length cp) (some (I (k:Int))) none none).run prog W=.ok (.slice (AO Ap k cp 1) (pend.length - k) (cp - k)) W:=λW=>AU.slice_l Ap pend.length cp k _ rfl bj W;have bc:O (Row u1 (AO K st y 4) (Aa.cells ((j.take n).drop st))):=J (Elem.row_sub H.o.r.log ax.1 st n);have hd:decide ((n:Int)<=(st:Int))=false:=zm;have bg:n - st<=100000:=U;have ba:w.heap.size<u1.heap.size:=U;have bb:w.heap.size+1<u1.heap.size:=U;go_wp2_with (first
  | (at_builtin
     refine By Aa rfl (.tmp 13) (.tmp 19) rfl _ u1.heap.size _ [] zi _ _ _ ((j.take n).drop st) zi aj.o (bc.o.ext (V.new _ _)) (Elem.OB.fresh Aa (zR _)) D1 zm zj ?_;intro v2 w2 af ay bk;rw[List.nil_append] at af;obtain⟨D2,ar⟩:∃l,l=((j.take n).drop st):=⟨_,rfl⟩;rw[<-ar] at af aj HK HF;rw[aj.o] at bg;clear ar;have X2:O (V u1 w2):=J (ay.below (V.new u1 _) zj (λq hq=>by cases hq;exact zR _));obtain⟨A2,c2,rfl,bd,be,a9⟩:=af.1.slice;have ao:=J af.1;have ac:=J a9;clear ay bk af a9;replace H:=H.o.e X2.o;replace G:=G.o.e X2.o;replace F:=F.o.e X2.o;replace Q:=Q.o.t X2.o;clear T q1 q2 q3 q4 q5 q6 X q8;obtain⟨T,q1,q2,q3,q4,q5,q6,X,q8⟩:=nine G.o))
 go_wp2_with fail;refine(Hy A2 c2 D2 D2.length self _ ac.o U (zR _)).mono ?_;rintro e w3 ⟨rfl,rfl⟩;rw[List.take_length,<-HK.o];have am:=zL an X2.o.size;clear ba bb;have ba:w.heap.size<w2.heap.size:=U;have bb:w.heap.size+1<w2.heap.size:=U;go_upto_region 7 with (first
  | (at_builtin
     refine By AU rfl (.tmp 27) (.tmp 31) rfl _ w2.heap.size _ [] zi _ _ _ (pend.drop k) zi (by rw[zD]) ((Elem.row_from H.o.r.pend au k).ext (V.new _ _)) (Elem.OB.fresh AU (zR _)) KD zm zj ?_;intro v4 w4 ag az bl;rw[List.nil_append] at ag;obtain⟨PN,al⟩:∃l,l=pend.drop k:=⟨_,rfl⟩;rw[<-al] at ag;have ak:=J al;clear al;have X4:O (V w2 w4):=J (az.below (V.new w2 _) zj (λq hq=>by cases hq;exact zR _));obtain⟨A4,c4,rfl,aw,bf,ai⟩:=ag.1.slice;have ap:=J ag.1;have ab:=J ai;clear az bl ag ai;replace H:=H.o.e X4.o;replace G:=G.o.e X4.o;replace F:=F.o.e X4.o;replace Q:=Q.o.t X4.o;replace ac:=ac.o.e X4.o;clear T q1 q2 q3 q4 q5 q6 X q8;obtain⟨T,q1,q2,q3,q4,q5,q6,X,q8⟩:=nine G.o;obtain⟨z0,z1,z2,z3,z4,z5,z6,z7,z8⟩:=G.o.free9))
 generalize R:((w4.setCell (Y w 6) (.slice A4 PN.length c4)).setCell (Y w 4) (I (n:Int)))=w5 at *;have K4:O (Wrote w.heap.size w4 w5):=(by subst R;exact J ((Wrote.set w.heap.size 6 _ _).trans (Wrote.set w.heap.size 4 _ _)));have L4:O (Lit w.heap.size (w.heap.size+2) w4 w5):=(by subst R;exact J (Lit.wrote K4.o (zR _) U));have B4:O (BIs w5 w.heap.size #[I self,.slice Av vs.length cv,I base,.slice K j.length y,I (n:Int),I z,.slice A4 PN.length c4,.slice Am u.length cm,.slice Af D.length cf] 28):=(by subst R;exact J ((G.o.set 6 _).set 4 _));have aq:O (OffR w.heap.size (w.heap.size+2) A2 (Aa.cells D2)):=J (DP ao.o an);have ae:O (OffR w.heap.size (w.heap.size+2) A4 (AU.cells PN)):=J (DP ap.o (zL an X2.o.size));replace H:=J (H.o.lit OF.o L4.o);replace ac:=J (ac.o.lit aq.o L4.o);replace ab:=J (ab.o.lit ae.o L4.o);replace F:=J (F.o.wrote U K4.o);replace Q:=J (L4.o.ext Q.o (zR _));clear T q1 q2 q3 q4 q5 q6 X q8;clear z0 z1 z2 z3 z4 z5 z6 z7 z8 G K4 L4;clear R;obtain⟨T,q1,q2,q3,q4,q5,q6,X,q8⟩:=nine B4.o;obtain⟨z0,z1,z2,z3,z4,z5,z6,z7,z8⟩:=F.o.free9;obtain⟨k0,k1,k2,k3,k4,k5,k6,k7,k8⟩:=nine F.o;go_wp2;rw[HF.o];generalize R:(((((((((w5.setCell (Pv w 0) (I self)).setCell (Pv w 1) (.slice Av vs.length cv)).setCell (Pv w 2) (I base)).setCell (Pv w 3) (.slice K j.length y)).setCell (Pv w 4) (I (n:Int))).setCell (Pv w 5) (I z)).setCell (Pv w 6) (.slice A4 PN.length c4)).setCell (Pv w 7) (.slice Am u.length cm)).setCell (Pv w 8) (.slice Af D.length cf))=wz at *;have WQ:O (Lit w.heap.size (w.heap.size+2) w5 wz):=(by subst R;exact J (Lit.wrote (p:=w.heap.size+1) AS U U));have BN:O (BIs wz (w.heap.size+1) #[I self,.slice Av vs.length cv,I base,.slice K j.length y,I (n:Int),I z,.slice A4 PN.length c4,.slice Am u.length cm,.slice Af D.length cf] 28):=(by subst R;exact J (Ba F.o));clear F z0 z1 z2 z3 z4 z5 z6 z7 z8 k0 k1 k2 k3 k4 k5 k6 k7 k8;clear R;obtain⟨n0,n1,n2,n3,n4,n5,n6,n7,n8⟩:=nine BN.o;refine bodyPost_ret (v:=.tuple #[.agg #[I self,.slice Av vs.length cv,I base,.slice K j.length y,I (n:Int),I z,.slice A4 PN.length c4,.slice Am u.length cm,.slice Af D.length cf],.slice A2 D2.length c2]) (by simp[results,results132,go_sem,n0,n1,n2,n3,n4,n5,n6,n7,n8]) rfl ?_;have av:w.heap.size<=u1.heap.size:=U;exact⟨⟨self,base,(n:Int),z,Av,cv,vs,K,y,j,A4,c4,PN,Am,cm,u,Af,cf,D⟩,A2,c2,rfl,bd,be,by rw[ak.o,HK.o];rfl,(H.o.lit OF.o WQ.o).withPend _ (ab.o.lit ae.o WQ.o) (by rw[ak.o,zD];omega) (λp hp=>H.o.f.pp p (List.mem_of_mem_drop (by rw[<-ak.o];exact hp))) aw,ac.o.lit aq.o WQ.o,(ao.o.newAt av),WQ.o.ext Q.o (zR _),λN M hM hb=>hb.withPend _ (DP ap.o (zL hM (zL av X2.o.size)))⟩
theorem Ry{P:Prop}(h:P:=by
 clear aj;go_upto_region 10 with fail;refine eD 13 (V.refl _) λK=>?_;refine ec 0 ?_;refine ea 4 ?_;refine ec 6 ?_;refine ea 10 ?_;refine eG 5 K (ai.o▸G9 b y _ (R4.o.ext K) H.o.f) λv K=>?_;refine eG 11 K (ac.o▸G9 b x _ (R4.o.ext K) H.o.f) λv K=>?_;refine ea 12 ?_;refine eA ?_;have HE:=J K;clear K bm b4 aw;go_wp2;go_roundw
 case rel=>exact⟨j+1,U,by rw[au.o]<;>rfl,by go_num,HY.o.t HE.o⟩
 case measure=>simp[intOf];omega):P:=h
theorem QC{w:World}{A:Option Addr}{xs:List Int}{k:Nat}(h:Row w A (Ai xs))(u:k<xs.length) :
  ∃b j x,A=some (Z b j)/\(∀w',V w w'->w'.cell? (Z b (j+k))=some (I x))/\O (xs[k]?=some x):=by
 obtain⟨b,j,x,rfl,_,q⟩:=h.at_ u;exact⟨b,j,x,rfl,λw' e=>(h.ext e).cell q.o,q⟩
theorem YV{w:World}{b j:Nat}{xs:List Int}{k:Nat}{x:Int}(h:Row w (some (Z b j)) (Ai xs))(q:O (xs[k]?=some x)):∀w',V w w'->w'.cell? (Z b (j+k))=some (I x):=λ_ e=>(h.ext e).cell q.o
theorem Ii{α β:Type}{f:β->α->β}{l:List α}{k:Nat}{x:α}{a:β}(h:O (l[k]?=some x)):(l.take (k+1)).foldl f a=f ((l.take k).foldl f a) x:=by rw[Cz h.o,List.foldl_append];rfl
theorem Tk{α:Type}{p:α->Bool}{l:List α}{k:Nat}{x:α}(h:O (l[k]?=some x)):(l.take (k+1)).countP p=(l.take k).countP p+if p x=true then 1 else 0:=by
 rw[Cz h.o,List.countP_append,List.countP_singleton]
theorem BM.Ok.far{w:World}{b:BM}(h:b.Ok w):b.Off w.heap.size (w.heap.size+2):=h.r.off (zR _)
theorem NewAt.offR{N M K:Nat}{A:Option Addr}{xs:List Value}(h:NewAt K A xs)(j:M<=K):OffR N M A xs:=λp q u=>.inr (zL j (h p q u))
theorem JT(b:BM)(w:World)(n:Int)(u:List Int)(h:b.Ok w)(hp:0<b.vs.length)(hl:Ar (vws b.vs)=(n,u))(b1:0<=b.stable)(hb:Cv b.st u<=b.log.length)(bl:Aq (Bm b.log b.stable (Cv b.st u)) b.self<=b.pend.length) :
  Calls prog 60 #[.agg b.cells] w (RSd w b (Be ⟨b.st,[],[]⟩ (Cv b.st u)).s (Be ⟨b.st,[],[]⟩ (Cv b.st u)).dl):=by
 have H:=J h;have bk:=Eu h.f.vx;rw[hl] at bk;simp only at bk;have OF:=J h.far;have HL:=J hl;have HB:=J hb;have az:=J bl;clear h hl hb bl;have Q:O (V w ((w.alloc (.cells b.cells 28)).alloc (.cells Yq 28))):=J ((V.new _ _).alloc _);have G:O (BIs ((w.alloc (.cells b.cells 28)).alloc (.cells Yq 28)) w.heap.size b.cells 28):=J ((BIs.new _ _ _).ext (V.new _ _));have F:O (BIs ((w.alloc (.cells b.cells 28)).alloc (.cells Yq 28)) (w.heap.size+1) Yq 28):=J (BIs.newAt (w:=w.alloc (.cells b.cells 28)) Yq 28 zj);have b3:w.heap.size+2<=((w.alloc (.cells b.cells 28)).alloc (.cells Yq 28)).heap.size:=zj;have b6:=DJ;go_enter func60,ntmps60;go_upto_region 1 with fail;generalize ((w.alloc (.cells b.cells 28)).alloc (.cells Yq 28))=u1 at *;replace H:=H.o.e Q.o;have HN:=G.o.n9;obtain⟨T,q1,q2,q3,q4,q5,q6,X,q8⟩:=nine G.o;go_wp2_with fail;refine(Cb b _ H.o.r hp H.o.f n u HL.o).mono ?_;rintro e w2 ⟨A,c,rfl,bv,bw,HR,ab⟩;replace H:=H.o.e ab;replace G:=G.o.e ab;replace F:=F.o.e ab;replace Q:=Q.o.t ab;clear T q1 q2 q3 q4 q5 q6 X q8;replace HN:=λw' (x:V w2 w')=>HN w' (ab.trans x);have am:=zL b3 ab.size;clear ab bv bw;go_wp2;go_loopw [4,6] (λs i wr=>∃k:Nat,k<=u.length/\s=I ((u.take k).foldl (Dl b.st u) 0)/\i=I k/\O (V w2 wr)) (λ_ i _=>u.length - (intOf i).toNat)
 case atStart=>exact⟨0,zO _,rfl,rfl,J (V.refl _)⟩
 case round=>
  obtain⟨k,hk,rfl,rfl,HX⟩:=hrel;obtain⟨w3,rfl⟩:∃x,x=wr:=⟨wr,rfl⟩;obtain⟨bs,ar⟩:∃x,x=(u.take k).foldl (Dl b.st u) 0:=⟨_,rfl⟩;rw[<-ar];have ag:=J ar;clear ar;by_cases b0:k<u.length;rotate_left
  .have bi:k=u.length:=U;rw[bi,List.take_length] at ag;have HQ:O (bs=Cv b.st u):=J ag.o;clear ag bi;replace H:=H.o.e HX.o;replace G:=G.o.e HX.o;replace F:=F.o.e HX.o;replace Q:=Q.o.t HX.o;obtain⟨T,q1,q2,q3,q4,q5,q6,X,q8⟩:=nine G.o;obtain⟨z0,z1,z2,z3,z4,z5,z6,z7,z8⟩:=F.o.free9;obtain⟨k0,k1,k2,k3,k4,k5,k6,k7,k8⟩:=nine F.o;go_wp2_with fail;rw[<-HQ.o] at HB az;refine(MB b bs _ H.o b1 HB.o az.o).mono ?_;rintro e w5 ⟨W,A2,c2,rfl,ba,bx,bc,bd,be,bf,ae,aq⟩;have hz:w.heap.size+2<=w3.heap.size:=zL am HX.o.size;have HS:=J bc;have bq:=J bd;have av:=J be;have bp:=J (aq w.heap.size (w.heap.size+2) hz OF.o);have al:=J bf;have HG:=J aq;replace H:=H.o.e ae;replace G:=G.o.e ae;replace F:=F.o.e ae;replace Q:=Q.o.t ae;clear T q1 q2 q3 q4 q5 q6 X q8;clear z0 z1 z2 z3 z4 z5 z6 z7 z8 k0 k1 k2 k3 k4 k5 k6 k7 k8 bc bd be bf ae aq;obtain⟨z0,z1,z2,z3,z4,z5,z6,z7,z8⟩:=F.o.free9;obtain⟨k0,k1,k2,k3,k4,k5,k6,k7,k8⟩:=nine F.o;unfold BM.cells;obtain⟨D,hD⟩:∃l,l=(Be ⟨b.st,[],[]⟩ bs).dl:=⟨_,rfl⟩;rw[<-hD] at ba av al;rw[<-hD];have bo:=J hD;clear hD;go_wp2;generalize R:(((((((((w5.setCell (Z ((w.heap.size+1)) 0) (I W.self)).setCell (Z ((w.heap.size+1)) 1) (.slice W.Av W.vs.length W.cv)).setCell (Z ((w.heap.size+1)) 2) (I W.base)).setCell (Z ((w.heap.size+1)) 3) (.slice W.Al W.log.length W.cl)).setCell (Z ((w.heap.size+1)) 4) (I W.stable)).setCell (Z ((w.heap.size+1)) 5) (I W.sent)).setCell (Z ((w.heap.size+1)) 6) (.slice W.Ap W.pend.length W.cp)).setCell (Z ((w.heap.size+1)) 7) (.slice W.Am W.marks.length W.cm)).setCell (Z ((w.heap.size+1)) 8) (.slice W.Af W.fls.length W.cf))=wz at *;have WQ:O (Lit w.heap.size (w.heap.size+2) w5 wz):=(by subst R;exact J (Lit.wrote (p:=w.heap.size+1) AS U U));have BN:O (BIs wz (w.heap.size+1) W.cells 28):=(by subst R;exact J (Ba F.o));clear F;clear R;obtain⟨n0,n1,n2,n3,n4,n5,n6,n7,n8⟩:=nine BN.o;refine bodyPost_ret (v:=.tuple #[.agg W.cells,.slice A2 D.length c2]) (by simp[results,results60,go_sem,BM.cells,n0,n1,n2,n3,n4,n5,n6,n7,n8]) rfl ?_;rw[<-HQ.o,<-bo.o];exact⟨W,A2,c2,rfl,ba,bx,HS.o,bq.o.lit bp.o WQ.o,av.o.lit (al.o.offR hz) WQ.o,λp q hq=>by have:=al.o p q hq;omega,WQ.o.ext Q.o (zR _),λN M hM hb=>HG.o N M U hb⟩
  obtain⟨bb,b7,x,hA,q,bu⟩:=QC (HR.o.ext HX.o) b0;subst hA;have bt:=λw' (e:V w3 w')=>HN w' (HX.o.trans e);go_wp2;go_loopw [7,8] (λs i wr=>∃j:Nat,j<=u.length/\s=I ((u.take j).countP λy=>decide (AY b.st x<=AY b.st y):Nat)/\i=I j/\O (V w3 wr)) (λ_ i _=>u.length - (intOf i).toNat)
  case atStart=>exact⟨0,zO _,rfl,rfl,J (V.refl _)⟩
  case round=>
   obtain⟨j,hj,rfl,rfl,HY⟩:=hrel;obtain⟨w4,rfl⟩:∃x,x=wr:=⟨wr,rfl⟩;have aw:=λw' (e:V w4 w')=>bt w' (HY.o.trans e);have bm:=λw' (e:V w4 w')=>q w' (HY.o.trans e);obtain⟨cn,ah⟩:∃m,m=(u.take j).countP λy=>decide (AY b.st x<=AY b.st y):=⟨_,rfl⟩;rw[<-ah];have ad:=J ah;have b5:cn<=1000000:=by rw[ah];exact zL List.countP_le_length (by rw[zT];omega)
   clear ah;have R4:=J (H.o.r.ext (HX.o.trans HY.o));by_cases bh:j<u.length
   .have ap:=J (zY bh);obtain⟨y,hy⟩:∃y,y=u[j]:=⟨_,rfl⟩;rw[<-hy] at ap;clear hy;have b4:=YV (HR.o.ext (HX.o.trans HY.o)) ap;obtain⟨ax,af⟩:∃v,AY b.st x=v:=⟨_,rfl⟩;obtain⟨ay,bg⟩:∃v,AY b.st y=v:=⟨_,rfl⟩;have ac:=J af;have ai:=J bg;have hw:IntKind.i64.wrap ((cn:Int)+1)=((cn+1:Nat):Int):=by rw[IntWalk.i64_in _ U];omega
    have aj:=J (Tk (p:=λy=>decide (AY b.st x<=AY b.st y)) ap);clear af bg;by_cases z:ax<=ay
    .have aa:decide (ax<=ay)=true:=decide_eq_true z;have br:=J z;clear z;have au:O ((u.take (j+1)).countP (λy=>decide (AY b.st x<=AY b.st y))=cn+1):=J (by rw[aj.o,<-ad.o,ac.o,ai.o,aa];rfl);exact Ry
    have aa:decide (ax<=ay)=false:=decide_eq_false z;have br:=J z;clear z;have au:O ((u.take (j+1)).countP (λy=>decide (AY b.st x<=AY b.st y))=cn):=J (by rw[aj.o,<-ad.o,ac.o,ai.o,aa];rfl);exact Ry
   have bz:j=u.length:=U;subst bz;rw[List.take_length] at ad;have bn:O (GD b.st u x=cn):=J ad.o.symm;clear ad bh hj;have ao:=J (Ii (f:=Dl b.st u) (a:=(0:Int)) bu);rw[<-ag.o] at ao;obtain⟨mj,bj⟩:∃m,Bs u.length=m:=⟨_,rfl⟩;have ak:=J bj;clear bj;obtain⟨ax,af⟩:∃v,AY b.st x=v:=⟨_,rfl⟩;have ac:=J af;clear af;have a9:O (Dl b.st u bs x=if mj<=(cn:Int) then max bs ax else bs):=J (by unfold Dl;rw[bn.o,ak.o,ac.o]);by_cases z:mj<=(cn:Int)
   .have aa:decide (mj<=(cn:Int))=true:=decide_eq_true z;have an:=J (ao.o.trans (a9.o.trans (if_pos z)));clear z;go_upto_region 13 with (first
     | (go_at_call 131
        refine(ak.o▸IS _ _).mono ?_;rintro e w5 ⟨rfl,rfl⟩))
    refine eD 9 (V.refl _) λK=>?_;refine ec 0 ?_;refine eb 4 ?_;refine eG 6 K (ac.o▸G9 b x _ (R4.o.ext K) H.o.f) λv K=>?_;refine eb 7 ?_;refine eA ?_;have HE:=J K;clear K bm aw;go_wp2;go_roundw
    case rel=>exact⟨k+1,U,by rw[an.o],by go_num,HX.o.t (HY.o.trans HE.o)⟩
    case measure=>simp[intOf];omega
   have aa:decide (mj<=(cn:Int))=false:=decide_eq_false z;have an:=J (ao.o.trans (a9.o.trans (if_neg z)));clear z;go_wp2_with (first|(go_at_call 131;refine(ak.o▸IS _ _).mono ?_;rintro e w5 ⟨rfl,rfl⟩));go_roundw
   case rel=>exact⟨k+1,U,by rw[an.o],by go_num,HX.o.t HY.o⟩
   case measure=>simp[intOf];omega
theorem RG{P:Prop}(h:P:=by
 have bz:j=Bp y:=by have:=aj.o;omega
 subst bz;replace H:=H.o.e HX.o;replace G:=af;replace F:=F.o.e HX.o;replace Q:=Q.o.t HX.o;clear af;obtain⟨z0,z1,z2,z3,z4,z5,z6,z7,z8⟩:=G.o.free9;obtain⟨b7,b8,bw,aw,bf,ai⟩:=HO.o.slice;cases bw;have ab:=J ai;clear ai;go_upto_region 9 with fail;generalize R:(w4.setCell (Y w 3) (.slice A4 (AI y (Bp y)).length c4))=w5 at *;have K4:O (Wrote w.heap.size w4 w5):=(by subst R;exact J (Wrote.set w.heap.size 3 _ _));have L4:O (Lit w.heap.size (w.heap.size+2) w4 w5):=(by subst R;exact J (Lit.wrote K4.o (zR _) U));have B4:O (BIs w5 w.heap.size #[I self,.slice Av vs.length cv,I base,.slice A4 (AI y (Bp y)).length c4,I stable,I z,.slice Ap pend.length cp,.slice Am u.length cm,.slice Af D.length cf] 28):=(by subst R;exact J (G.o.set 3 _));have ae:O (OffR w.heap.size (w.heap.size+2) A4 (Aa.cells (AI y (Bp y)))):=J (DP HO.o am);replace H:=J (H.o.lit OF.o L4.o);replace ab:=J (ab.o.lit ae.o L4.o);replace F:=J (F.o.wrote U K4.o);replace Q:=J (L4.o.ext Q.o (zR _));clear T q1 q2 q3 q4 q5 q6 X q8;clear z0 z1 z2 z3 z4 z5 z6 z7 z8 G K4 L4;clear R;obtain⟨T,q1,q2,q3,q4,q5,q6,X,q8⟩:=nine B4.o;obtain⟨z0,z1,z2,z3,z4,z5,z6,z7,z8⟩:=F.o.free9;obtain⟨k0,k1,k2,k3,k4,k5,k6,k7,k8⟩:=nine F.o;go_wp2;generalize R:(((((((((w5.setCell (Pv w 0) (I self)).setCell (Pv w 1) (.slice Av vs.length cv)).setCell (Pv w 2) (I base)).setCell (Pv w 3) (.slice A4 (AI y (Bp y)).length c4)).setCell (Pv w 4) (I stable)).setCell (Pv w 5) (I z)).setCell (Pv w 6) (.slice Ap pend.length cp)).setCell (Pv w 7) (.slice Am u.length cm)).setCell (Pv w 8) (.slice Af D.length cf))=wz at *;have WQ:O (Lit w.heap.size (w.heap.size+2) w5 wz):=(by subst R;exact J (Lit.wrote (p:=w.heap.size+1) AS U U));have BN:O (BIs wz (w.heap.size+1) #[I self,.slice Av vs.length cv,I base,.slice A4 (AI y (Bp y)).length c4,I stable,I z,.slice Ap pend.length cp,.slice Am u.length cm,.slice Af D.length cf] 28):=(by subst R;exact J (Ba F.o));clear F z0 z1 z2 z3 z4 z5 z6 z7 z8 k0 k1 k2 k3 k4 k5 k6 k7 k8;clear R;obtain⟨n0,n1,n2,n3,n4,n5,n6,n7,n8⟩:=nine BN.o;refine bodyPost_ret (v:=.agg #[I self,.slice Av vs.length cv,I base,.slice A4 (AI y (Bp y)).length c4,I stable,I z,.slice Ap pend.length cp,.slice Am u.length cm,.slice Af D.length cf]) (by simp[results,results44,go_sem,n0,n1,n2,n3,n4,n5,n6,n7,n8]) rfl ?_;exact⟨⟨self,base,stable,z,Av,cv,vs,A4,c4,(AI y (Bp y)),Ap,cp,pend,Am,cm,u,Af,cf,D⟩,rfl,by have e:=br.o;rw[HF.o,e];rfl,(H.o.lit OF.o WQ.o).withLog (ab.o.lit ae.o WQ.o) (by have:=ah.o;have:=aj.o;omega) (bq.o _) ⟨aw,bf⟩,WQ.o.ext Q.o (zR _),λN M hM hb=>hb.withLog (DP HO.o U)⟩):P:=h
def IE(s:St):St:=if AD s&&AE s then Ct s else s
section
variable {w:World} {b:BM} {N M:Nat} {A:Option Addr} {c:Nat}
theorem BM.Ok.withLog(h:b.Ok w){l:List Ent}(y:Row w A (Aa.cells l))(q:l.length<=100000)(u:∀e∈l,e.p.length<=1000000)(j:l.length<=c/\c<=maxLen):({b with Al:=A,cl:=c,log:=l}:BM).Ok w:=
 ⟨⟨h.r.vs,y,h.r.pend,h.r.marks,h.r.fls⟩,⟨h.f.vs,h.f.vx,q,u,h.f.pend,h.f.pp,h.f.marks,h.f.fls,h.f.fl,j⟩,h.cp⟩
theorem BM.Off.withLog(h:b.Off N M){l:List Ent}(j:OffR N M A (Aa.cells l)):({b with Al:=A,cl:=c,log:=l}:BM).Off N M:=⟨h.vs,h.vi,j,h.pend,h.marks,h.fls,h.fi⟩
end
theorem Xl{s:St}{j:Nat}(u:∀e∈s.log,e.p.length<=1000000)(y:∀p∈s.pend,p.length<=1000000):∀e∈AI s j,e.p.length<=1000000:=by
 intro e q;unfold AI at q;rcases List.mem_append.1 q with h|h
 .exact u e h
 .obtain⟨i,_,rfl⟩:=List.mem_map.1 h;show (Do s _).length<=1000000;unfold Do;cases hq:s.pend[((s.pend.length:Int) - 1 - (s.sent - (Aq s.log s.self+1+i))).toNat]? with
  | none=>simp
  | some p=>exact y p (zX hq)
theorem Qn(b:BM)(w:World)(h:b.Ok w)(hp:0<b.vs.length)(ho:(Aq b.log b.self:Int)<=b.sent)(hs:b.sent<=1099511627776)(bl:b.sent - Aq b.log b.self<=b.pend.length)(b0:b.log.length<=2000) :
  Calls prog 44 #[.agg b.cells] w (RSt w b (IE b.st)):=by
 have H:=J h;have OF:=J h.far;have b3:=h.f.pend;have bx:=h.f.cl;clear h;have Q:O (V w ((w.alloc (.cells b.cells 28)).alloc (.cells Yq 28))):=J ((V.new _ _).alloc _);have G:O (BIs ((w.alloc (.cells b.cells 28)).alloc (.cells Yq 28)) w.heap.size b.cells 28):=J ((BIs.new _ _ _).ext (V.new _ _));have F:O (BIs ((w.alloc (.cells b.cells 28)).alloc (.cells Yq 28)) (w.heap.size+1) Yq 28):=J (BIs.newAt (w:=w.alloc (.cells b.cells 28)) Yq 28 zj);have b6:w.heap.size+2<=((w.alloc (.cells b.cells 28)).alloc (.cells Yq 28)).heap.size:=zj;cases hld:(AD b.st&&AE b.st) with
 | false=>
  have HF:O (IE b.st=b.st):=J (if_neg (by rw[hld];simp));have ag:=J hld;clear hld;go_enter func44,ntmps44;go_upto_region 1 with fail;generalize ((w.alloc (.cells b.cells 28)).alloc (.cells Yq 28))=u1 at *;replace H:=H.o.e Q.o;obtain⟨T,q1,q2,q3,q4,q5,q6,X,q8⟩:=nine G.o;go_wp2_with fail;refine(ag.o▸Cy b _ H.o.r hp H.o.f).mono ?_;rintro e w2 ⟨rfl,W⟩;replace H:=H.o.e W;replace G:=G.o.e W;replace F:=F.o.e W;replace Q:=Q.o.t W;clear T q1 q2 q3 q4 q5 q6 X q8;obtain⟨T,q1,q2,q3,q4,q5,q6,X,q8⟩:=nine G.o;obtain⟨z0,z1,z2,z3,z4,z5,z6,z7,z8⟩:=F.o.free9;obtain⟨k0,k1,k2,k3,k4,k5,k6,k7,k8⟩:=nine F.o;clear W;go_wp2;generalize R:(((((((((w2.setCell (Z ((w.heap.size+1)) 0) (I b.self)).setCell (Z ((w.heap.size+1)) 1) (.slice b.Av b.vs.length b.cv)).setCell (Z ((w.heap.size+1)) 2) (I b.base)).setCell (Z ((w.heap.size+1)) 3) (.slice b.Al b.log.length b.cl)).setCell (Z ((w.heap.size+1)) 4) (I b.stable)).setCell (Z ((w.heap.size+1)) 5) (I b.sent)).setCell (Z ((w.heap.size+1)) 6) (.slice b.Ap b.pend.length b.cp)).setCell (Z ((w.heap.size+1)) 7) (.slice b.Am b.marks.length b.cm)).setCell (Z ((w.heap.size+1)) 8) (.slice b.Af b.fls.length b.cf))=wz at *;have WQ:O (Lit w.heap.size (w.heap.size+2) w2 wz):=(by subst R;exact J (Lit.wrote (p:=w.heap.size+1) AS U U));have BN:O (BIs wz (w.heap.size+1) b.cells 28):=(by subst R;exact J (Ba F.o));clear F;clear R;obtain⟨n0,n1,n2,n3,n4,n5,n6,n7,n8⟩:=nine BN.o;refine bodyPost_ret (v:=.agg b.cells) (by simp[results,results44,go_sem,BM.cells,n0,n1,n2,n3,n4,n5,n6,n7,n8]) rfl ?_;exact⟨b,rfl,HF.o.symm,H.o.lit OF.o WQ.o,WQ.o.ext Q.o (zR _),λ_ _ _ h=>h⟩
 | true=>
  have HF:O (IE b.st=Ct b.st):=J (if_pos hld);have ag:=J hld;clear hld;obtain⟨y,ac⟩:∃s,s=b.st:=⟨_,rfl⟩;have br:=J ac;have ad:O (y.log=b.log):=J (by rw[ac];rfl);have ar:O (y.sent=b.sent):=J (by rw[ac];rfl);have aq:O (y.self=b.self):=J (by rw[ac];rfl);have bd:O (y.base=b.base):=J (by rw[ac];rfl);have au:O (y.pend=b.pend):=J (by rw[ac];rfl);clear ac;have bq:O (∀j,∀e∈AI y j,e.p.length<=1000000):=J (λj=>Xl (by rw[ad.o];exact H.o.f.lp) (by rw[au.o];exact H.o.f.pp));go_enter func44,ntmps44;go_upto_region 1 with fail;generalize ((w.alloc (.cells b.cells 28)).alloc (.cells Yq 28))=u1 at *;replace H:=H.o.e Q.o;obtain⟨T,q1,q2,q3,q4,q5,q6,X,q8⟩:=nine G.o;go_wp2_with fail;refine(ag.o▸Cy b _ H.o.r hp H.o.f).mono ?_;rintro e w2 ⟨rfl,W⟩;replace H:=H.o.e W;replace G:=G.o.e W;replace F:=F.o.e W;replace Q:=Q.o.t W;clear T q1 q2 q3 q4 q5 q6 X q8;have am:=zL b6 W.size;clear W ag;obtain⟨self,base,stable,z,Av,cv,vs,Al,cl,aa,Ap,cp,pend,Am,cm,u,Af,cf,D⟩:=b;simp only at ho hs bl b0 b3 bx ad ar aq bd au;unfold BM.cells at G;obtain⟨T,q1,q2,q3,q4,q5,q6,X,q8⟩:=nine G.o;obtain⟨on,ay⟩:∃x,x=Aq aa self:=⟨_,rfl⟩;rw[<-ay] at ho bl;have ap:=J ay;clear ay;have ce:w.heap.size<w2.heap.size:=U;have cg:w.heap.size+1<w2.heap.size:=U;go_wp2_with (first
   | (at_builtin
      refine By Aa rfl (.tmp 9) (.tmp 11) rfl _ w2.heap.size _ [] zi _ _ _ aa zi rfl (H.o.r.log.ext (V.new _ _)) (Elem.OB.fresh Aa (zR _)) D1 zm zj ?_;intro v3 w3 ak bi b4;rw[List.nil_append] at ak;have X3:O (V w2 w3):=J (bi.below (V.new w2 _) zj (λq hq=>by cases hq;exact zR _));have av:O (AI y 0=aa):=J (by unfold AI;rw[ad.o];simp);rw[<-av.o] at ak;have an:=J ak.1;clear ak bi b4;clear T q1 q2 q3 q4 q5 q6 X q8;have az:=G.o.e X3.o;obtain⟨T,q1,q2,q3,q4,q5,q6,X,q8⟩:=nine az.o;obtain⟨A3,c3,rfl,bt,bu,bm⟩:=an.o.slice;have bb:=J bm;clear bm bt bu;have a9:O ((AI y 0).length=aa.length):=J (by rw[av.o]);have bn:O (Aq ((AI y 0).take (AI y 0).length) self=on):=J (by rw[List.take_length,av.o,<-ap.o])))
  go_wp2_with fail;refine(Hy A3 c3 (AI y 0) (AI y 0).length self _ bb.o (by have:=a9.o;omega) (zR _)).mono ?_;rintro e w4 ⟨rfl,rfl⟩;rw[bn.o];clear bb a9 az T q1 q2 q3 q4 q5 q6 X q8;have HN:=BIs.n9 (b:=⟨self,base,stable,z,Av,cv,vs,Al,cl,aa,Ap,cp,pend,Am,cm,u,Af,cf,D⟩) (t:=28) G.o;simp only[N9] at HN;go_wp2;go_loopw [3,4] (λs i wr=>∃(j:Nat) (A:Option Addr) (c:Nat),j<=Bp y/\s=.slice A (AI y j).length c/\i=I ((on:Int)+(j:Int))/\O (Aa.Own wr w2.heap.size (.slice A (AI y j).length c) (AI y j))/\O (V w2 wr)) (λ_ i _=>(z - intOf i).toNat)
  case atStart=>exact⟨0,A3,c3,zO _,rfl,zj,an,X3⟩
  case round=>
   obtain⟨j,A4,c4,hj,rfl,rfl,HO,HX⟩:=hrel;obtain⟨w4,rfl⟩:∃x,x=wr:=⟨wr,rfl⟩;clear an X3;have ah:O ((AI y j).length=aa.length+j):=J (by rw[Fr,ad.o]);have aj:O (Bp y=min (z - on).toNat (2000 - aa.length)):=J (by unfold Bp;rw[ad.o,ar.o,aq.o,ap.o]);have ca:(j:Int)<=z - on:=by have:=aj.o;omega
   have af:=G.o.e HX.o;obtain⟨T,q1,q2,q3,q4,q5,q6,X,q8⟩:=nine af.o;by_cases ax:(on:Int)+(j:Int)<z;rotate_left
   .have bh:decide ((on:Int)+(j:Int)<z)=false:=decide_eq_false ax;exact RG
   by_cases b9:aa.length+j<2000;rotate_left
   .have bh:decide ((on:Int)+(j:Int)<z)=true:=decide_eq_true ax;have bv:decide (((AI y j).length:Int)<2000)=false:=by have:=ah.o;simp;omega
    exact RG
   have bh:decide ((on:Int)+(j:Int)<z)=true:=decide_eq_true ax;have bv:decide (((AI y j).length:Int)<2000)=true:=by have:=ah.o;simp;omega
   obtain⟨ix,bk⟩:∃ix:Nat,(pend.length:Int) - (z - ((on:Int)+(j:Int)))=(ix:Int):=⟨((pend.length:Int) - (z - ((on:Int)+(j:Int)))).toNat,U⟩;obtain⟨pb,po,pl,bg,b1,be,ba⟩:=Gm H.o.r.pend (show ix<pend.length by omega);simp only at bg;subst bg;have b2:=λw' (x:V w2 w')=>(x.cell (p:=(Z pb (po+ix))) b1).trans be;clear be;have bo:O (AI y (j+1)=AI y j++[⟨base,self,(on:Int)+1+(j:Int),pl⟩]):=J (by
 rw[Np,bd.o,aq.o,ad.o,<-ap.o];congr 3;unfold Do;rw[au.o,ar.o,show (pend.length:Int) - 1 - (z - ((on:Int)+1+(j:Int)))=(ix:Int) by omega];simp[ba.o])
   have cd:IntKind.i64.wrap ((on:Int)+(j:Int)+1)=(on:Int)+1+(j:Int):=by rw[IntWalk.i64_in _ U];omega
   have cb:IntKind.i64.wrap (z - ((on:Int)+(j:Int)))=z - ((on:Int)+(j:Int)):=IntWalk.i64_in _ U;have cc:IntKind.i64.wrap ((pend.length:Int) - (z - ((on:Int)+(j:Int))))=(ix:Int):=by rw[IntWalk.i64_in _ U];exact bk
   have m2:(ix:Int)<(pend.length:Int):=U;have m3:ix<pend.length:=U;have m1:(0:Int)<=(ix:Int):=U;clear bk ba;go_upto_region 7 with fail;clear T q1 q2 q3 q4 q5 q6 X q8;clear af;refine eD 23 HX.o λK=>?_;refine ec 0 ?_;refine ec 4 ?_;refine ec 8 ?_;refine ec 12 ?_;refine ec 16 ?_;refine eF 20 ?_;refine eJ 20 (d:=some 50) (w':=(w4.drew.alloc (.cells #[I base,I self,I ((on:Int)+1+(j:Int)),.string (Ah pl)] 66))) (K.trans (V.new _ _)) λK=>?_;have bc:O (Row (w4.drew.alloc (.cells #[I base,I self,I ((on:Int)+1+(j:Int)),.string (Ah pl)] 66)) (some (Z w4.drew.heap.size 0)) (Aa.cells [⟨base,self,(on:Int)+1+(j:Int),pl⟩])):=J (DL ⟨base,self,(on:Int)+1+(j:Int),pl⟩ w4.drew);have ao:=J (HO.o.ext (zW.trans (V.new w4.drew (.cells #[I base,I self,I ((on:Int)+1+(j:Int)),.string (Ah pl)] 66))));generalize (w4.drew.alloc (.cells #[I base,I self,I ((on:Int)+1+(j:Int)),.string (Ah pl)] 66))=v5 at *;refine eF 21 ?_;refine eK 21 51 Aa (.tmp 30) (.tmp 50) rfl rfl rfl rfl v5 w2.heap.size _ (AI y j) zi _ 1 1 [⟨base,self,(on:Int)+1+(j:Int),pl⟩] zi rfl bc.o zd ⟨ao.o,λ_ _=>⟨trivial,λr hr=>by simp[Aa] at hr⟩⟩ D1 (by have:=ah.o;omega) K.size ?_;intro v6 w6 al bj b5;rw[<-bo.o] at al;have X6:V w2 w6:=bj.below K K.size (λq hq=>(ao.o.lt q hq).1);obtain⟨A6,c6,rfl,_,_,_⟩:=al.1.slice;have bp:=J al.1;clear K ao bc bj b5 al;refine⟨X6,λK=>?_⟩;clear X6;refine ea 22 ?_;refine eA ?_;have X7:=J K;clear K b2 HN;go_wp2;go_roundw
   case rel=>exact⟨j+1,A6,c6,by have:=aj.o;omega,rfl,by go_num,bp,X7⟩
   case measure=>simp[intOf];omega
end Go.Proofs.YtponbabbabnaeaaGreat
