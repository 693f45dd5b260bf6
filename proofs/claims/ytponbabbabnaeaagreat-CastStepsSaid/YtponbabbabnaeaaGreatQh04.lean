/- Part 4: contracts of functions. Conditions: as each theorem says. -/
import Derived.RegionTactic
import Derived.StillTailTactics
import Derived.Lib.ConvBytes
import Derived.Maps.OwnOps
import Derived.Maps.Views
import Derived.Test.YtponbabbabnaeaaGreatQh03
set_option maxRecDepth 100000
set_option maxHeartbeats 40000000
set_option linter.unusedVariables false
namespace Go.Proofs.YtponbabbabnaeaaGreat
open Tryz
open Go.RowKit
theorem Qm{P:Prop}(h:P:=by
 go_wp2_with fail;refine(Es A c bs w H.o hl).mono ?_;rintro e w' ⟨rfl,rfl⟩;unfold Ce;go_wp2;go_ret3
 exact Gq HF.o rfl (Own.nil _ _ _) (V.refl _)):P:=h
theorem U1{bs:List UInt8}{j i n:Nat}{l:List Int}{R:List Int×Nat×Int}(h:Dc bs (j - i) l n=R)(q:¬i<j):R=(l,n,0):=by
 rw[show j - i=0 by omega] at h;exact h.symm
theorem UA{bs:List UInt8}{j i n:Nat}{l:List Int}{R:List Int×Nat×Int}(h:Dc bs (j - i) l n=R)(u:i<j)(q:(AR (bs.drop n)).2.2=0) :
  Dc bs (j - (i+1)) (l++[(AR (bs.drop n)).1]) (n+(AR (bs.drop n)).2.1)=R:=by
 rw[show j - i=(j - (i+1))+1 by omega,J8 q] at h;exact h
theorem Uf{bs:List UInt8}{j i n:Nat}{l:List Int}{R:List Int×Nat×Int}(h:Dc bs (j - i) l n=R)(u:i<j)(q:(AR (bs.drop n)).2.2≠0) :
  R=([],0,(AR (bs.drop n)).2.2):=by
 rw[show j - i=(j - (i+1))+1 by omega,Kh q] at h;exact h.symm
theorem Sf(A:Option Addr)(c:Nat)(bs:List UInt8)(m:Nat)(w:World)(h:Row w A (Aj bs))(hc:bs.length<=c)(hl:bs.length<=1000000000)(hm:m<=100000) :
  Calls prog 211 #[.slice A bs.length c,I (m:Int)] w (FY w (Bt bs m)):=by
 have H:=J h;clear h;have ae:IntKind.u64.wrap (m:Int)=(m:Int):=DA (by unfold U64;omega);have ac:=(Ek bs).2.1;by_cases R:(Az bs).2.2=0
 .have hb:((Az bs).2.2 != 0)=false:=by simpa using R
  have z:=J R;clear R;by_cases hg:m<(Az bs).1
  .have y:A0 bs m=(0,0,5):=by unfold A0;rw[if_neg (by simpa using z.o),if_pos hg]
   have HF:O (Bt bs m=([],0,5)):=by unfold O Bt;rw[y];rfl
   clear y;go_enter func211,ntmps211;exact Qm
  .have y:A0 bs m=((Az bs).1,(Az bs).2.1,0):=by unfold A0;rw[if_neg (by simpa using z.o),if_neg hg]
   have HF:O (Bt bs m=Dc bs (Az bs).1 [] (Az bs).2.1):=by unfold O Bt;rw[y];rfl
   have af:(Az bs).1<=m:=U;clear hg y;go_enter func211,ntmps211;go_wp2_with fail;refine(Es A c bs w H.o hl).mono ?_;rintro e w' ⟨rfl,rfl⟩;unfold Ce;rw[z.o] at hb|-;generalize (Az bs).1=count at *;generalize (Az bs).2.1=n0 at *;clear z hb;have ab:decide (m<count)=false:=zm;go_wp2;clear ae ab;go_loopw [8,10,11,12,13,14] (λnv v i _ _ _ wr=>∃(k n:Nat) (l:List Int),k<=count/\n<=bs.length/\l.length<=k/\nv=I (n:Int)/\i=.int .u64 (k:Int)/\O (Dc bs (count - k) l n=Bt bs m)/\Own wr w.heap.size 3 v (Ai l)/\V w wr) (λ_ _ i _ _ _ _=>count - (intOf i).toNat)
   case atStart=>exact⟨0,n0,[],U,ac,zj,rfl,rfl,HF.o.symm,Own.nil _ _ _,V.refl _⟩
   case round=>
    obtain⟨k,n,l,Q,hn,ag,rfl,rfl,HM,ho,u⟩:=hrel;by_cases W:k<count
    .have aa:=Hh (bs.drop n);rw[zD] at aa;have G:n+(AR (bs.drop n)).2.1<=bs.length:=U;clear aa;by_cases hf:(AR (bs.drop n)).2.2=0
     .have X:=J (UA HM.o W hf);have hb:((AR (bs.drop n)).2.2 != 0)=false:=by simpa using hf
      clear hf;by_cases j:c=n
      .have K:=J (λA'=>FE bs n▸Row.past (w:=wr) (A:=A') (xs:=Aj bs) (k:=n) (by rw[Bo];omega));subst j;go_wp2_with fail;refine(GJ _ _ _ (bs.drop c) _ (K.o _) (by rw[zD];omega) (by simp only[zD];try omega)).mono ?_;rintro e' w' ⟨rfl,rfl⟩;unfold Ck;generalize AR (bs.drop c)=r at *;go_wp2_with (first
        | (at_builtin;refine DD rfl (.tmp 46) (.tmp 48) rfl _ w.heap.size _ l zi _ zi ho U u.size ?_;intro v1 F D T ad))
       go_roundw
       case rel=>exact⟨k+1,c+r.2.1,l++[r.1],U,G,zm,by go_num,by go_num,X,D,T.below u u.size (λq hq=>(ho.lt q hq).1)⟩
       case measure=>simp[intOf];omega
      .have K:=J (FE bs n▸Row.map_ (k:=n) (H.o.ext u) (by rw[Bo];exact hc) j);go_wp2_with fail;refine(GJ _ _ _ (bs.drop n) _ K.o (by rw[zD];omega) (by simp only[zD];try omega)).mono ?_;rintro e' w' ⟨rfl,rfl⟩;unfold Ck;generalize AR (bs.drop n)=r at *;go_wp2_with (first
        | (at_builtin;refine DD rfl (.tmp 46) (.tmp 48) rfl _ w.heap.size _ l zi _ zi ho U u.size ?_;intro v1 F D T ad))
       go_roundw
       case rel=>exact⟨k+1,n+r.2.1,l++[r.1],U,G,zm,by go_num,by go_num,X,D,T.below u u.size (λq hq=>(ho.lt q hq).1)⟩
       case measure=>simp[intOf];omega
     .have HD:=J (Uf HM.o W hf);have hb:((AR (bs.drop n)).2.2 != 0)=true:=by simpa using hf
      clear hf;by_cases j:c=n
      .have K:=J (λA'=>FE bs n▸Row.past (w:=wr) (A:=A') (xs:=Aj bs) (k:=n) (by rw[Bo];omega));subst j;go_wp2_with fail;refine(GJ _ _ _ (bs.drop c) _ (K.o _) (by rw[zD];omega) (by simp only[zD];try omega)).mono ?_;rintro e' w' ⟨rfl,rfl⟩;unfold Ck;generalize AR (bs.drop c)=r at *;go_wp2;go_ret3
       exact Gq HD.o rfl (Own.nil _ _ _) u
      .have K:=J (FE bs n▸Row.map_ (k:=n) (H.o.ext u) (by rw[Bo];exact hc) j);go_wp2_with fail;refine(GJ _ _ _ (bs.drop n) _ K.o (by rw[zD];omega) (by simp only[zD];try omega)).mono ?_;rintro e' w' ⟨rfl,rfl⟩;unfold Ck;generalize AR (bs.drop n)=r at *;go_wp2;go_ret3
       exact Gq HD.o rfl (Own.nil _ _ _) u
    .have HD:=J (U1 HM.o W);go_wp2;go_ret3
     exact Gq HD.o rfl ho u
 .have y:A0 bs m=(0,0,(Az bs).2.2):=by unfold A0;rw[if_pos R]
  have HF:O (Bt bs m=([],0,(Az bs).2.2)):=by unfold O Bt;rw[y];exact if_pos R
  have hb:((Az bs).2.2 != 0)=true:=by simpa using R
  clear R y;go_enter func211,ntmps211;exact Qm
theorem Q5{P:Prop}(h:P:=by
 rintro e F ⟨A1,c1,rfl,af,al,D,j⟩;have T:=J j;clear j;obtain⟨X,q1,q2,q3,q4⟩:=V.view_new T.o;by_cases hf:R.2.2=0
 .have ae:(R.2.2 != 0)=false:=by simpa using hf
  have ac:=J hf;clear hf;cases y:Bl R.1 16
  .have HF:=J (H4.o ac.o y);have ab:=J y;clear y;go_wp2_with fail;refine(Mc _ _ _ _ D.row U false ab.o).mono ?_;rintro e w2 ⟨rfl,q⟩;have K:=T.o.t q.ext;clear q X q1 q2 q3 q4;obtain⟨X,q1,q2,q3,q4⟩:=V.view_new K.o;go_wp2;exact bodyPost_ret (v:=.tuple #[.agg #[I 0,Zq],I 0,I 3]) (by simp[results,results198,go_sem,X,q1]) rfl (Fa HF.o rfl (Own.nil _ _ _) (((G.o.trans K.o).set zj _).set zj _))
  .have HF:=J (H5.o ac.o y);have ab:=J y;clear y;go_wp2_with fail;refine(Mc _ _ _ _ D.row U true ab.o).mono ?_;rintro e w2 ⟨rfl,q⟩;have K:=T.o.t q.ext;have W:=J (D.ext q.ext);clear q X q1 q2 q3 q4;obtain⟨X,q1,q2,q3,q4⟩:=V.view_new K.o;go_wp2;refine bodyPost_ret (v:=.tuple #[.agg #[I (u:Int),.slice A1 R.1.length c1],I ((aa:Int)+(R.2.1:Int)),I 0]) (by simp[results,results198,go_sem,X,q1]) rfl (Fa HF.o U (Own.set (Own.set (W.o.base zj) ?_ _) ?_ _) (((G.o.trans K.o).set zj _).set zj _))
   .intro k Q;have:=(W.o.lt k Q).1;simp at this|-;omega
   .intro k Q;have:=(W.o.lt k Q).1;simp at this|-;omega
 .have ae:(R.2.2 != 0)=true:=by simpa using hf
  have HF:=J (H3.o hf);clear hf;go_wp2;exact bodyPost_ret (v:=.tuple #[.agg #[I 0,Zq],I 0,I R.2.2]) (by simp[results,results198,go_sem,X,q1]) rfl (Fa HF.o rfl (Own.nil _ _ _) (((G.o.trans T.o).set zj _).set zj _))):P:=h
theorem Q3{P:Prop}(h:P:=by
 rintro e F ⟨A1,c1,rfl,af,al,D,j⟩;have T:=J j;clear j;obtain⟨X,q1,q2,q3,q4⟩:=V.view_new T.o;by_cases hf:R.2.2=0
 .have ae:(R.2.2 != 0)=false:=by simpa using hf
  have ac:=J hf;clear hf;cases y:Bl R.1 16
  .have HF:=J (H4.o ac.o y);have ab:=J y;clear y;go_wp2_with fail;refine(Mb _ _ _ _ D.row U false ab.o).mono ?_;rintro e w2 ⟨rfl,q⟩;have K:=T.o.t q.ext;clear q X q1 q2 q3 q4;obtain⟨X,q1,q2,q3,q4⟩:=V.view_new K.o;go_wp2;exact bodyPost_ret (v:=.tuple #[.agg #[I 0,Zq],I 0,I 3]) (by simp[results,results210,go_sem,X,q1]) rfl (Fa HF.o rfl (Own.nil _ _ _) (((G.o.trans K.o).set zj _).set zj _))
  .have HF:=J (H5.o ac.o y);have ab:=J y;clear y;go_wp2_with fail;refine(Mb _ _ _ _ D.row U true ab.o).mono ?_;rintro e w2 ⟨rfl,q⟩;have K:=T.o.t q.ext;have W:=J (D.ext q.ext);clear q X q1 q2 q3 q4;obtain⟨X,q1,q2,q3,q4⟩:=V.view_new K.o;go_wp2;refine bodyPost_ret (v:=.tuple #[.agg #[I (u:Int),.slice A1 R.1.length c1],I ((aa:Int)+(R.2.1:Int)),I 0]) (by simp[results,results210,go_sem,X,q1]) rfl (Fa HF.o U (Own.set (Own.set (W.o.base zj) ?_ _) ?_ _) (((G.o.trans K.o).set zj _).set zj _))
   .intro k Q;have:=(W.o.lt k Q).1;simp at this|-;omega
   .intro k Q;have:=(W.o.lt k Q).1;simp at this|-;omega
 .have ae:(R.2.2 != 0)=true:=by simpa using hf
  have HF:=J (H3.o hf);clear hf;go_wp2;exact bodyPost_ret (v:=.tuple #[.agg #[I 0,Zq],I 0,I R.2.2]) (by simp[results,results210,go_sem,X,q1]) rfl (Fa HF.o rfl (Own.nil _ _ _) (((G.o.trans T.o).set zj _).set zj _))):P:=h
theorem T5(A:Option Addr)(c n:Nat)(bs:List UInt8)(m:Nat)(w:World)(h:Row w A (Aj bs))(j:bs.length<=c)(hl:bs.length<=1000000000)(q:m<=100000)(u:n=bs.length) :
  Calls prog 225 #[.slice A n c,I (m:Int)] w (FY w (Bt bs m)):=by subst u;exact Ta A c bs m w h j hl q
theorem Si(A:Option Addr)(c n:Nat)(bs:List UInt8)(m:Nat)(w:World)(h:Row w A (Aj bs))(j:bs.length<=c)(hl:bs.length<=1000000000)(q:m<=100000)(u:n=bs.length) :
  Calls prog 211 #[.slice A n c,I (m:Int)] w (FY w (Bt bs m)):=by subst u;exact Sf A c bs m w h j hl q
theorem Mb(A:Option Addr)(c:Nat)(xs:List Int)(w:World)(h:Row w A (Ai xs))(u:xs.length<=9223372036854775807)(b:Bool)(hb:Bl xs 16=b) :
  Calls prog 155 #[.slice A xs.length c] w λe w'=>e=.returned (.bool b)/\Still w w':=by
 subst hb;exact(Me A c xs w h u).mono λe w' ⟨j,q⟩=>⟨j,q▸Still.refl _⟩
theorem Mc(A:Option Addr)(c:Nat)(xs:List Int)(w:World)(h:Row w A (Ai xs))(j:xs.length<=9223372036854775807)(b:Bool)(hb:Bl xs 16=b) :
  Calls prog 83 #[.slice A xs.length c] w λe w'=>e=.returned (.bool b)/\Still w w':=by
 subst hb;exact Mi A c xs w h j
def Lz(w:World)(r:Int×List Int×Nat×Int)(en:Ending)(w':World):Prop:=
 ∃A c,en=.returned (.tuple #[.agg #[I r.1,.slice A r.2.1.length c],I (r.2.2.1:Int),I r.2.2.2])/\r.2.1.length<=c/\c<=maxLen/\Own w' w.heap.size 3 (.slice A r.2.1.length c) (Ai r.2.1)/\V w w'
theorem Fa{w w':World}{r:Int×List Int×Nat×Int}{u:Int}{l:List Int}{n:Nat}{k e:Int}{v:Value}(z:r=(u,l,n,e))(Q:k=(n:Int))(h:Own w' w.heap.size 3 v (Ai l))(x:V w w'):Lz w r (.returned (.tuple #[.agg #[I u,v],I k,I e])) w':=by
 subst z Q;have hl:(Ai l).length=l.length:=by simp[Ai]
 obtain⟨A,c,y,j,q,_⟩:=h.slice;rw[hl] at y j;subst y;exact⟨A,c,rfl,j,q,h,x⟩
theorem V.view_new{w F:World}(h:V (w.alloc (.cells #[I 0,Zq] 46)) F) :
  F.cell? (Z w.heap.size 0)=some (I 0)/\F.cell? (Z w.heap.size 1)=some Zq/\F.frozen? (Z w.heap.size 0)=false/\F.frozen? (Z w.heap.size 1)=false/\w.heap.size+1<=F.heap.size:=
 ⟨by simpa using h.cell_new 0,by simpa using h.cell_new 1,h.frozen_new 0,h.frozen_new 1,by have:=h.size;simp at this;omega⟩
theorem Row.tail{w:World}{A:Option Addr}{bs:List UInt8}{c n:Nat}(h:Row w A (Aj bs))(q:bs.length<=c)(j:¬c=n):Row w (A.map (·.add n)) (Aj (bs.drop n)):=
 FE bs n▸Row.map_ (k:=n) h (by rw[Bo];exact q) j
theorem Row.empty{w:World}{A:Option Addr}{bs:List UInt8}{n:Nat}(h:bs.length<=n):Row w A (Aj (bs.drop n)):=
 FE bs n▸Row.past (w:=w) (A:=A) (xs:=Aj bs) (k:=n) (by rw[Bo];exact h)
section
variable {bs:List UInt8}
theorem QU(h:(Az bs).2.2≠0):Cu bs=(0,[],0,(Az bs).2.2):=by unfold Cu;rw[if_pos h]
theorem Q0(h:(Az bs).2.2=0)(j:1099511627776<(Az bs).1):Cu bs=(0,[],0,3):=by unfold Cu;rw[if_neg (by simpa using h),if_pos j]
theorem QV(h:(Az bs).2.2=0)(j:¬1099511627776<(Az bs).1)(q:(Bt (bs.drop (Az bs).2.1) 16).2.2≠0):Cu bs=(0,[],0,(Bt (bs.drop (Az bs).2.1) 16).2.2):=by unfold Cu;rw[if_neg (by simpa using h),if_neg j,if_pos q]
theorem Qy(h:(Az bs).2.2=0)(j:¬1099511627776<(Az bs).1)(q:(Bt (bs.drop (Az bs).2.1) 16).2.2=0)(u:Bl (Bt (bs.drop (Az bs).2.1) 16).1 16=false):Cu bs=(0,[],0,3):=by
 unfold Cu;rw[if_neg (by simpa using h),if_neg j,if_neg (by simpa using q),if_pos u]
theorem QD(h:(Az bs).2.2=0)(j:¬1099511627776<(Az bs).1)(q:(Bt (bs.drop (Az bs).2.1) 16).2.2=0)(u:Bl (Bt (bs.drop (Az bs).2.1) 16).1 16=true):Cu bs=(((Az bs).1:Int),(Bt (bs.drop (Az bs).2.1) 16).1,(Az bs).2.1+(Bt (bs.drop (Az bs).2.1) 16).2.1,0):=by
 unfold Cu;rw[if_neg (by simpa using h),if_neg j,if_neg (by simpa using q),if_neg (by simp[u])]
end
theorem VL(bs:List UInt8):∀(c:Nat) (l:List Int) (n:Nat),n<=bs.length->(Dc bs c l n).1.length<=l.length+c/\(Dc bs c l n).2.1<=bs.length:=by
 intro c;induction c with
 | zero=>intro l n j;exact⟨by simp[Dc],j⟩
 | succ c u=>
  intro l n j;by_cases h:(AR (bs.drop n)).2.2=0
  .rw[J8 h];have q:=Hh (bs.drop n);rw[zD] at q;have:=u (l++[(AR (bs.drop n)).1]) (n+(AR (bs.drop n)).2.1) U;simp only[zA,zK,List.length_nil] at this;omega
  .rw[Kh h];simp
theorem PT(bs:List UInt8)(m:Nat):(Bt bs m).1.length<=m/\(Bt bs m).2.1<=bs.length:=by
 unfold Bt;split
 .simp
 .have h:=Gr bs m;have:=VL bs (A0 bs m).1 [] (A0 bs m).2.1 h.2;simp at this;omega
theorem T7(A:Option Addr)(c:Nat)(bs:List UInt8)(w:World)(h:Row w A (Aj bs))(hc:bs.length<=c)(hl:bs.length<=1000000) :
  Calls prog 210 #[.slice A bs.length c] w (Lz w (Cu bs)):=by
 have G:=J (V.new w (.cells #[I 0,Zq] 46));have H:=J (h.ext G.o);clear h;have an:=(Ek bs).2.1;obtain⟨X,q1,q2,q3,q4⟩:=V.view_new (V.refl (w.alloc (.cells #[I 0,Zq] 46)));by_cases he:(Az bs).2.2=0
 .have hb:((Az bs).2.2 != 0)=false:=by simpa using he
  have z:=J he;clear he;by_cases hg:1099511627776<(Az bs).1
  .have HF:=J (Q0 z.o hg);clear X q1 q2 q3 q4;go_enter func210,ntmps210;go_wp2_with fail;refine(Fq A c bs _ H.o U).mono ?_;rintro e w' ⟨rfl,rfl⟩;unfold Ce;go_wp2;exact bodyPost_ret (v:=.tuple #[.agg #[I 0,Zq],I 0,I 3]) (by simp[results,results210,go_sem]) rfl (Fa HF.o rfl (Own.nil _ _ _) G.o)
  .have HG:=J hg;have ao:(Az bs).1<=1099511627776:=U;clear hg;have ak:=PT (bs.drop (Az bs).2.1) 16;rw[zD] at ak;have HV:=J (show ∀F:World,V (w.alloc (.cells #[I 0,Zq] 46)) F->True from λ_ _=>trivial);clear X q1 q2 q3 q4;go_enter func210,ntmps210;go_wp2_with fail;refine(Fq A c bs _ H.o U).mono ?_;rintro e w' ⟨rfl,rfl⟩;unfold Ce;have am:decide (1099511627776<(Az bs).1)=false:=zm;have aj:∀(A':Option Addr) (n' c':Nat),n'=(bs.drop (Az bs).2.1).length->n'<=c'->Row (w.alloc (.cells #[I 0,Zq] 46)) A' (Aj (bs.drop (Az bs).2.1))->
     Calls prog 225 #[.slice A' n' c',I 16] (w.alloc (.cells #[I 0,Zq] 46)) (FY (w.alloc (.cells #[I 0,Zq] 46)) (Bt (bs.drop (Az bs).2.1) 16)):=
    λA' n' c' h1 h2 h3=>T5 A' c' n' (bs.drop (Az bs).2.1) 16 _ h3 U (by rw[zD];omega) U h1
   have ai:=J aj;clear aj;have HT:=J (show ¬c=(Az bs).2.1->Row (w.alloc (.cells #[I 0,Zq] 46)) (A.map (·.add (Az bs).2.1)) (Aj (bs.drop (Az bs).2.1)) from λh=>Row.tail H.o hc h);have ad:=J (show c=(Az bs).2.1->∀A',Row (w.alloc (.cells #[I 0,Zq] 46)) A' (Aj (bs.drop (Az bs).2.1)) from λh A'=>Row.empty U);have H3:=J (λh=>QV z.o HG.o h);have H4:=J (λh h'=>Qy z.o HG.o h h');have H5:=J (λh h'=>QD z.o HG.o h h');rw[z.o] at hb|-;clear z HG HV;have ah:=J (show (bs.drop (Az bs).2.1).length=bs.length - (Az bs).2.1 from zD);generalize hR:Bt (bs.drop (Az bs).2.1) 16=R at *;clear hR;generalize (Az bs).1=u at *;generalize bs.drop (Az bs).2.1=tl at *;generalize (Az bs).2.1=aa at *;by_cases ag:c=aa
   .have HZ:=J (ad.o ag);obtain rfl:aa=c:=ag.symm;clear HT ad;go_wp2_with fail;refine(ai.o _ _ _ (by have:=ah.o;omega) U (HZ.o _)).mono ?_;exact Q3
   .have HZ:=J (HT.o ag);clear HT ad;go_wp2_with fail;refine(ai.o _ _ _ (by have:=ah.o;omega) U HZ.o).mono ?_;exact Q3
 .have hb:((Az bs).2.2 != 0)=true:=by simpa using he
  have HF:=J (QU he);clear he X q1 q2 q3 q4;go_enter func210,ntmps210;go_wp2_with fail;refine(Fq A c bs _ H.o U).mono ?_;rintro e w' ⟨rfl,rfl⟩;unfold Ce;go_wp2;exact bodyPost_ret (v:=.tuple #[.agg #[I 0,Zq],I 0,I (Az bs).2.2]) (by simp[results,results210,go_sem]) rfl (Fa HF.o rfl (Own.nil _ _ _) G.o)
theorem TJ(A:Option Addr)(c:Nat)(bs:List UInt8)(w:World)(h:Row w A (Aj bs))(hc:bs.length<=c)(hl:bs.length<=1000000) :
  Calls prog 198 #[.slice A bs.length c] w (Lz w (Cu bs)):=by
 have G:=J (V.new w (.cells #[I 0,Zq] 46));have H:=J (h.ext G.o);clear h;have an:=(Ek bs).2.1;obtain⟨X,q1,q2,q3,q4⟩:=V.view_new (V.refl (w.alloc (.cells #[I 0,Zq] 46)));by_cases he:(Az bs).2.2=0
 .have hb:((Az bs).2.2 != 0)=false:=by simpa using he
  have z:=J he;clear he;by_cases hg:1099511627776<(Az bs).1
  .have HF:=J (Q0 z.o hg);clear X q1 q2 q3 q4;go_enter func198,ntmps198;go_wp2_with fail;refine(Es A c bs _ H.o U).mono ?_;rintro e w' ⟨rfl,rfl⟩;unfold Ce;go_wp2;exact bodyPost_ret (v:=.tuple #[.agg #[I 0,Zq],I 0,I 3]) (by simp[results,results198,go_sem]) rfl (Fa HF.o rfl (Own.nil _ _ _) G.o)
  .have HG:=J hg;have ao:(Az bs).1<=1099511627776:=U;clear hg;have ak:=PT (bs.drop (Az bs).2.1) 16;rw[zD] at ak;have HV:=J (show ∀F:World,V (w.alloc (.cells #[I 0,Zq] 46)) F->True from λ_ _=>trivial);clear X q1 q2 q3 q4;go_enter func198,ntmps198;go_wp2_with fail;refine(Es A c bs _ H.o U).mono ?_;rintro e w' ⟨rfl,rfl⟩;unfold Ce;have am:decide (1099511627776<(Az bs).1)=false:=zm;have aj:∀(A':Option Addr) (n' c':Nat),n'=(bs.drop (Az bs).2.1).length->n'<=c'->Row (w.alloc (.cells #[I 0,Zq] 46)) A' (Aj (bs.drop (Az bs).2.1))->
     Calls prog 211 #[.slice A' n' c',I 16] (w.alloc (.cells #[I 0,Zq] 46)) (FY (w.alloc (.cells #[I 0,Zq] 46)) (Bt (bs.drop (Az bs).2.1) 16)):=
    λA' n' c' h1 h2 h3=>Si A' c' n' (bs.drop (Az bs).2.1) 16 _ h3 U (by rw[zD];omega) U h1
   have ai:=J aj;clear aj;have HT:=J (show ¬c=(Az bs).2.1->Row (w.alloc (.cells #[I 0,Zq] 46)) (A.map (·.add (Az bs).2.1)) (Aj (bs.drop (Az bs).2.1)) from λh=>Row.tail H.o hc h);have ad:=J (show c=(Az bs).2.1->∀A',Row (w.alloc (.cells #[I 0,Zq] 46)) A' (Aj (bs.drop (Az bs).2.1)) from λh A'=>Row.empty U);have H3:=J (λh=>QV z.o HG.o h);have H4:=J (λh h'=>Qy z.o HG.o h h');have H5:=J (λh h'=>QD z.o HG.o h h');rw[z.o] at hb|-;clear z HG HV;have ah:=J (show (bs.drop (Az bs).2.1).length=bs.length - (Az bs).2.1 from zD);generalize hR:Bt (bs.drop (Az bs).2.1) 16=R at *;clear hR;generalize (Az bs).1=u at *;generalize bs.drop (Az bs).2.1=tl at *;generalize (Az bs).2.1=aa at *;by_cases ag:c=aa
   .have HZ:=J (ad.o ag);obtain rfl:aa=c:=ag.symm;clear HT ad;go_wp2_with fail;refine(ai.o _ _ _ (by have:=ah.o;omega) U (HZ.o _)).mono ?_;exact Q5
   .have HZ:=J (HT.o ag);clear HT ad;go_wp2_with fail;refine(ai.o _ _ _ (by have:=ah.o;omega) U HZ.o).mono ?_;exact Q5
 .have hb:((Az bs).2.2 != 0)=true:=by simpa using he
  have HF:=J (QU he);clear he X q1 q2 q3 q4;go_enter func198,ntmps198;go_wp2_with fail;refine(Es A c bs _ H.o U).mono ?_;rintro e w' ⟨rfl,rfl⟩;unfold Ce;go_wp2;exact bodyPost_ret (v:=.tuple #[.agg #[I 0,Zq],I 0,I (Az bs).2.2]) (by simp[results,results198,go_sem]) rfl (Fa HF.o rfl (Own.nil _ _ _) G.o)
theorem SW{P:Program}{aa:Array Oper}{o:Oper}{a:Act}{K:Act->World->Prop}{Q:Exit->Act->World->Prop}{E:Prop}(ac:o.guard=none)(s x:Operand)(t e:TypeId)(z:Value)(D:Nat)
  (ho:o.op=.call {callee:=.builtin .append,args:=#[s,x],argTypes:=#[t,t]}) (ht:P.underlying t=some (.slice e))
  (R:(P.info? e).map (λi=>(i.zero,i.size,i.bytes))=some (some z,1,D)) (ag:z.cells.size=1) (ab:D<=64)
  (W:World) (B:Nat) (v:Value) (xs:List Value) (hs:a.eval s=v) (A:Option Addr) (m c:Nat) (y:List Value) (hx:a.eval x=.slice A m c) (hm:m=y.length) (hr:Row W A y) (h1:∀u∈y,u.oneCell'=true)
  (F:Own W B e v xs) (hl:xs.length+m<2000000000) (hb:B<=W.heap.size)
  (h:∀v' w',Own w' B e v' (xs++y)->Grew W w' v->Stems W v v'->K (a.put o.dst v') w') :
  if Region.wanted o (yielded aa a.tmps)=true then Oper.wp P o a W K Q else E:=by
 have hw:Region.wanted o (yielded aa a.tmps)=true:=by simp[Region.wanted,ac]
 rw[if_pos hw];obtain⟨i0,hi,af,X,ah⟩:=info_parts R;rcases A with _|ad
 .have hn:y=[]:=by
   rcases y with _|⟨u,l⟩
   .rfl
   .obtain⟨b,ai,hh,_⟩:=hr zj;cases hh
  subst hn;simp only[List.length_nil] at hm;subst hm;have G:=Mp (P:=P) W B t o.type e i0 1 ht hi v xs.length xs F c;unfold Oper.wp execOp;simp only[ho,resolve,invoke,builtin,Sem.run_bind,Sem.run_pure,Result.andThen_ok,List.map_toArray,List.map_cons,List.map_nil,hs,hx,G];exact h v W (by rw[List.append_nil];exact F) ⟨rfl,rfl,rfl,zR _,λ_ _ _=>rfl⟩ (.inl rfl)
 .obtain⟨v',w',G,h2,h3,_,T⟩:=run_append_own_at (P:=P) W B t o.type e i0 z 1 D ht hi af X ah ag zd v xs.length xs F ad m c y U (by
   intro j q hj;obtain⟨b,ai,hh,_,h3⟩:=hr.addr (zZ hj).1;cases hh;have:=h3 j q hj;unfold Addr.add;split
   .next h0=>subst h0;simpa using this
   .exact this) h1 (by unfold maxLen;omega) (by
   calc (xs.length+m)*D<=2000000000*64:=Nat.mul_le_mul U ab
    _<=_:=by decide) hb
  unfold Oper.wp execOp;simp only[ho,resolve,invoke,builtin,Sem.run_bind,Sem.run_pure,Result.andThen_ok,List.map_toArray,List.map_cons,List.map_nil,hs,hx,G];have ae:(xs++y).length=xs.length+m:=by rw[zA,hm]
  refine h v' w' ?_ h3 ?_
  .unfold Own;rw[ae];exact h2
  .rcases T with T|T
   .exact .inl T
   .exact .inr ⟨_,T,zR _⟩
theorem Q9{P:Prop}(h:P:=by
 rintro e F ⟨rfl,j⟩;go_wp2;go_ret;exact El (by rw[z.o];exact Own.nil _ _ _) (G.o.trans j)):P:=h
theorem Jz{u:Int}{xs:List Int}(h:AK u xs=true):u.toNat<U64:=by
 have:=Ev h;unfold U64;omega
theorem GivesB.from{a w w':World}{bs:List UInt8}{j:Ending}(e:V a w)(h:GivesB w bs j w'):GivesB a bs j w':=by
 obtain⟨A,c,q,u,y,z,D⟩:=h;exact⟨A,c,q,u,y,z.base e.size,e.trans D⟩
theorem UX(u:Int)(A:Option Addr)(c:Nat)(xs:List Int)(w:World)(h:Row w A (Ai xs))(hn:xs.length<=9223372036854775807) :
  Calls prog 158 #[.agg #[I u,.slice A xs.length c]] w (GivesB w (DH u xs)):=by
 have G:=J (V.new w (.cells #[I u,.slice A xs.length c] 46));have HX:=J (h.ext G.o);clear h;by_cases y:AK u xs=true
 .have z:=J (KZ y);have W:=J y;have ad:=Ev y;have ag:xs.length<=16:=(Dk y).2;clear y;obtain⟨k,Q⟩:∃k:Nat,u=(k:Int):=⟨u.toNat,U⟩;subst Q;have aj:IntKind.u64.wrap (k:Int)=(k:Int):=DA (by have:=Jz W.o;simpa using this);have D:=J (show k<U64 by have:=Jz W.o;simpa using this);go_enter func158,ntmps158;go_wp2_with fail;refine(FG _ _ _ _ _ HX.o hn W.o).mono ?_;rintro e F ⟨rfl,j⟩;have X:F.cell? (Y w 0)=some (I k):=by simpa using j.cell_new 0
  have q1:F.cell? (Y w 1)=some (.slice A xs.length c):=by simpa using j.cell_new 1
  have q2:w.heap.size+1<=F.heap.size:=by have:=j.size;simp at this;omega
  have T:=HX.o.e j;have H1:=G.o.t j;clear j;go_wp2;go_region_held3 (λw'=>w'.cell? (Y w 0)=some (I k)/\w'.cell? (Y w 1)=some (.slice A xs.length c))
   (first|go_keep|(go_split_ands;refine⟨?_,?_⟩<;>first|(rw[aa.cell zm];assumption)|(rw[q.cell zm];assumption)))
   (first
    | (go_at_call 123;refine(Mr none 0 [] k _ (by exact Row.nil _ _) zj D).mono ?_;rintro e w2 ⟨A2,c2,rfl,ae,ah,ab,q⟩;have s2:F.heap.size<=w2.heap.size:=q.size;have K:=J (Row.ext (w:=F.drew) T.o q))
    | (go_at_call 193;refine(Ss _ _ _ _ _ _ _ (by exact ab.row) (by exact K.o) (by have:=BW D.o;simp;omega) U (KJ W.o)).mono ?_;rintro e w3 ⟨A3,c3,rfl,af,ai,ac,aa⟩))
  go_wp2;go_ret;exact GivesB.from (V.drew H1.o |>.trans q) (El (by rw[z.o];simpa using ac) aa)
 .have R:AK u xs=false:=by simpa using y
  have z:=J (PY R);have W:=J R;clear y R;go_enter func158,ntmps158;go_wp2_with fail;refine(It _ _ _ _ _ HX.o hn W.o).mono ?_;exact Q9
theorem TX(u:Int)(A:Option Addr)(c:Nat)(xs:List Int)(w:World)(h:Row w A (Ai xs))(hn:xs.length<=9223372036854775807) :
  Calls prog 104 #[.agg #[I u,.slice A xs.length c]] w (GivesB w (DH u xs)):=by
 have G:=J (V.new w (.cells #[I u,.slice A xs.length c] 46));have HX:=J (h.ext G.o);clear h;by_cases y:AK u xs=true
 .have z:=J (KZ y);have HV:=J y;have ai:=Ev y;have al:xs.length<=16:=(Dk y).2;clear y;obtain⟨k,Q⟩:∃k:Nat,u=(k:Int):=⟨u.toNat,U⟩;subst Q;have aq:IntKind.u64.wrap (k:Int)=(k:Int):=DA (by have:=Jz HV.o;simpa using this);have aa:=J (show k<U64 by have:=Jz HV.o;simpa using this);have am:=BW aa.o;have ah:(AB xs.length).length+(BL xs).length<=1000:=by
   have h1:=Jt (KJ HV.o) xs.length;have h2:=BW (Gl (n:=xs.length) U);rw[List.take_length] at h1;omega
  go_enter func104,ntmps104;go_wp2_with fail;refine(EY _ _ _ _ _ HX.o hn HV.o).mono ?_;rintro e F ⟨rfl,j⟩;have X:F.cell? (Y w 0)=some (I k):=by simpa using j.cell_new 0
  have q1:F.cell? (Y w 1)=some (.slice A xs.length c):=by simpa using j.cell_new 1
  have q2:w.heap.size+1<=F.heap.size:=by have:=j.size;simp at this;omega
  have T:=HX.o.e j;have H1:=G.o.t j;clear j;go_wp2;go_region_held3 (λw'=>w'.cell? (Y w 0)=some (I k)/\w'.cell? (Y w 1)=some (.slice A xs.length c))
   (first|go_keep|(go_split_ands;refine⟨?_,?_⟩<;>first|(rw[ac.cell zm];assumption)|(rw[R.cell zm];assumption)|(rw[D.cell zm];assumption)))
   (first
    | (go_at_call 105;refine(D6 k _ aa).mono ?_;rintro e w2 ⟨A2,c2,rfl,aj,an,ae,D⟩;have s2:F.heap.size<=w2.heap.size:=D.size;have K:=J (Row.ext (w:=F.drew) T.o D))
    | (go_at_call 164;refine(Tn _ _ _ _ (by exact K.o) U (KJ HV.o)).mono ?_;rintro e w3 ⟨A3,c3,rfl,ak,ao,af,R⟩;have s3:=R.size;have W:=J (ae.ext R))
    | (refine SW zi (.tmp 9) (.tmp 12) _ 5 _ 1 zi Tryz.underlying29 D8 rfl zd w3 F.heap.size _ (Aj (AB k)) zi _ _ _ (Aj (AB xs.length++BL xs)) zi (by simp only[Bo,zA]) af.row (FN _) W.o (by rw[Bo];omega) U ?_;intro v4 w4 ag ad ap;have ac:Below F.heap.size w3 w4:=(Below.refl _ _).grown ad U (λq hq=>(W.o.lt q hq).1)))
  go_wp2;go_ret;refine GivesB.from H1.o (El (w:=F) (by rw[z.o,List.append_assoc,Ew];simpa using ag) ?_);exact Below.trans (V.trans (V.drew (V.refl F)) (V.trans D R)) ac
 .have ab:AK u xs=false:=by simpa using y
  have z:=J (PY ab);have HV:=J ab;clear y ab;go_enter func104,ntmps104;go_wp2_with fail;refine(Ie _ _ _ _ _ HX.o hn HV.o).mono ?_;exact Q9
theorem Qf{P:Prop}(h:P:=by
 have u:=J hb;go_wp2;go_roundw
 case rel=>exact⟨k+1,U,by go_num,by rw[HT.o];simp[u.o],F.o.alloc _⟩
 case measure=>simp[intOf];omega):P:=h
theorem C9{w:World}{A:Option Addr}{l:List Ent}{i:Nat}(h:Row w A (Aa.cells l))(Q:i<l.length) :
  ∃b y e,A=some (Z b y)/\b<w.heap.size/\w.cell? (Z b (y+i*4))=some (I (Ent.v e))/\w.cell? (Z b (y+i*4+1))=some (I e.o)/\w.cell? (Z b (y+i*4+2))=some (I e.q)/\w.cell? (Z b (y+i*4+3))=some (.string (Ah e.p))/\O (l[i]?=some e):=by
 obtain⟨b,y,e,D,F,G,_,K⟩:=Elem.Box.at_ (E:=Aa) (w:=w) (A:=A) (l:=l) ⟨h,λa _=>⟨trivial,λr R=>by simp[Aa] at R⟩⟩ Q;have z:∀j u,(Aa.f e)[j]?=some u->w.cell? (Z b (y+i*4+j))=some u:=G.o;exact⟨b,y,e,D,F,by simpa using z 0 _ rfl,z 1 _ rfl,z 2 _ rfl,z 3 _ rfl,K⟩
theorem DK{w:World}{A:Option Addr}{l:List VwM}{i:Nat}(h:AL.Box w A l)(R:i<l.length) :
  ∃b q n X z xs,A=some (Z b q)/\b<w.heap.size/\w.cell? (Z b (q+i*2))=some (I n)/\w.cell? (Z b (q+i*2+1))=some (.slice X (List.length xs) z)/\O (Row w X (Ai xs))/\xs.length<=z/\z<=maxLen/\O (l[i]?=some ⟨n,X,z,xs⟩):=by
 obtain⟨b,q,v,F,G,K,D,Q⟩:=h.at_ R;have y:∀j u,(AL.f v)[j]?=some u->w.cell? (Z b (q+i*2+j))=some u:=K.o;exact⟨b,q,v.n,v.A,v.c,v.xs,F,G,by simpa using y 0 _ rfl,y 1 _ rfl,J (D.o.2 (v.A,Ai v.xs) (by simp[AL])),D.o.1.1,D.o.1.2,Q⟩
def vws(l:List VwM):List Vw:=l.map VwM.v
theorem AW(l:List VwM):(vws l).length=l.length:=by simp[vws]
theorem Dw{l:List VwM}{i:Nat}{n:Int}{X:Option Addr}{j:Nat}{xs:List Int}(h:l[i]?=some ⟨n,X,j,xs⟩):(vws l)[i]?=some (n,xs):=by simp[vws,h,VwM.v]
theorem IQ(n:Int)(w:World):Calls prog 71 #[I n] w λe w'=>e=.returned (.bool (AQ n))/\w=w':=by
 by_cases j:1<=n
 .have q:decide (1<=n)=true:=decide_eq_true j;go_enter func71,ntmps71;go_wp2;go_ret;exact⟨AC (by simp[AQ,j]),rfl⟩
 .have q:decide (1<=n)=false:=decide_eq_false j;have H:=J j;clear j;go_enter func71,ntmps71;go_wp2;go_ret;exact⟨AC (by rw[AQ,decide_eq_false (Int.not_le.2 H.o)];rfl),rfl⟩
theorem Jq{l:List Ent}{k:Nat}{e:Ent}{o:Int}(h:l[k]?=some e):Aq (l.take (k+1)) o=Aq (l.take k) o+if e.o == o then 1 else 0:=by
 unfold Aq;rw[Cz h];simp[List.countP_append,List.countP_cons]
theorem ZD{l:List Ent}{k:Nat}{o:Int}(h:¬k<l.length):Aq (l.take k) o=Aq l o:=by rw[List.take_of_length_le U]
theorem QJ(l:List Ent)(o:Int):Aq l o<=l.length:=List.countP_le_length
theorem G1(l:List Ent)(k:Nat)(o:Int):Aq (l.take k) o<=k:=zL (QJ _ _) zm
theorem Em(A:Option Addr)(c:Nat)(l:List Ent)(o:Int)(w:World)(h:Row w A (Aa.cells l))(T:l.length<=1000000000) :
  Calls prog 91 #[.slice A l.length c,I o] w λe w'=>e=.returned (I (Aq l o))/\V w w':=by
 have H:=J h;clear h;go_enter func91,ntmps91;go_wp2;go_loopw [5,10] (λn i wr=>∃k:Nat,k<=l.length/\i=I k/\n=I (Aq (l.take k) o)/\V w wr) (λ_ i _=>l.length - (intOf i).toNat)
 case atStart=>exact⟨0,zO _,rfl,rfl,V.refl _⟩
 case round=>
  obtain⟨k,Q,rfl,rfl,j⟩:=hrel;have F:=J j;clear j;by_cases q:k<l.length
  .obtain⟨b,D,e,rfl,hb,G,c1,K,R,z⟩:=C9 (H.o.ext F.o) q;have HT:=J (Jq (o:=o) z.o);have y:=G1 l k o;generalize Aq (l.take k) o=n at *;cases hb:e.o == o
   .exact Qf
   .exact Qf
  .go_wp2;go_ret;exact⟨DQ (congrArg Nat.cast (ZD q)),F.o⟩
def PQ(w:World)(v:Vw)(en:Ending)(w':World):Prop:=
 ∃A c,en=.returned (.agg #[I v.1,.slice A v.2.length c])/\v.2.length<=c/\c<=maxLen/\O (Row w' A (Ai v.2))/\V w w'
theorem WH{w w':World}{v:Vw}{n:Int}{A:Option Addr}{c:Nat}{xs:List Int}(y:v=(n,xs))(h:xs.length<=c)(j:c<=maxLen)(q:Row w' A (Ai xs))(e:V w w'):PQ w v (.returned (.agg #[I n,.slice A xs.length c])) w':=by
 subst y;exact⟨A,c,rfl,h,j,J q,e⟩
theorem Jk{l:List Vw}{j:Nat}{v:Vw}(q:l.length=j+1)(h:l[j]?=some v):Ar l=v:=by
 unfold Ar Bu;rw[q,Nat.add_sub_cancel,h];rfl
theorem WS(A:Option Addr)(c:Nat)(l:List VwM)(w:World)(h:AL.Box w A l)(W:0<l.length)(T:l.length<=1000000000) :
  Calls prog 49 #[.slice A l.length c] w (PQ w (Ar (vws l))):=by
 obtain⟨j,q⟩:∃j,l.length=j+1:=⟨l.length - 1,U⟩;obtain⟨b,Q,n,X,D,xs,rfl,hb,R,c1,y,F,G,z⟩:=DK h (show j<l.length by omega);have u:=J (Jk (by rw[AW];exact q) (Dw z.o));have K:IntKind.i64.wrap ((l.length:Int) - 1)=(j:Int):=by rw[IntWalk.i64_in _ U];omega
 have k1:(0:Int)<=(j:Int):=U;have k2:(j:Int)<(l.length:Int):=U;have k3:j<l.length:=U;clear q h;go_enter func49,ntmps49;go_wp2;refine bodyPost_ret (v:=.agg #[I n,.slice X xs.length D]) (by simp[results,results49,go_sem]) rfl (WH u.o F G (y.o.ext (V.new _ _)) (V.new _ _))
def Zg(w:World)(v:Vw)(en:Ending)(w':World):Prop:=
 ∃A c,en=.returned (.agg #[I v.1,.slice A v.2.length c])/\v.2.length<=c/\c<=maxLen/\O (Row w' A (Ai v.2))/\O (∀p,Ai v.2≠[]->A=some p->w.heap.size<=p.block)/\V w w'
theorem own_new{w':World}{B:Nat}{A:Option Addr}{n c:Nat}{vs:List Value}{α:Type}{E:Elem α}{l:List α}(h:E.Own w' B (.slice A n c) l):∀p,vs≠[]->A=some p->B<=p.block:=by
 intro p _ j;subst j;exact(h.lt p.block rfl).1
theorem Elem.Own.set_other{α:Type}{E:Elem α}{w:World}{B:Nat}{v:Value}{l:List α}(h:E.Own w B v l){p:Addr}(j:∀k,v.ownBlock=some k->k≠p.block)(u:Value):E.Own (w.setCell p u) B v l:=
 h.keep λk Q _=>Below.heap_setCell _ _ _ _ (j k Q)
theorem Mm(n:Int)(A:Option Addr)(c:Nat)(xs:List Int)(w:World)(h:Row w A (Ai xs))(hn:xs.length<=1000000) :
  Calls prog 86 #[.agg #[I n,.slice A xs.length c]] w (Zg w (n,xs)):=by
 have G:=J ((V.new w (.cells #[I n,.slice A xs.length c] 46)).alloc (.cells #[I 0,Zq] 46));have u:O (FD.Box (((w.alloc (.cells #[I n,.slice A xs.length c] 46)).alloc (.cells #[I 0,Zq] 46)).drew) A xs):=J ⟨by rw[MY];exact h.ext G.o.drew,λa _=>⟨trivial,λr hr=>by simp[FD] at hr⟩⟩;clear h;go_enter func86,ntmps86;go_wp2;go_region_held3 (λw'=>w'.cell? (Y w 0)=some (I n)/\w'.cell? (Y w 1)=some (.slice A xs.length c))
  (first|(go_keep;done)|exact⟨z,F⟩|exact⟨t0,t1⟩)
  (first
   | (go_at_call 157;(with_reducible refine(UR A c xs _ (by exact u.o) hn).mono ?_);rintro e v1 ⟨A1,c1,rfl,X,h2,D,j⟩;have y:=J (V.trans G.o.drew j);have q:=J D;have y1:w.heap.size+1<v1.heap.size:=(by have:=j.size;simp at this;omega);have z:v1.cell? ⟨w.heap.size,0,none⟩=some (.int .i64 n):=(by rw[j.cell (by simp<;>omega)];simp);have F:v1.cell? ⟨w.heap.size,1,none⟩=some (.slice A xs.length c):=(by rw[j.cell (by simp<;>omega)];simp);have fz:v1.frozen? ⟨w.heap.size+1,0,none⟩=false:=(by rw[j.frozen zj];simp);have T:v1.frozen? ⟨w.heap.size+1,1,none⟩=false:=(by rw[j.frozen zj];simp);have k0:v1.cell? ⟨w.heap.size+1,0,none⟩=some (.int .i64 0):=(by rw[j.cell zj];simp);have k1:v1.cell? ⟨w.heap.size+1,1,none⟩=some (.slice none 0 0):=(by rw[j.cell zj];simp);clear D j))
 have W:=J ((q.o.1.set_other (p:=(Pv w 0)) (λk Q=>by have:=(q.o.1.lt k Q).1;simp at this;simp only;omega) (I n)).set_other (p:=(Pv w 1)) (λk Q=>by have:=(q.o.1.lt k Q).1;simp at this;simp only;omega) (.slice A1 xs.length c1));have R:=J ((y.o.set (p:=(Pv w 0)) zj (I n)).set (p:=(Pv w 1)) zj (.slice A1 xs.length c1));have K:=J (own_new (vs:=Ai xs) q.o.1);clear q y u G z F;go_wp2;refine bodyPost_ret (v:=.agg #[I n,.slice A1 xs.length c1]) (by simp[results,results86,go_sem,k0,k1]) rfl ?_;exact⟨A1,c1,rfl,X,h2,J (by have:=W.o.row;rwa [MY] at this),J (λp hp hA=>by have:=K.o p hp hA;simp at this;omega),R.o⟩
def CL(e:Ent):Value:=.agg #[.int .i64 e.v,.int .i64 e.o,.int .i64 e.q,.string (Ah e.p)]
theorem IU(n:Int)(A:Option Addr)(c:Nat)(xs:List Int)(w:World)(h:Row w A (Ai xs))(Q:xs.length<=9223372036854775807) :
  Calls prog 87 #[.agg #[I n,.slice A xs.length c]] w λe w'=>e=.returned (CL (AP n xs))/\V w w':=by
 have G:=J ((V.new w (.cells #[I n,.slice A xs.length c] 46)).alloc (.cells #[I 0,I 0,I 0,.string {data:=#[]}] 66));have u:=J (h.ext G.o.drew);clear h;go_enter func87,ntmps87;go_wp2;go_region_held (λw'=>w'.cell? (Y w 0)=some (I n)/\w'.cell? (Y w 1)=some (.slice A xs.length c))
  (first|(go_keep;done)|exact⟨z,F⟩)
  (first
   | (go_at_call 158;(with_reducible refine(UX n A c xs _ (by exact u.o) Q).mono ?_);rintro e v1 ⟨A1,c1,rfl,h1,h2,D,j⟩;have y:=J (V.trans G.o.drew j);have q:=EZ c1 _ D.row rfl;have y1:w.heap.size+1<v1.heap.size:=(by have:=j.size;simp at this;omega);have z:v1.cell? ⟨w.heap.size,0,none⟩=some (.int .i64 n):=(by rw[j.cell (by simp<;>omega)];simp);have F:v1.cell? ⟨w.heap.size,1,none⟩=some (.slice A xs.length c):=(by rw[j.cell (by simp<;>omega)];simp);have f0:v1.frozen? ⟨w.heap.size+1,0,none⟩=false:=(by rw[j.frozen zj];simp);have f1:v1.frozen? ⟨w.heap.size+1,1,none⟩=false:=(by rw[j.frozen zj];simp);have f2:v1.frozen? ⟨w.heap.size+1,2,none⟩=false:=(by rw[j.frozen zj];simp);have f3:v1.frozen? ⟨w.heap.size+1,3,none⟩=false:=(by rw[j.frozen zj];simp);have R:v1.cell? ⟨w.heap.size+1,0,none⟩=some (.int .i64 0):=(by rw[j.cell zj];simp);have T:v1.cell? ⟨w.heap.size+1,1,none⟩=some (.int .i64 0):=(by rw[j.cell zj];simp);have W:v1.cell? ⟨w.heap.size+1,2,none⟩=some (.int .i64 0):=(by rw[j.cell zj];simp);have X:v1.cell? ⟨w.heap.size+1,3,none⟩=some (.string {data:=#[]}):=(by rw[j.cell zj];simp);clear D j))
 have K:=J ((((y.o.set (p:=(Pv w 0)) zj (I n)).set (p:=(Pv w 1)) zj (I 0)).set (p:=(Pv w 2)) zj (I n)).set (p:=(Pv w 3)) zj (.string (Ah (DH n xs))));clear y u G z F q;go_wp2;exact bodyPost_ret (v:=CL (AP n xs)) (by simp[results,results87,go_sem,R,T,W,X,CL,AP]) rfl ⟨rfl,K.o⟩
theorem Mh{P:Program}{id:Nat}{Q:Exit->Act->World->Prop}{a:Act}{w:World}{l:List Oper}(n:Nat)(q:P.follows .mixedOrders=true)(j:Region.lexTailB .any l.toArray n=true)
  (h:wpStill P l.toArray w.drew (λa'=>wpList P l.toArray Q (l.drop n) a' w.drew) (l.take n) a):(Code.region id l.toArray true).wp P Q a w:=wp_region_still_tail n q j h
theorem Dm{P:Program}{j:Array Oper}{w:World}{Q:Act->Prop}{o:Oper}{rest:List Oper}{a:Act}{v:Value}(q:Region.wanted o (yielded j a.tmps)=true)(y:(execOp a.eval o).run P w=.ok (.value v) w)
  (h:wpStill P j w Q rest (a.put o.dst v)):wpStill P j w Q (o::rest) a:=by
 unfold wpStill;rw[if_pos q];unfold Oper.still;rw[y];exact⟨rfl,h⟩
theorem Gf(bs:List UInt8):Ah bs=⟨bs.toArray⟩:=by
 unfold Ah;rw[foldl_push_byteCells];simp
theorem CZ(bs:List UInt8):(Ah bs).size=bs.length:=by rw[Gf];simp[ByteArray.size]
theorem WK{a b:List UInt8}(h:Ah a=Ah b):a=b:=by
 rw[Gf,Gf] at h;simpa using h
theorem Hd(a b:List UInt8):(Ah a=Ah b)↔a=b:=⟨WK,λh=>by rw[h]⟩
theorem Po(w:World)(bs:List UInt8):∃cap F,(convert 9 29 (.string (Ah bs))).run prog w=.ok (.slice (some (Z w.heap.size 0)) bs.length cap) F/\bs.length<=cap/\Row F (some (Z w.heap.size 0)) (Aj bs)/\V w F:=by
 have h:=Go.Lib.run_convert_string_bytes (P:=prog) w 9 29 5 (Ah bs) Tryz.underlying9 Tryz.underlying29 Tryz.underlying5;rw[CZ] at h;refine⟨_,_,h,?_,?_,?_⟩
 .exact grownCap_ge _ _ _ _
 .intro z;refine⟨w.heap.size,0,rfl,by rw[Go.Lib.bytesWorld_size];omega,λj u y=>?_⟩;have q:j<bs.length:=by have:=(zZ y).1;simpa[Aj] using this
  rw[Nat.zero_add,Go.Lib.bytesWorld_cell _ _ _ _ (by rw[CZ];exact q),Gf];simp only[Aj,zM,zY q,Option.map_some,zJ] at y;rw[<-y];simp[List.getD,zY q]
 .exact⟨rfl,rfl,rfl,by rw[Go.Lib.bytesWorld_size];omega,λk Q=>Go.Lib.bytesWorld_at_old _ _ _ k Q⟩
theorem Yj(s:ByteArray):∀(n i:Nat) (r:List UInt8),s.size - i=n->ByteArray.toList.loop s i r=r.reverse++s.data.toList.drop i:=by
 intro n;induction n with
 | zero=>
  intro i r h;unfold ByteArray.toList.loop;have u:s.size=s.data.toList.length:=by rw[Array.length_toList];rfl
  rw[if_neg U,List.drop_eq_nil_of_le U,List.append_nil]
 | succ n y=>
  intro i r h;unfold ByteArray.toList.loop;have u:s.size=s.data.toList.length:=by rw[Array.length_toList];rfl
  have j:i<s.data.toList.length:=U;rw[if_pos U,y (i+1) _ U,List.drop_eq_getElem_cons j,List.reverse_cons,List.append_assoc];have q:s.get! i=s.data.toList[i]:=by
   show s.data[i]! = _;rw[getElem!_pos s.data i (by rw[Array.length_toList] at j;exact j)];simp
  rw[q];rfl
theorem YD(s:ByteArray):s.toList=s.data.toList:=by
 show ByteArray.toList.loop s 0 []=_;rw[Yj s _ 0 [] rfl];simp
theorem E8(bs:List UInt8):(Ah bs).toList=bs:=by rw[YD,Gf]
theorem Py(a b:Ent)(w:World):(binOp .eql 66 (CL a) (CL b)).run prog w=.ok (.bool (decide (a=b))) w:=by
 obtain⟨a1,a2,a3,a4⟩:=a;obtain⟨y,z,D,F⟩:=b;unfold CL;simp only[Ent.mk.injEq];by_cases h:a1=y
 .by_cases j:a2=z
  .by_cases q:a3=D
   .by_cases u:a4=F
    .simp[go_sem,h,j,q,u]
    .simp[go_sem,h,j,q,u,E8]
   .simp[go_sem,h,j,q]
  .simp[go_sem,h,j]
 .simp[go_sem,h]
theorem Ki(e:Ent):DB e=(decide ((Cu e.p).2.2.2=0)&&(decide ((Cu e.p).2.2.1=e.p.length)&&decide (e=AP (Cu e.p).1 (Cu e.p).2.1))):=by unfold DB;rfl
theorem Mg(e:Ent)(w:World)(hl:e.p.length<=1000000) :
  Calls prog 197 #[.agg #[I e.v,I e.o,I e.q,.string (Ah e.p)]] w λr w'=>r=.returned (.bool (DB e))/\V w w':=by
 have G:=J (V.new w (.cells #[I e.v,I e.o,I e.q,.string (Ah e.p)] 66));obtain⟨cap,w2,X,af,D,ab⟩:=Po (w.alloc (.cells #[I e.v,I e.o,I e.q,.string (Ah e.p)] 66)) e.p;simp only[World.size_alloc] at X D;have HR:=J D;have X2:=J ab;clear D ab;go_enter func197,ntmps197;go_wp2_with fail;refine(T7 _ cap e.p w2 HR.o af hl).mono ?_;have R:=J (Ki e);obtain⟨⟨n,xs,k,er⟩,hd⟩:∃r,Cu e.p=r:=⟨_,rfl⟩;rw[hd] at R|-;clear hd X;rintro r j ⟨K,W,rfl,ae,ah,aa,ac⟩;have y:=X2.o.t ac;have RN:=J aa.row;have z3:w.heap.size<j.heap.size:=by have:=y.o.size;simp at this;omega
 have c0:j.cell? (Y w 0)=some (I e.v):=by simpa using y.o.cell_new 0
 have c1:j.cell? (Y w 1)=some (I e.o):=by simpa using y.o.cell_new 1
 have c2:j.cell? (Y w 2)=some (I e.q):=by simpa using y.o.cell_new 2
 have aj:j.cell? (Y w 3)=some (.string (Ah e.p)):=by simpa using y.o.cell_new 3
 have am:=CZ e.p;simp only at RN ae R|-;clear aa ac;by_cases he:er=0;rotate_left
 .have ak:(er == 0)=false:=beq_eq_false_iff_ne.2 he;have z:=J he;clear he;go_wp2;go_quiet (fail);go_wp2;go_ret;exact⟨AC (by rw[R.o,decide_eq_false z.o];rfl),G.o.trans ((y.o.alloc _).drewN _)⟩
 subst he;by_cases Q:k=e.p.length;rotate_left
 .have al:((k:Int) == (e.p.length:Int))=false:=beq_eq_false_iff_ne.2 U;have z:=J Q;clear Q;go_wp2;go_quiet (fail);go_wp2;go_ret;exact⟨AC (by rw[R.o,decide_eq_false z.o];simp),G.o.trans ((y.o.alloc _).drewN _)⟩
 subst Q;have ag:=Py e (AP n xs);unfold CL at ag;have ad:=RN.o.e ((V.new j (.cells #[I n,.slice K xs.length W] 46)).drew);have ai:xs.length<=9223372036854775807:=by unfold maxLen at ah;omega
 go_wp2;go_region_held3 (λw'=>w'.cell? (Y w 0)=some (I e.v)/\w'.cell? (Y w 1)=some (I e.o)/\w'.cell? (Y w 2)=some (I e.q)/\w'.cell? (Y w 3)=some (.string (Ah e.p))/\w'.cell? (Y j 0)=some (I n)/\w'.cell? (Y j 1)=some (.slice K xs.length W))
  (first|(go_keep;done)|exact⟨r0,r1,r2,r3,r4,r5⟩)
  (first
   | (go_at_call 87;(with_reducible refine(IU n K W xs _ (by exact ad.o) ai).mono ?_);rintro r F ⟨rfl,u⟩;unfold CL;have T:=J (((y.o.alloc (.cells #[.int .i64 n,.slice K xs.length W] 46)).drew).trans u);have r0:F.cell? ⟨w.heap.size,0,none⟩=some (.int .i64 e.v):=(by simpa using T.o.cell_new 0);have r1:F.cell? ⟨w.heap.size,1,none⟩=some (.int .i64 e.o):=(by simpa using T.o.cell_new 1);have r2:F.cell? ⟨w.heap.size,2,none⟩=some (.int .i64 e.q):=(by simpa using T.o.cell_new 2);have r3:F.cell? ⟨w.heap.size,3,none⟩=some (.string (Ah e.p)):=(by simpa using T.o.cell_new 3);have r4:F.cell? ⟨j.heap.size,0,none⟩=some (.int .i64 n):=(by rw[u.cell zj];simp);have r5:F.cell? ⟨j.heap.size,1,none⟩=some (.slice K xs.length W):=(by rw[u.cell zj];simp);clear u))
 go_wp2;go_ret;exact⟨AC (by rw[R.o];simp),G.o.trans T.o⟩
end Go.Proofs.YtponbabbabnaeaaGreat
namespace Go.Proofs.YtponbabbabnaeaaGreat
open Tryz
open Go.RowKit Go.Maps
theorem RH:Keyed prog 3:=int_keyed Tryz.underlying3
theorem qi(w:World):(zeroValue 3).run prog w=.ok (.int .i64 0) w:=by kernel_rfl
theorem IZ{H:Type}{w w':World}{P:Program}{k:TypeId}{R:Value->Option (DataW H×List MemPlace)}{b n:Nat}{D:DataW H}(h:w.ownsMap P k R b n D)(e:V w w'):w'.ownsMap P k R b n D:=by
 obtain⟨u,j,q,r⟩:=h;have hb:b<w.heap.size:=by
  rcases Nat.lt_or_ge b w.heap.size with hlt|hge
  .exact hlt
  .rw[Array.getElem?_eq_none hge] at q;cases q
 exact⟨u,j,by rw[e.block b hb];exact q,r⟩
def Da(l:List Ent)(k:Nat):Int:=if k=0 then 0 else Fg l k
theorem MR{l:List Ent}{k:Nat}{e:Ent}(h:l[k]?=some e):Da l (k+1)=e.v:=by
 unfold Da Fg;rw[if_neg U,Nat.add_sub_cancel,h]
theorem Je{l:List Ent}{k:Nat}{e:Ent}(h:k=0):Di l k e=DB e:=by subst h;simp[Di]
theorem LA{l:List Ent}{k:Nat}{e:Ent}(q:k≠0)(h:e.v≠Da l k)(j:e.v<Da l k):Di l k e=false:=by
 unfold Da at *;rw[if_neg q] at h j;rw[Di,if_pos (.inr h),decide_eq_false q,decide_eq_false U];rfl
theorem LC{l:List Ent}{k:Nat}{e:Ent}(q:k≠0)(h:e.v≠Da l k)(j:¬e.v<Da l k):Di l k e=DB e:=by
 unfold Da at *;rw[if_neg q] at h j;rw[Di,if_pos (.inr h),decide_eq_true (p:=Fg l k<=e.v) U,Bool.or_true,Bool.true_and]
theorem QO{l:List Ent}{k:Nat}{e:Ent}(j:k≠0)(h:e.v=Da l k):Di l k e=(AQ e.o&&(decide (e.p.length<=6000)&&decide (e.q=Aq (l.take k) e.o+1))):=by
 unfold Da at h;rw[if_neg j] at h;rw[Di,if_neg (by simp[j,h])]
theorem G4{l:List Ent}{k:Nat}{e:Ent}(h:∀j,j<k->EN l j=true)(q:l[k]?=some e)(Q:Di l k e=true):∀j,j<k+1->EN l j=true:=by
 intro j u;rcases Nat.lt_or_ge j k with h1|h1
 .exact h j h1
 .rw[show j=k by omega,GX q];exact Q
theorem ZQ{e:Ent}(h:DB e=true):e.o=0:=by
 rw[Ki] at h;simp only[zB,zE] at h;rw[h.2.2];rfl
theorem KP{o:Int}(h:AQ o=true):1<=o/\o<=1000:=by simpa[AQ] using h
abbrev Hs(D:DataW Unit)(l:List Ent)(k:Nat):Prop:=IsMap D/\∀o,AQ o=true->D.atKey (.int .i64 o) (.lit (.int .i64 0))=.lit (.int .i64 (Aq (l.take k) o))
theorem XR(l:List Ent):Hs (.map []) l 0:=⟨⟨[],rfl⟩,λ_ _=>rfl⟩
theorem Pc{D:DataW Unit}{l:List Ent}{k:Nat}{e:Ent}(h:Hs D l k)(q:l[k]?=some e)(y:DB e=true):Hs D l (k+1):=by
 refine⟨h.1,λo j=>?_⟩;rw[h.2 o j,Jq q,ZQ y];have:=KP j;rw[if_neg zm];rfl
theorem Y9{D:DataW Unit}{l:List Ent}{k:Nat}{e:Ent}(h:Hs D l k)(y:l[k]?=some e)(F:e.q=Aq (l.take k) e.o+1):Hs (D.put (.int .i64 e.o) (.lit (.int .i64 e.q))) l (k+1):=by
 refine⟨by obtain⟨G,rfl⟩:=h.1;exact⟨_,rfl⟩,λo z=>?_⟩;rw[Jq y];by_cases j:o=e.o
 .subst j;rw[atKey_put_same h.1 (by simp[WideAt.IsKeyLit]),F];simp
 .rw[atKey_put_other (by intro u;cases u;exact j rfl),h.2 o z,if_neg (by simp;exact λu=>j u.symm)];rfl
theorem IR(A:Option Addr)(c:Nat)(l:List Ent)(w:World)(h:Row w A (Aa.cells l))(hn:l.length<=1000000000)(hp:∀e∈l,e.p.length<=1000000) :
  Calls prog 160 #[.slice A l.length c] w λe w'=>e=.returned (.bool (Bc l))/\V w w':=by
 have H:=J h;have aj:=J hp;clear h hp;have av:=@run_makeMap prog;by_cases hl:l.length<=2000;rotate_left
 .have am:2000<l.length:=U;have HL:=J hl;clear hl;go_enter func160,ntmps160;go_wp2;go_ret;exact⟨AC (NI HL.o).symm,V.refl _⟩
 have am:¬2000<l.length:=U;go_enter func160,ntmps160;go_wp2;go_loopw [3,13] (λlv i wr=>∃(k:Nat) (D:DataW Unit),k<=l.length/\i=.int .i64 k/\lv=.int .i64 (Da l k)/\O (∀j,j<k->EN l j=true)/\O (wr.ownsMap prog 3 (plainElem (H:=Unit) prog 3) w.heap.size k D)/\O (Hs D l k)/\V w wr) (λ_ i _=>l.length - (intOf i).toNat)
 case atStart=>exact⟨0,.map [],zO _,rfl,rfl,J (λj hj=>absurd hj (Nat.not_lt_zero _)),J (World.ownsMap_made _ _ _ _),J (XR l),(V.refl _).alloc _⟩
 case round=>
  obtain⟨k,D,Q,rfl,rfl,HT,HM,HQ,ac⟩:=hrel;have F:=J ac;clear ac;by_cases an:k<l.length
  .obtain⟨b,a9,e,rfl,hb,c0,c1,c2,c3,G⟩:=C9 (H.o.ext F.o) an;have HN:=J (MR G.o);have af:e.p.length<=1000000:=aj.o e (zX G.o);have ay:=CZ e.p;have E1:=J (V.new wr (.cells #[.int .i64 e.v,.int .i64 e.o,.int .i64 e.q,.string (Ah e.p)] 66));by_cases hz:k=0
   .have HZ:=J hz;have ap:((k:Int) == 0)=true:=by simp[hz]
    have aq:decide ((0:Int)<(k:Int))=false:=decide_eq_false U;have ar:decide (0<k)=false:=decide_eq_false U;clear hz;go_wp2_with fail;refine(Mg e _ af).mono ?_;cases y:DB e
    .have HV:=J y;clear y;rintro r w2 ⟨rfl,u⟩;have X2:=F.o.t (E1.o.trans u);clear u;go_wp2;go_ret;exact⟨AC (Ex G.o (by rw[Je HZ.o];exact HV.o)).symm,X2.o⟩
    .have HV:=J y;clear y;rintro r w2 ⟨rfl,u⟩;have X1:=E1.o.t u;have X2:=F.o.t X1.o;have d0:w2.cell? (Y wr 0)=some (.int .i64 e.v):=by rw[u.cell zj];simp
     clear u;go_wp2;go_roundw
     case rel=>exact⟨k+1,D,U,by go_num,by rw[HN.o],J (G4 HT.o G.o (by rw[Je HZ.o];exact HV.o)),J ((IZ HM.o X1.o).mono (Nat.le_succ _)),J (Pc HQ.o G.o HV.o),X2.o⟩
     case measure=>simp[intOf];omega
   .have HZ:=J hz;have ap:((k:Int) == 0)=false:=beq_eq_false_iff_ne.2 U;have aq:decide ((0:Int)<(k:Int))=true:=decide_eq_true U;have ar:decide (0<k)=true:=decide_eq_true U;clear hz;by_cases R:e.v=Da l k
    .have z:=J R;have ae:(e.v != Da l k)=false:=by simp[R]
     clear R;have HI:=J (QO (l:=l) HZ.o z.o);generalize Da l k=lv at *;go_wp2_with fail;refine(IQ e.o _).mono ?_;cases hid:AQ e.o
     .have HD:=J hid;clear hid;rintro r w2 ⟨rfl,rfl⟩;go_wp2;go_ret;exact⟨AC (Ex G.o (by rw[HI.o,HD.o];rfl)).symm,F.o.alloc _⟩
     .have HD:=J hid;have au:=KP hid;clear hid;rintro r w2 ⟨rfl,rfl⟩;by_cases h6:e.p.length<=6000;rotate_left
      .have H6:=J h6;have ak:6000<e.p.length:=U;clear h6;go_wp2;go_ret;exact⟨AC (Ex G.o (by rw[HI.o,decide_eq_false H6.o];simp)).symm,F.o.alloc _⟩
      have H6:=J h6;have ak:¬6000<e.p.length:=U;clear h6;have aa:keyOf prog 3 (.int .i64 e.o)=some (.int .i64 e.o):=keyOf_int_mk Tryz.underlying3 (WalkArith.wf_i64 U);obtain⟨cc,ag,ab,_⟩:=(IZ HM.o E1.o).lookup_int RH Tryz.underlying217 Tryz.underlying3 (qi _) aa;have al:cc=(Aq (l.take k) e.o:Int):=by
       have:=ab.symm.trans (HQ.o.2 e.o HD.o);simpa using this
      subst al;have aw:=G1 l k e.o;have az:IntKind.i64.wrap ((Aq (l.take k) e.o:Int)+1)=(Aq (l.take k) e.o:Int)+1:=IntWalk.i64_in _ U;by_cases hq:e.q=Aq (l.take k) e.o+1
      .have X:=J hq;have ao:(e.q != (Aq (l.take k) e.o:Int)+1)=false:=by simp[hq]
       have ah:=J (IZ HM.o E1.o);have ax:1<=e.q/\e.q<=2001:=U;clear hq ab;go_wp2_with (first
        | (at_mapUpdate;refine wpList_mapUpdate_own _ rfl _ _ _ 217 rfl 3 3 RH Tryz.underlying217 _ w.heap.size k _ rfl ah.o (by unfold maxLen;omega) _ _ _ rfl rfl aa _ [] (plainElem_int Tryz.underlying3 (WalkArith.wf_i64 U)) ?_;intro w3 W K)
        | go_in)
       have X3:=J (Below.grown (F.o.trans E1.o) K (F.o.trans E1.o).size (λj hj=>by cases hj;exact zR _));have ai:=J W;clear W K ag;go_roundw
       case rel=>exact⟨k+1,_,U,by go_num,by rw[HN.o,<-z.o],J (G4 HT.o G.o (by rw[HI.o,HD.o,decide_eq_true H6.o,decide_eq_true X.o];rfl)),ai,J (Y9 HQ.o G.o X.o),X3.o⟩
       case measure=>simp[intOf];omega
      .have X:=J hq;have ao:(e.q != (Aq (l.take k) e.o:Int)+1)=true:=by simp[hq]
       clear hq ab;go_wp2;go_ret;exact⟨AC (Ex G.o (by rw[HI.o,decide_eq_false X.o];simp)).symm,F.o.alloc _⟩
    .have z:=J R;have ae:(e.v != Da l k)=true:=by simp[R]
     clear R;by_cases T:e.v<Da l k
     .have HL:=J (LA HZ.o z.o T);generalize Da l k=lv at *;have ad:decide (e.v<lv)=true:=decide_eq_true T;go_wp2;go_ret;exact⟨AC (Ex G.o HL.o).symm,F.o.alloc _⟩
     .have HL:=J (LC HZ.o z.o T);generalize Da l k=lv at *;have ad:decide (e.v<lv)=false:=decide_eq_false T;clear T;go_wp2_with fail;refine(Mg e _ af).mono ?_;cases y:DB e
      .have HV:=J y;clear y;rintro r w2 ⟨rfl,u⟩;have X2:=F.o.t (E1.o.trans u);clear u;go_wp2;go_ret;exact⟨AC (Ex G.o (by rw[HL.o];exact HV.o)).symm,X2.o⟩
      .have HV:=J y;clear y;rintro r w2 ⟨rfl,u⟩;have X1:=E1.o.t u;have X2:=F.o.t X1.o;have d0:w2.cell? (Y wr 0)=some (.int .i64 e.v):=by rw[u.cell zj];simp
       clear u;go_wp2;go_roundw
       case rel=>exact⟨k+1,D,U,by go_num,by rw[HN.o],J (G4 HT.o G.o (by rw[HL.o];exact HV.o)),J ((IZ HM.o X1.o).mono (Nat.le_succ _)),J (Pc HQ.o G.o HV.o),X2.o⟩
       case measure=>simp[intOf];omega
  .go_wp2;go_ret;exact⟨AC (O6 hl (λj hj=>HT.o j U)).symm,F.o⟩
end Go.Proofs.YtponbabbabnaeaaGreat
