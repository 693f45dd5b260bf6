/- Part 17: contracts of functions. Conditions: as each theorem says. -/
import Derived.Test.YtponbabbabnaeaaGreatQh15
set_option maxRecDepth 100000
set_option maxHeartbeats 40000000
set_option linter.unusedVariables false
namespace Go.Proofs.YtponbabbabnaeaaGreat
open Tryz
open Go.RowKit
theorem Vd{s:Nat}(h:s<4294967296)(j:s % 2=1):bits .xor .u32 ((s:Int) / 2) 3988292384=((CX s:Nat):Int):=by
 have q:((s:Int) / 2)=((s / 2:Nat):Int):=U;have:=u32_xor_nat (s / 2) 3988292384 U zd;rw[q];unfold CX;rw[j,Nat.mul_one];exact this
theorem VN{s:Nat}(h:¬s % 2=1):((s:Int) / 2)=((CX s:Nat):Int):=by
 unfold CX;have:s % 2=0:=U;rw[this,Nat.mul_zero,Nat.xor_zero];omega
theorem Z3{s:Nat}(h:s<4294967296):bits .and .u32 (s:Int) 1=((s % 2:Nat):Int):=by
 have:=u32_and_nat s 1 h zd;rw[Nat.and_one_is_mod] at this;exact this
theorem MH(A:Option Addr)(c:Nat)(bs:List UInt8)(w:World)(h:Row w A (Aj bs))(hl:bs.length<=1000000000) :
  Calls prog 189 #[.slice A bs.length c] w λe w'=>e=.returned (.int .u32 (Ch bs:Int))/\w=w':=by
 have H:=J h;clear h;go_enter func189,ntmps189;go_wp2;go_loopw [3,4] (λs i wr=>∃(k n:Nat),k<=bs.length/\i=I (k:Int)/\s=.int .u32 (n:Int)/\O (n=(bs.take k).foldl GC 4294967295)/\w=wr) (λ_ i _=>bs.length - (intOf i).toNat)
 case atStart=>exact⟨0,4294967295,zO _,rfl,rfl,J rfl,rfl⟩
 case round=>
  obtain⟨k,n,hk,rfl,rfl,y,rfl⟩:=hrel;have K:O (n<4294967296):=J (by rw[y.o];exact Nh _ _ zd);by_cases F:k<bs.length
  .obtain⟨b,ac,x,rfl,c0,X⟩:=H.o.byte F;have ab:=Pf x K.o;have q:O (∀m j:Nat,m=EO j (n ^^^ x.toNat)->j<=8->¬j<8->m=(bs.take (k+1)).foldl GC 4294967295):=J (by
    intro m j h1 h2 h3;have h8:j=8:=U;subst h8;rw[h1,<-Lh,y.o,List.take_add_one,X.o];simp)
   go_wp2;go_loopw [3,5] (λs i wr=>∃(j m:Nat),j<=8/\i=I (j:Int)/\s=.int .u32 (m:Int)/\O (m=EO j (n ^^^ x.toNat))/\w=wr) (λ_ i _=>8 - (intOf i).toNat)
   case atStart=>exact⟨0,n ^^^ x.toNat,zO _,rfl,rfl,J rfl,by first|trivial|rfl⟩
   case round=>
    obtain⟨j,m,hj,rfl,rfl,u,rfl⟩:=hrel;have W:O (m<4294967296):=J (by rw[u.o];exact Lj _ _ (J0 x K.o));by_cases D:j<8
    .have aa:=Z3 W.o;by_cases Q:m % 2=1
     .have T:=Vd W.o Q;have z:(((m % 2:Nat):Int) == 1)=true:=by rw[Q];rfl
      go_wp2;go_roundw
      case rel=>exact⟨j+1,CX m,U,by go_num,by first|rfl|(rw[T]),J (by rw[KB,u.o]),by first|trivial|rfl⟩
      case measure=>simp[intOf];omega
     .have R:=VN Q;have z:(((m % 2:Nat):Int) == 1)=false:=zm;go_wp2;go_roundw
      case rel=>exact⟨j+1,CX m,U,by go_num,by first|rfl|(rw[R]),J (by rw[KB,u.o]),by first|trivial|rfl⟩
      case measure=>simp[intOf];omega
    .go_wp2;go_roundw
     case rel=>exact⟨k+1,m,U,by go_num,rfl,J (q.o m j u.o hj D),by first|trivial|rfl⟩
     case measure=>simp[intOf];omega
  .have G:k=bs.length:=U;subst G;go_wp2;go_ret;refine⟨?_,rfl⟩;have hx:=u32_xor_nat 4294967295 n zd K.o;have hc:Ch bs=4294967295 ^^^ n:=by unfold Ch;rw[y.o,List.take_length]
   rw[hc,<-hx];rfl
theorem Y7(v:Nat)(w:World):Own (w.alloc (.cells #[.int .u8 ((v:Int) % 256),.int .u8 ((v:Int) / 256 % 256),.int .u8 ((v:Int) / 65536 % 256),.int .u8 ((v:Int) / 16777216 % 256)] 5)) w.heap.size 5 (.slice (some (Z w.heap.size 0)) 4 4) (Aj (le4 v)):=by
 have e:Aj (le4 v)=[.int .u8 ((v:Int) % 256),.int .u8 ((v:Int) / 256 % 256),.int .u8 ((v:Int) / 65536 % 256),.int .u8 ((v:Int) / 16777216 % 256)]:=by
  simp only[Aj,le4,List.map_cons,List.map_nil,UInt8.toNat_ofNat'];rw[show ((v % 2 ^ 8:Nat):Int)=(v:Int) % 256 by omega,show ((v / 256 % 2 ^ 8:Nat):Int)=(v:Int) / 256 % 256 by omega,show ((v / 65536 % 2 ^ 8:Nat):Int)=(v:Int) / 65536 % 256 by omega,show ((v / 16777216 % 2 ^ 8:Nat):Int)=(v:Int) / 16777216 % 256 by omega]
 rw[e];exact⟨rfl,.inr ⟨w.heap.size,4,_,rfl,zR _,(by show (w.heap.push _)[w.heap.size]?=_;simp;rfl),zR _,by unfold maxLen;decide,rfl,rfl⟩⟩
theorem OH(n:Nat)(w:World):Calls prog 188 #[.int .u32 (n:Int)] w (GivesB w (le4 n)):=by
 go_enter func188,ntmps188;go_wp2;go_ret;exact El (Y7 n w) (V.new _ _)
theorem MS(p:List UInt8)(w:World)(hp:p.length<=100000000):Calls prog 133 #[.string (Ah p)] w (GivesB w (Bq p)):=by
 have D:O (p.length<U64):=J (by unfold U64;omega);have T:=J (BW D.o);have ac:=CZ p;have hw:IntKind.u64.wrap (p.length:Int)=(p.length:Int):=DA D.o;go_enter func133,ntmps133;go_wp2_with fail;refine(D6 p.length w D).mono ?_;rintro e w1 ⟨A1,c1,rfl,W,ab,q,y⟩;have j:=J q;have Q:=J y;clear q y;have aa:(AB p.length).length<=11:=T.o;obtain⟨i0,hi,G,K,R⟩:=info_parts D8;go_wp2_with (first
  | (at_builtin;refine Go.Lib.wpList_append_own_string w1 rfl (.tmp 6) (.tmp 7) 29 9 rfl w.heap.size 5 i0 Tryz.underlying29 Tryz.underlying9 hi G K R _ (AB p.length).length (Aj (AB p.length)) zi (by have:=j.o;unfold Own at this;rw[Bo] at this;exact this) (Ah p) zi (by rw[CZ];unfold maxLen;omega) (by rw[CZ];omega) Q.o.size ?_;intro v2 w2 F z _))
 go_ret;refine El ?_ (Grew.below Q.o z Q.o.size (λk X=>(j.o.lt k X).1));have u:Aj (Bq p)=Aj (AB p.length)++Go.Lib.strCells (Ah p):=by rw[Mn,<-Ew];rfl
 unfold Own;rw[u,zA,Bo,Go.Lib.strCells_length];exact F
theorem EB{y:Array Oper}{rest:List Oper}{o:Oper}{a:Act}{Q:Exit->Act->World->Prop}(G:o.guard=none)(s x:Operand)
  (ho:o.op=.call {callee:=.builtin .append,args:=#[s,x],argTypes:=#[29,29]})
  (W z:World) (A:Option Addr) (n c:Nat) (xs:List UInt8) (hs:a.eval s=.slice A n c) (F:Option Addr) (m K:Nat) (ys:List UInt8) (hx:a.eval x=.slice F m K) (hm:m=ys.length) (hr:O (Row W F (Aj ys)))
  (j:O (Own W z.heap.size 5 (.slice A n c) (Aj xs))) (hl:xs.length+m<2000000000) (he:O (V z W))
  (h:∀D u w',(xs++ys).length<=u->u<=maxLen->O (Own w' z.heap.size 5 (.slice D (xs++ys).length u) (Aj (xs++ys)))->O (V z w')->wpList prog y Q rest (a.put o.dst (.slice D (xs++ys).length u)) w') :
  wpList prog y Q (o::rest) a W:=by
 refine Fp G s x _ 5 _ 1 ho Tryz.underlying29 D8 rfl zd W z.heap.size _ _ hs F m K (Aj ys) hx (by rw[hm,Bo]) hr.o (FN _) j.o (by rw[Bo];exact hl) he.o.size ?_;intro v w' q hg _;rw[<-Ew] at q;obtain⟨D,u,R,T,X,_⟩:=q.slice;rw[Bo] at R T;subst R;exact h D u w' T X (J q) (J (hg.below he.o he.o.size (λk hk=>(j.o.lt k hk).1)))
theorem Zz(k:Nat)(h:k<=255)(w:World):Own (w.alloc (.cells #[.int .u8 65,.int .u8 71,.int .u8 (k:Int)] 5)) w.heap.size 5 (.slice (some (Z w.heap.size 0)) 3 3) (Aj [65,71,UInt8.ofNat k]):=by
 have e:Aj [65,71,UInt8.ofNat k]=[.int .u8 65,.int .u8 71,.int .u8 (k:Int)]:=by
  simp only[Aj,List.map_cons,List.map_nil,UInt8.toNat_ofNat'];rw[show ((k % 2 ^ 8:Nat):Int)=(k:Int) by omega];rfl
 rw[e];exact⟨rfl,.inr ⟨w.heap.size,3,_,rfl,zR _,(by show (w.heap.push _)[w.heap.size]?=_;simp;rfl),zR _,by unfold maxLen;decide,rfl,rfl⟩⟩
theorem Vn(k:Nat)(A:Option Addr)(c:Nat)(j:List UInt8)(w:World)(h:Row w A (Aj j))(hl:j.length<=100000000)(hk:1<=k/\k<=255) :
  Calls prog 165 #[I (k:Int),.slice A j.length c] w λe w'=>∃ad,QW w (AX k j) ad e w':=by
 have H:=J h;clear h;by_cases u:j.length<=16777216
 .have W:O (AX k j=Cw k j++le4 (Ch (Cw k j))):=J (by unfold AX;rw[if_pos u]);have hn:O (j.length<U64):=J (by unfold U64;omega);have X:=J (BW hn.o);have hw:IntKind.u64.wrap (j.length:Int)=(j.length:Int):=DA hn.o;have E0:O (V w (w.alloc (.cells #[.int .u8 65,.int .u8 71,.int .u8 (k:Int)] 5))):=J (V.new _ _);have P0:=J (Zz k hk.2 w);go_enter func165,ntmps165;go_wp2_with fail;refine(D6 j.length _ hn).mono ?_;rintro e w1 ⟨A1,c1,rfl,aj,al,R,y⟩;have Q:=E0.o.t y;have P1:=P0.o.e y;have R1:=J R.row;clear R y P0 E0;go_wp2_with (first
   | (at_builtin;refine EB rfl (.tmp 20) (.tmp 24) rfl _ w _ 3 3 [65,71,UInt8.ofNat k] zi A1 (AB j.length).length c1 (AB j.length) zi rfl R1 P1 (by have:=X.o;simp;omega) Q ?_;intro A2 c2 w2 ag ah aa X2;have R2:=H.o.e X2.o)
   | (at_builtin;refine EB rfl (.tmp 26) (.tmp 27) rfl _ w A2 _ c2 ([65,71,UInt8.ofNat k]++AB j.length) zi A j.length c j zi rfl R2 aa (by have:=X.o;simp;omega) X2 ?_;intro A3 c3 w3 ae ai q X3;rw[show [65,71,UInt8.ofNat k]++AB j.length++j=Cw k j from rfl] at ae q|-;have an:(Cw k j).length<=100000100:=(by have:=X.o;unfold Cw;simp;omega);have ac:=J q.o.row)
   | fail)
  refine(MH A3 c3 (Cw k j) w3 ac.o U).mono ?_;rintro e w4 ⟨rfl,rfl⟩;go_wp2_with fail;refine(OH (Ch (Cw k j)) w3).mono ?_;rintro e w5 ⟨G,D,rfl,ak,am,T,z⟩;have X5:=X3.o.t z;have ab:=q.o.e z;have R5:=J T.row;clear T z;go_wp2_with (first
   | (at_builtin;refine EB rfl (.tmp 29) (.tmp 32) rfl _ w A3 _ c3 (Cw k j) zi G _ D (le4 (Ch (Cw k j))) zi rfl R5 ab (by simp[le4];omega) X5 ?_;intro A6 c6 w6 K af F X6;rw[<-W.o] at K F|-)
   | fail)
  go_ret2
  exact⟨0,A6,c6,rfl,K,af,F.o,X6.o⟩
 .have W:O (AX k j=[]):=J (by unfold AX;rw[if_neg u]);go_enter func165,ntmps165;go_wp2;go_ret2
  rw[W.o];exact⟨1,none,0,rfl,zR _,zO _,Own.nil _ _ _,V.refl _⟩
theorem Hz(k:Nat)(s:Int)(A:Option Addr)(c:Nat)(j:List UInt8)(w:World)(h:Row w A (Aj j))(hl:j.length<=90000000)(hk:1<=k/\k<=255) :
  Calls prog 106 #[I (k:Int),I s,.slice A j.length c] w (GivesB w (AX k (AF [s]++j))):=by
 have H:=J h;clear h;have D:=Fv s;have hn:O (uN s<U64):=J (Ff s);have HL:=J (BW hn.o);have q:AF [s]=AB (uN s):=by simp[AF]
 rw[q];clear q;go_enter func106,ntmps106;go_wp2_with fail;rw[<-D];refine(D6 (uN s) _ hn).mono ?_;rintro e w1 ⟨A1,c1,rfl,ad,ae,y,u⟩;have G:=J y;have Q:=J u;have R1:=H.o.e u;clear y u D;go_wp2_with (first
  | (at_builtin;refine EB rfl (.tmp 13) (.tmp 14) rfl _ w A1 _ c1 (AB (uN s)) zi A j.length c j zi rfl R1 G (by have:=HL.o;omega) Q ?_;intro A2 c2 w2 ab ac K X2;have R2:=J K.o.row;have X:(AB (uN s)++j).length<=100000000:=(by have:=HL.o;simp;omega);generalize AB (uN s)++j=B2 at *)
  | fail)
 refine(Vn k A2 c2 B2 w2 R2.o X hk).mono ?_;rintro e w3 ⟨aa,A3,c3,rfl,T,W,z,F⟩;have X3:=X2.o.t F;have R:=J (z.base (B':=w.heap.size) X2.o.size);clear z F;go_wp2;go_ret;exact⟨A3,c3,rfl,T,W,R.o,X3.o⟩
theorem Ml(s n:Int)(w:World):Calls prog 37 #[I s,I n] w (GivesB w (AX 13 (AF [s,n]))):=by
 have y:=Fv n;have R:O (uN n<U64):=J (Ff n);have X:=J (BW R.o);have j:AF [s,n]=AF [s]++AB (uN n):=by simp[AF]
 rw[j];clear j;go_enter func37,ntmps37;go_wp2_with fail;rw[<-y];refine(D6 (uN n) _ R).mono ?_;rintro e w1 ⟨T,c1,rfl,aa,ab,q,z⟩;have R1:=J q.row;have Q:=J z;clear q z y;go_wp2_with fail;refine(Hz 13 s T c1 (AB (uN n)) w1 R1.o (by have:=X.o;omega) U).mono ?_;rintro e w2 ⟨W,c2,rfl,G,K,u,D⟩;have X2:=Q.o.t D;have F:=J (u.base (B':=w.heap.size) Q.o.size);clear u D;go_wp2;go_ret;exact⟨W,c2,rfl,G,K,F.o,X2.o⟩
theorem JU(A:Option Addr)(c:Nat)(l:List Ent)(w:World)(h:Row w A (Aa.cells l))(hn:l.length<=2000)(hp:∀e∈l,e.p.length<=6000) :
  Calls prog 107 #[.slice A l.length c] w (GivesB w (Bb l)):=by
 have H:=J h;have HP:=J hp;clear h hp;have hw:IntKind.u64.wrap (l.length:Int)=(l.length:Int):=DA (by unfold U64;omega);have ag:O (l.length<U64):=J (by unfold U64;omega);have HL:=J (BW ag.o);have HS:O (Bb l=AB l.length++(l.take l.length).flatMap DF):=J (by
  have h1:uN (l.length:Int)=l.length:=by unfold uN;omega
  unfold Bb;rw[List.take_length];simp[AF,h1])
 go_enter func107,ntmps107;go_wp2_with fail;refine(D6 l.length _ ag).mono ?_;rintro e w1 ⟨A1,c1,rfl,bn,br,ah,ap⟩;have av:=J ah;have Q:=J ap;clear ah ap;go_wp2;go_loopw [3,4] (λv i wr=>∃(k:Nat) (A':Option Addr) (T:Nat) (S:List UInt8),k<=l.length/\i=I k/\v=.slice A' S.length T/\S.length<=10+6044*k+1/\O (S=AB l.length++(l.take k).flatMap DF)/\S.length<=T/\T<=maxLen/\O (Own wr w.heap.size 5 (.slice A' S.length T) (Aj S))/\O (V w wr)) (λ_ i _=>l.length - (intOf i).toNat)
 case atStart=>exact⟨0,A1,c1,AB l.length,zO _,rfl,rfl,by have:=HL.o;omega,J zj,bn,br,av,Q⟩
 case round=>
  obtain⟨k,A',T,S,hk,rfl,rfl,hS,HE,h1,h2,HO,HX⟩:=hrel;by_cases F:k<l.length
  .obtain⟨b,cp,e,rfl,u,j,y,z,K,HG⟩:=C9 (H.o.ext HX.o) F;have cf:=J u;have bo:e.p.length<=6000:=HP.o e (zX HG.o);have am:=Fv e.v;have an:=Fv e.o;have ao:=Fv e.q;have n0:O (uN e.v<U64):=J (Ff _);have n1:O (uN e.o<U64):=J (Ff _);have n2:O (uN e.q<U64):=J (Ff _);have L0:=J (BW n0.o);have L1:=J (BW n1.o);have L2:=J (BW n2.o);have a9:O (S++AB (uN e.v)++AB (uN e.o)++AB (uN e.q)++Bq e.p=AB l.length++(l.take (k+1)).flatMap DF):=J (by
    rw[NU HG.o,HE.o];simp[DF,AF])
   have bp:(S++AB (uN e.v)++AB (uN e.o)++AB (uN e.q)++Bq e.p).length<=10+6044*(k+1)+1:=by
    have a1:=Pa (e:=e) bo U;have a2:(S++AB (uN e.v)++AB (uN e.o)++AB (uN e.q)++Bq e.p).length=S.length+(DF e).length:=by simp[DF,AF]<;>omega
    omega
   go_wp2_with fail;rw[<-am];refine(D6 (uN e.v) _ n0).mono ?_;rintro e1 w2 ⟨A2,c2,rfl,ch,cl,ai,W⟩;have X2:=HX.o.t W;have P2:=HO.o.e W;have R2:=J ai.row;have j0:=X2;clear ai W am u j y z K;obtain⟨b',bt,e',bc,bi,j,y,z,K,ac⟩:=C9 (H.o.ext X2.o) F;cases bc;obtain rfl:e'=e:=by have:=HG.o;rw[ac.o] at this;exact Option.some.inj this
   go_wp2_with (first
    | (at_builtin;refine EB rfl (.tmp 15) (.tmp 22) rfl _ w A' _ T S zi A2 _ c2 (AB (uN e'.v)) zi rfl R2 P2 (by have:=L0.o;omega) X2 ?_;intro A3 c3 w3 b0 b1 aw X3;clear j y z K bi ac;obtain⟨b3,bu,e3,bd,bj,j,y,z,K,aq⟩:=C9 (H.o.ext X3.o) F;cases bd;obtain rfl:e3=e':=(by have:=HG.o;rw[aq.o] at this;exact Option.some.inj this);have s3:(S++AB (uN e3.v)).length<=20000000:=(by have:=L0.o;simp;omega);generalize cb:S++AB (uN e3.v)=S3 at *)
    | fail)
   rw[<-an];refine(D6 (uN e3.o) _ n1).mono ?_;rintro e1 w4 ⟨A4,c4,rfl,ci,cm,aj,X⟩;have X4:=X3.o.t X;have P4:=aw.o.e X;have R4:=J aj.row;clear aj X an bj j y z K;obtain⟨b4,bv,e4,be,bk,j,y,z,K,ad⟩:=C9 (H.o.ext X4.o) F;cases be;obtain rfl:e4=e3:=by have:=HG.o;rw[ad.o] at this;exact Option.some.inj this
   go_wp2_with (first
    | (at_builtin;refine EB rfl (.tmp 24) (.tmp 31) rfl _ w A3 _ c3 S3 zi A4 _ c4 (AB (uN e4.o)) zi rfl R4 P4 (by have:=L1.o;omega) X4 ?_;intro G D w5 b2 b8 ax X5;clear j y z K bk ad;obtain⟨b5,bw,e5,bf,bl,j,y,z,K,ar⟩:=C9 (H.o.ext X5.o) F;cases bf;obtain rfl:e5=e4:=(by have:=HG.o;rw[ar.o] at this;exact Option.some.inj this);have s5:(S3++AB (uN e5.o)).length<=20000100:=(by have:=L1.o;simp;omega);generalize cc:S3++AB (uN e5.o)=S5 at *)
    | fail)
   rw[<-ao];refine(D6 (uN e5.q) _ n2).mono ?_;rintro e1 w6 ⟨A6,c6,rfl,cj,cn,ak,aa⟩;have X6:=X5.o.t aa;have P6:=ax.o.e aa;have R6:=J ak.row;clear ak aa ao bl j y z K;obtain⟨b6,bx,e6,bg,bm,j,y,z,K,ae⟩:=C9 (H.o.ext X6.o) F;cases bg;obtain rfl:e6=e5:=by have:=HG.o;rw[ae.o] at this;exact Option.some.inj this
   go_wp2_with (first
    | (at_builtin;refine EB rfl (.tmp 33) (.tmp 40) rfl _ w G _ D S5 zi A6 _ c6 (AB (uN e6.q)) zi rfl R6 P6 (by have:=L2.o;omega) X6 ?_;intro A7 c7 w7 b9 ca ay X7;clear j y z K bm ae;obtain⟨b7,bz,R,bh,cg,j,y,z,K,au⟩:=C9 (H.o.ext X7.o) F;cases bh;obtain rfl:R=e6:=(by have:=HG.o;rw[au.o] at this;exact Option.some.inj this);have s7:(S5++AB (uN R.q)).length<=20000200:=(by have:=L2.o;simp;omega);generalize cd:S5++AB (uN R.q)=S7 at *)
    | fail)
   refine(MS R.p _ U).mono ?_;rintro e1 w8 ⟨A8,c8,rfl,ck,co,al,ab⟩;have X8:=X7.o.t ab;have P8:=ay.o.e ab;have R8:=J al.row;have s8:(Bq R.p).length<=6100:=by have:=BW (v:=R.p.length) (by unfold U64;omega);unfold Bq;simp;omega
   clear al ab j y z K;go_wp2_with (first
    | (at_builtin;refine EB rfl (.tmp 42) (.tmp 48) rfl _ w A7 _ c7 S7 zi A8 _ c8 (Bq R.p) zi rfl R8 P8 U X8 ?_;intro A9 c9 w9 ba bb az X9;generalize ce:S7++Bq R.p=S9 at *)
    | fail)
   go_roundw
   case rel=>exact⟨k+1,A9,c9,S9,U,by go_num,rfl,bp,a9,ba,bb,az,X9⟩
   case measure=>simp[intOf];omega
  .have bq:k=l.length:=U;subst bq;go_wp2;go_ret;have af:=HE.o;rw[<-HS.o] at af;subst af;exact⟨A',T,rfl,h1,h2,HO.o,HX.o⟩
theorem Mf(s f t:Int)(A:Option Addr)(c:Nat)(l:List Ent)(w:World)(h:Row w A (Aa.cells l))(hn:l.length<=2000)(hp:∀e∈l,e.p.length<=6000) :
  Calls prog 36 #[I s,I f,I t,.slice A l.length c] w (GivesB w (AX 12 (AF [s,f,t]++Bb l))):=by
 have H:=J h;have HP:=J hp;clear h hp;have T:=Fv f;have W:=Fv t;have n0:O (uN f<U64):=J (Ff _);have n1:O (uN t<U64):=J (Ff _);have L0:=J (BW n0.o);have L1:=J (BW n1.o);have ao:(Bb l).length<=12100000:=by
  have h1:=Jn HP.o;have h2:=DN [(l.length:Int)];unfold Bb;simp only[zA,zK,List.length_nil] at *;omega
 have HS:O (AF [s,f,t]++Bb l=AF [s]++(AB (uN f)++AB (uN t)++Bb l)):=J (by simp[AF]);go_enter func36,ntmps36;go_wp2_with fail;rw[<-T];refine(D6 (uN f) _ n0).mono ?_;rintro e w1 ⟨A1,c1,rfl,al,ap,z,X⟩;have ab:=J z;have Q:=J X;clear z X T;go_wp2_with fail;rw[<-W];refine(D6 (uN t) _ n1).mono ?_;rintro e w2 ⟨A2,c2,rfl,am,aq,F,j⟩;have X2:=Q.o.t j;have P2:=ab.o.e j;have R2:=J F.row;clear F j W;go_wp2_with (first
  | (at_builtin;refine EB rfl (.tmp 12) (.tmp 15) rfl _ w A1 _ c1 (AB (uN f)) zi A2 _ c2 (AB (uN t)) zi rfl R2 P2 (by have:=L0.o;have:=L1.o;omega) X2 ?_;intro A3 c3 w3 af ag ac X3;have s3:(AB (uN f)++AB (uN t)).length<=100:=(by have:=L0.o;have:=L1.o;simp;omega);generalize aj:AB (uN f)++AB (uN t)=S3 at *)
  | fail)
 refine(JU A c l w3 (H.o.ext X3.o) hn HP.o).mono ?_;rintro e w4 ⟨A4,c4,rfl,an,ar,K,q⟩;have X4:=X3.o.t q;have P4:=ac.o.e q;have R4:=J K.row;clear K q;go_wp2_with (first
  | (at_builtin;refine EB rfl (.tmp 18) (.tmp 20) rfl _ w A3 _ c3 S3 zi A4 _ c4 (Bb l) zi rfl R4 P4 U X4 ?_;intro G D w5 ah ai ad X5;have s5:(S3++Bb l).length<=90000000:=(by simp;omega);generalize ak:S3++Bb l=S5 at *)
  | fail)
 refine(Hz 12 s G D S5 w5 ad.o.row s5 U).mono ?_;rintro e w6 ⟨A6,c6,rfl,y,ae,R,aa⟩;have X6:=X5.o.t aa;have u:=J (R.base (B':=w.heap.size) X5.o.size);clear R aa;rw[<-HS.o] at y u|-;go_wp2;go_ret;exact⟨A6,c6,rfl,y,ae,u.o,X6.o⟩
theorem Rv{P:Prop}(h:P:=by
 have j:=J u;go_wp2;go_roundw
 case rel=>exact⟨k+1,U,by go_num,by rw[HT.o];simp[j.o],trivial⟩
 case measure=>simp[intOf];omega):P:=h
theorem RW{P:Prop}(h:P:=by
 go_wp2;go_ret;exact⟨AC (by rw[HO.o,Bool.eq_iff_iff];simp),(V.new _ _).trans u⟩):P:=h
abbrev N9(w:World)(r:Nat)(b:BM):Prop:=
 w.cell? (Z r 0)=some (I b.self)/\w.cell? (Z r 1)=some (.slice b.Av b.vs.length b.cv)/\w.cell? (Z r 2)=some (I b.base)/\w.cell? (Z r 3)=some (.slice b.Al b.log.length b.cl)/\w.cell? (Z r 4)=some (I b.stable)/\w.cell? (Z r 5)=some (I b.sent)/\
  w.cell? (Z r 6)=some (.slice b.Ap b.pend.length b.cp)/\w.cell? (Z r 7)=some (.slice b.Am b.marks.length b.cm)/\w.cell? (Z r 8)=some (.slice b.Af b.fls.length b.cf)
theorem BIs.n9{j:World}{r:Nat}{b:BM}{t:TypeId}(h:BIs j r b.cells t):∀w',V j w'->N9 w' r b:=λ_ e=>(h.ext e).nine'
abbrev N2(w:World)(r:Nat)(x y:Value):Prop:=w.cell? ⟨r,0,none⟩=some x/\w.cell? ⟨r,1,none⟩=some y/\w.frozen? ⟨r,0,none⟩=false/\w.frozen? ⟨r,1,none⟩=false
abbrev N3(w:World)(r:Nat)(x y z:Value):Prop:=w.cell? ⟨r,0,none⟩=some x/\w.cell? ⟨r,1,none⟩=some y/\w.cell? ⟨r,2,none⟩=some z
abbrev N4(w:World)(r:Nat)(x y z u:Value):Prop:=w.cell? ⟨r,0,none⟩=some x/\w.cell? ⟨r,1,none⟩=some y/\w.cell? ⟨r,2,none⟩=some z/\w.cell? ⟨r,3,none⟩=some u
theorem BIs.n2{j:World}{r:Nat}{x y:Value}{t:TypeId}(h:BIs j r #[x,y] t):∀w',V j w'->N2 w' r x y:=λ_ e=>⟨(h.ext e).cell 0,(h.ext e).cell 1,(h.ext e).free 0,(h.ext e).free 1⟩
theorem BIs.n3{j:World}{r:Nat}{x y z:Value}{t:TypeId}(h:BIs j r #[x,y,z] t):∀w',V j w'->N3 w' r x y z:=λ_ e=>⟨(h.ext e).cell 0,(h.ext e).cell 1,(h.ext e).cell 2⟩
theorem BIs.n4{j:World}{r:Nat}{x y z u:Value}{t:TypeId}(h:BIs j r #[x,y,z,u] t):∀w',V j w'->N4 w' r x y z u:=λ_ e=>⟨(h.ext e).cell 0,(h.ext e).cell 1,(h.ext e).cell 2,(h.ext e).cell 3⟩
section
variable {P:Program} {ops:Array Oper} {Q:Exit->Act->World->Prop} {md:Region.Mode} {S:World->Prop} {n:Nat}
theorem eD(n:Nat){j:World}{id:Nat}{a:Act}{w:World}(q:V j w)(h:V j w.drew->wpE P .any ops Q (V j) n ops.size (Array.replicate ops.size false) a w.drew)(u:P.follows .mixedOrders=true:=by kernel_rfl):(Code.region id ops true).wp P Q a w:=
 E_begin n (V j) u q.drew h
def Arm(P:Program)(md:Region.Mode)(ops:Array Oper)(Q:Exit->Act->World->Prop)(S:World->Prop)(n fuel:Nat)(listed:Array Bool)(a:Act)(w:World)(i:Nat):Prop:=
 wpOp P ops Q i (λa' w'=>(i<n->S w')/\wpE P md ops Q S n fuel (listed.setIfInBounds i true) a' w') a w
theorem eF(i:Nat){u:Nat}{q:Array Bool}{a:Act}{w:World}(h:Arm P md ops Q S n u q a w i)(z:Region.ready md ops q=[i]:=by kernel_rfl):wpE P md ops Q S n (u+1) q a w:=
 E_ready [i] z zj λj y=>by rw[List.mem_singleton.1 y];exact h
theorem E_2(i j:Nat){u:Nat}{q:Array Bool}{a:Act}{w:World}(h:Arm P md ops Q S n u q a w i)(z:Arm P md ops Q S n u q a w j)(D:Region.ready md ops q=[i,j]:=by kernel_rfl):wpE P md ops Q S n (u+1) q a w:=
 E_ready [i,j] D zj λk y=>by
  rcases zC.1 y with rfl|y
  .exact h
  .rw[List.mem_singleton.1 y];exact z
theorem eL(i:Nat){d:Nat}{F:FuncId}{u:Array Value}{w:World}{R:Ending->World->Prop}(X:Calls P F u w R){o:Oper}{q:Nat}{j:Array Bool}{a:Act}{f:Value->Act}
  (h:∀e w',R e w'->∃v,e=.returned v/\S w'/\(S w'->wpE P md ops Q S n q (j.setIfInBounds i true) (f v) w'))
  (ho:ops[i]?=some o:=by rfl) (hd:o.dst=some d:=by rfl) (hw:Region.wanted o (yielded ops a.tmps)=true:=by rfl)
  (hx:(execOp a.eval o).run P w=.ok (.enter F u) w:=by go_simp<;>rfl) (W:∀v,a.put (some d) v=f v:=by intro v;simp only[Act.put,Au,Aw,Ay]<;>rfl):Arm P md ops Q S n q j a w i:=by
 have y:AllE P md ops Q S n q j a w [i]:=by
  refine AllE.cons ho (λK D=>?_) AllE.nil;rw[if_pos hw];unfold Oper.wp;rw[hx,Oper.upon_enter];refine X.mono ?_;intro e w' G;obtain⟨v,rfl,T,z⟩:=h e w' G;show K (a.put o.dst v) w';rw[hd,W];exact D.out _ _ T z
 exact y i zj
theorem eJ(i:Nat){d:Option Nat}{w w':World}{v:Value}{o:Oper}{q:Nat}{j:Array Bool}{a a':Act}(z:S w')
  (h:S w'->wpE P md ops Q S n q (j.setIfInBounds i true) a' w')
  (G:ops[i]?=some o:=by rfl) (F:o.dst=d:=by rfl) (R:Region.wanted o (yielded ops a.tmps)=true:=by rfl)
  (T:(execOp a.eval o).run P w=.ok (.value v) w':=by go_simp<;>rfl) (D:a.put d v=a':=by simp only[Act.put,Au,Aw,Ay]<;>rfl):Arm P md ops Q S n q j a w i:=by
 have u:AllE P md ops Q S n q j a w [i]:=by
  refine AllE.cons G (λK y=>?_) AllE.nil;rw[if_pos R];unfold Oper.wp;rw[T,Oper.upon_value,F,D];exact y.out _ _ z h
 exact u i zj
theorem eE(i:Nat){d:Nat}{F:FuncId}{q:Array Value}{w:World}{R:Ending->World->Prop}(z:Calls P F q w R){o:Oper}{u:Nat}{j:Array Bool}{a:Act}{f:Value->Act}
  (h:∀e w',R e w'->∃v,e=.returned v/\S w'/\(S w'->wpE P md ops Q S n u (j.setIfInBounds i true) (f v) w'))
  (K:Region.ready md ops j=[i]:=by kernel_rfl) (G:ops[i]?=some o:=by rfl) (D:o.dst=some d:=by rfl) (T:Region.wanted o (yielded ops a.tmps)=true:=by rfl)
  (W:(execOp a.eval o).run P w=.ok (.enter F q) w:=by go_simp<;>rfl) (y:∀v,a.put (some d) v=f v:=by intro v;simp only[Act.put,Au,Aw,Ay]<;>rfl):wpE P md ops Q S n (u+1) j a w:=
 eF i (eL i z h G D T W y) K
theorem eI(i:Nat){d:Nat}{F:FuncId}{q:Array Value}{w:World}{v:Value}(D:Calls P F q w λe w'=>e=.returned v/\w=w'){o:Oper}{u:Nat}{j:Array Bool}{a a':Act}
  (h:wpE P md ops Q S n u (j.setIfInBounds i true) a' w) (y:S w:=by assumption)
  (R:Region.ready md ops j=[i]:=by kernel_rfl) (K:ops[i]?=some o:=by rfl) (G:o.dst=some d:=by rfl) (T:Region.wanted o (yielded ops a.tmps)=true:=by rfl)
  (W:(execOp a.eval o).run P w=.ok (.enter F q) w:=by go_simp<;>rfl) (z:a.put (some d) v=a':=by simp only[Act.put,Au,Aw,Ay]<;>rfl):wpE P md ops Q S n (u+1) j a w:=by
 subst z;refine eE i (f:=a.put (some d)) D ?_ R K G T W (λ_=>rfl);rintro e w' ⟨rfl,rfl⟩;exact⟨v,rfl,y,λ_=>h⟩
theorem eG(i:Nat){d:Nat}{y:World}{F:FuncId}{q:Array Value}{w:World}{v:Value}(G:V y w)(R:Calls P F q w λe w'=>e=.returned v/\V w w'){o:Oper}{u:Nat}{j:Array Bool}{a a':Act}
  (h:∀w',V y w'->wpE P md ops Q (V y) n u (j.setIfInBounds i true) a' w')
  (X:Region.ready md ops j=[i]:=by kernel_rfl) (W:ops[i]?=some o:=by rfl) (T:o.dst=some d:=by rfl) (hw:Region.wanted o (yielded ops a.tmps)=true:=by rfl)
  (hx:(execOp a.eval o).run P w=.ok (.enter F q) w:=by go_simp<;>rfl) (K:a.put (some d) v=a':=by simp only[Act.put,Au,Aw,Ay]<;>rfl):wpE P md ops Q (V y) n (u+1) j a w:=by
 subst K;refine eE i (f:=a.put (some d)) R ?_ X W T hw hx (λ_=>rfl);rintro e w' ⟨rfl,z⟩;exact⟨v,rfl,G.trans z,λD=>h w' D⟩
end
theorem Hy(A:Option Addr)(c:Nat)(l:List Ent)(m:Nat)(o:Int)(w:World)(h:Row w A (Aa.cells l))(T:l.length<=1000000000)(R:m<=l.length) :
  Calls prog 65 #[.slice A l.length c,I m,I o] w λe w'=>e=.returned (I (Aq (l.take m) o))/\w=w':=by
 have H:=J h;clear h;go_enter func65,ntmps65;go_wp2;go_loopw [7,8] (λn i wr=>∃k:Nat,k<=m/\i=I k/\n=I (Aq (l.take k) o)/\w=wr) (λ_ i _=>m - (intOf i).toNat)
 case atStart=>exact⟨0,zO _,rfl,rfl,rfl⟩
 case round=>
  obtain⟨k,Q,rfl,rfl,rfl⟩:=hrel;by_cases F:k<m
  .obtain⟨b,y,e,rfl,u,z,D,G,K,q⟩:=C9 H.o (show k<l.length by omega);have HT:=J (Jq (o:=o) q.o);have W:=G1 l k o;have X:k<l.length:=U;generalize Aq (l.take k) o=n at *;cases u:e.o == o
   .exact Rv
   .exact Rv
  .obtain rfl:k=m:=U;go_wp2;go_ret;exact⟨rfl,rfl⟩
theorem So(n:Int)(A:Option Addr)(c:Nat)(xs:List Int)(w:World)(h:Row w A (Ai xs))(G:xs.length<=9223372036854775807) :
  Calls prog 58 #[.agg #[I n,.slice A xs.length c]] w λe w'=>e=.returned (I (AZ (n,xs)))/\V w w':=by
 have q:=J (V.new w (.cells #[I n,.slice A xs.length c] 46));have D:=J (h.ext q.o);clear h;go_enter func58,ntmps58;go_wp2_with fail;refine(GT n A c xs _ D.o G).mono ?_;cases hv:AK n xs
 .have u:=J hv;clear hv;rintro e F ⟨rfl,j⟩;have Q:=q.o.t j;clear j;go_wp2;go_ret;exact⟨DQ (by simp[AZ,u.o]),Q.o⟩
 .have u:=J hv;have K:=Dk hv;clear hv;rintro e F ⟨rfl,j⟩;have Q:=q.o.t j;have X:F.cell? (Y w 1)=some (.slice A xs.length c):=by simpa using j.cell_new 1
  obtain⟨b,R,x,rfl,z,y⟩:=(D.o.ext j).at_ (show 0<xs.length by omega);simp only[Nat.add_zero] at z;have T:0<xs.length:=U;have W:(0:Int)<(xs.length:Int):=U;clear j;go_wp2;go_ret;exact⟨DQ (by simp[AZ,u.o,y.o]),Q.o⟩
theorem Cb(b:BM)(w:World)(h:b.Reads w)(hp:0<b.vs.length)(K:b.Fits)(m:Int)(ys:List Int)(y:Ar (vws b.vs)=(m,ys)) :
  Calls prog 57 #[.agg b.cells] w λe w'=>∃A c,e=.returned (.agg #[I m,.slice A ys.length c])/\ys.length<=c/\c<=maxLen/\O (Row w' A (Ai ys))/\V w w':=by
 obtain⟨self,base,q,T,Av,cv,vs,Al,cl,ac,Ap,cp,R,Am,cm,z,Af,cf,aa⟩:=b;simp only at hp y;have hn:=K.vs;simp only at hn;obtain⟨j,Q⟩:∃j,vs.length=j+1:=⟨vs.length - 1,U⟩;obtain⟨bb,ad,n,X,F,xs,G,u,c0,c1,W,h1,h2,HX⟩:=DK h.vs (show j<vs.length by omega);simp only at G;subst G;have D:=Jk (by rw[AW];exact Q) (Dw HX.o);rw[y] at D;cases D;have ab:IntKind.i64.wrap ((vs.length:Int) - 1)=(j:Int):=by rw[IntWalk.i64_in _ U];omega
 have k1:(0:Int)<=(j:Int):=U;have k2:(j:Int)<(vs.length:Int):=U;have k3:j<vs.length:=U;clear Q h K y;go_enter func57,ntmps57;go_wp2;refine bodyPost_ret (v:=.agg #[I m,.slice X ys.length F]) (by simp[results,results57,go_sem]) rfl ⟨X,F,rfl,h1,h2,W.o.e ((V.new _ _).alloc _),(V.new _ _).alloc _⟩
theorem D5(b:BM)(w:World)(h:b.Reads w)(G:0<b.vs.length)(q:b.Fits) :
  Calls prog 64 #[.agg b.cells] w λe w'=>e=.returned (.bool (AD b.st))/\V w w':=by
 have K:=(BIs.new w b.cells 28).n9;have H:=J h;have z:=J q;obtain⟨⟨n,xs⟩,j⟩:∃v,Ar (vws b.vs)=v:=⟨_,rfl⟩;have D:=J j;have HO:O (AD b.st=decide (b.base=n)):=J (by show decide (b.base=(Ar (vws b.vs)).1)=_;rw[j]);clear h q j;have F:=Ej;go_enter func64,ntmps64;go_upto_region 1 with fail;refine eD 7 (V.refl _) λu=>?_;refine eb 0 ?_;refine ea 2 ?_;refine eE 3 (Cb b _ (H.o.ext ((V.new _ _).trans u)) G z.o n xs D.o) ?_;rintro _ v ⟨A,c,rfl,_,_,_,y⟩;refine⟨_,rfl,u.trans y,?_⟩;clear u y;intro u;refine eb 4 ?_;refine ea 6 ?_;refine eA ?_;exact RW
theorem EG(n:Int)(A:Option Addr)(c:Nat)(xs:List Int)(w:World)(h:Row w A (Ai xs))(j:xs.length<=9223372036854775807)(s:Int)(q:AZ (n,xs)=s) :
  Calls prog 58 #[.agg #[I n,.slice A xs.length c]] w λe w'=>e=.returned (I s)/\V w w':=by
 subst q;exact So n A c xs w h j
theorem Cy(b:BM)(w:World)(h:b.Reads w)(K:0<b.vs.length)(G:b.Fits) :
  Calls prog 59 #[.agg b.cells] w λe w'=>e=.returned (.bool (AD b.st&&AE b.st))/\V w w':=by
 have HN:=(BIs.new w b.cells 28).n9;have H:=J h;have F:=J G;have y:=Eu G.vx;obtain⟨⟨n,xs⟩,D⟩:∃v,Ar (vws b.vs)=v:=⟨_,rfl⟩;have T:=J D;rw[D] at y;obtain⟨R,q⟩:∃s,AZ (n,xs)=s:=⟨_,rfl⟩;have W:=J q;have HO:O (AE b.st=decide (R=b.self)):=J (by show decide (AZ (Ar (vws b.vs))=b.self)=_;rw[D,q]);have z:O (xs.length<=9223372036854775807):=J (by simp only at y;omega);clear h G D q y;cases ho:AD b.st with
 | false=>
  have j:=J ho;clear ho;go_enter func59,ntmps59;go_upto_region 1 with fail;refine eD 11 (V.refl _) λu=>?_;refine ea 0 ?_;refine eG 1 u (j.o▸D5 b _ (H.o.ext ((V.new _ _).trans u)) K F.o) ?_;clear u;intro v u;refine ea 2 ?_;refine ef 3 ?_;refine ee 7 ?_;refine eb 9 ?_;refine eA ?_;go_wp2;go_ret;exact⟨rfl,(V.new _ _).trans u⟩
 | true=>
  have j:=J ho;clear ho;go_enter func59,ntmps59;go_upto_region 1 with fail;refine eD 11 (V.refl _) λu=>?_;refine ea 0 ?_;refine eG 1 u (j.o▸D5 b _ (H.o.ext ((V.new _ _).trans u)) K F.o) ?_;clear u;intro v u;refine eb 2 ?_;refine eb 6 ?_;refine eE 4 (Cb b _ (H.o.ext ((V.new _ _).trans u)) K F.o n xs T.o) ?_;rintro _ v ⟨A,c,rfl,_,_,X,Q⟩;refine⟨_,rfl,u.trans Q,?_⟩;clear u Q;intro u;refine eG 5 u (EG n A c xs _ X.o z.o R W.o) ?_;clear u;intro v u;refine eb 8 ?_;refine ea 10 ?_;refine eA ?_;exact RW
def Lit(N M:Nat)(a b:World):Prop:=b.os=a.os/\b.tape=a.tape/\b.output=a.output/\a.heap.size<=b.heap.size/\∀k,k<a.heap.size->(k<N\/M<=k)->b.heap[k]?=a.heap[k]?
def OffR(N M:Nat)(A:Option Addr)(xs:List Value):Prop:=∀p,xs≠[]->A=some p->p.block<N\/M<=p.block
structure BM.Off(b:BM)(N M:Nat):Prop where
 vs:OffR N M b.Av (AL.cells b.vs)
 vi:∀v∈b.vs,OffR N M v.A (Ai v.xs)
 log:OffR N M b.Al (Aa.cells b.log)
 pend:OffR N M b.Ap (AU.cells b.pend)
 marks:OffR N M b.Am (AA.cells b.marks)
 fls:OffR N M b.Af (flE.cells b.fls)
 fi:∀f∈b.fls,OffR N M f.A (Aa.cells f.log)
structure BM.Ok(w:World)(b:BM):Prop where
 r:b.Reads w
 f:b.Fits
 cp:b.pend.length<=b.cp
section
variable {N M:Nat} {w a b c w':World} {A:Option Addr} {xs:List Value} {s:BM}
theorem Lit.trans(h:Lit N M a b)(g:Lit N M b c):Lit N M a c:=
 ⟨g.1.trans h.1,g.2.1.trans h.2.1,g.2.2.1.trans h.2.2.1,zL h.2.2.2.1 g.2.2.2.1,λk j q=>(g.2.2.2.2 k (Nat.lt_of_lt_of_le j h.2.2.2.1) q).trans (h.2.2.2.2 k j q)⟩
theorem Lit.t(h:Lit N M a b)(g:Lit N M b c):O (Lit N M a c):=J (h.trans g)
theorem Lit.wrote{p:Nat}(h:Wrote p a b)(q:N<=p)(u:p<M):Lit N M a b:=
 ⟨h.os,h.tape,h.output,h.size,λk j y=>h.blk j (λe=>by subst e;omega)⟩
theorem Lit.ext(h:Lit N M a b)(e:V w a)(q:w.heap.size<=N):V w b:=
 ⟨h.1.trans e.os,h.2.1.trans e.tape,h.2.2.1.trans e.output,zL e.size h.2.2.2.1,λk j=>(h.2.2.2.2 k (Nat.lt_of_lt_of_le j e.size) (.inl U)).trans (e.block k j)⟩
theorem Row.lit(h:Row a A xs)(Q:OffR N M A xs)(D:Lit N M a b):Row b A xs:=by
 intro F;obtain⟨k,q,y,z,G⟩:=h F;refine⟨k,q,y,Nat.lt_of_lt_of_le z D.2.2.2.1,λj u K=>?_⟩;exact(World.cell?_of_block (a:=⟨k,q+j,none⟩) (D.2.2.2.2 k z (Q ⟨k,q,none⟩ F y))).trans (G j u K)
theorem Row.off(h:Row a A xs)(u:a.heap.size<=N):OffR N M A xs:=λp q j=>.inl (by have:=Fz h q j;omega)
theorem OffR.nil{A:Option Addr}:OffR N M A []:=λ_ h=>absurd rfl h
theorem BM.Reads.lit(h:s.Reads a)(y:s.Off N M)(u:Lit N M a b):s.Reads b:=by
 refine⟨⟨h.vs.1.lit y.vs u,λv F=>⟨(h.vs.2 v F).1,λq z=>?_⟩⟩,h.log.lit y.log u,h.pend.lit y.pend u,h.marks.lit y.marks u,⟨h.fls.1.lit y.fls u,λf z=>⟨(h.fls.2 f z).1,λq j=>?_⟩⟩⟩
 .have j:=z;simp only[AL,zC,zN,or_false] at z;subst z;exact((h.vs.2 v F).2 _ j).lit (y.vi v F) u
 .have D:=j;simp only[flE,zC,zN,or_false] at j;subst j;exact((h.fls.2 f z).2 _ D).lit (y.fi f z) u
theorem BM.Reads.off(h:s.Reads a)(j:a.heap.size<=N):s.Off N M:=
 ⟨h.vs.1.off j,λv u=>((h.vs.2 v u).2 (v.A,Ai v.xs) (by simp[AL])).off j,h.log.off j,h.pend.off j,h.marks.off j,h.fls.1.off j,λf q=>((h.fls.2 f q).2 (f.A,Aa.cells f.log) (by simp[flE])).off j⟩
theorem BM.Ok.ext(h:s.Ok a)(e:V a b):s.Ok b:=⟨h.r.ext e,h.f,h.cp⟩
theorem BM.Ok.e(h:s.Ok a)(e:V a b):O (s.Ok b):=J (h.ext e)
theorem BM.Ok.lit(h:s.Ok a)(q:s.Off N M)(j:Lit N M a b):s.Ok b:=⟨h.r.lit q j,h.f,h.cp⟩
theorem BIs.lit{p:Nat}{j:Array Value}{t:TypeId}(h:BIs a p j t)(u:p<N\/M<=p)(q:Lit N M a b):BIs b p j t:=h.same (q.2.2.2.2 p h.lt u)
theorem DP{α:Type}{E:Elem α}{B k cap:Nat}{A:Option Addr}{l:List α}(h:E.Own w B (.slice A k cap) l)(j:M<=B):OffR N M A (E.cells l):=λp _ q=>.inr (by subst q;exact zL j (h.lt p.block rfl).1)
end
theorem Elem.OB.fresh{α:Type}(E:Elem α){w:World}{B:Nat}(h:B<=w.heap.size):E.OB (w.alloc (.cells #[] E.ty)) B (.slice (some (Z w.heap.size 0)) 0 0) []:=
 ⟨⟨by simp[Elem.cells],.inr ⟨w.heap.size,0,#[],rfl,h,BIs.new _ _ _,zR _,zO _,zj,by simp[Elem.cells]⟩⟩,λ_ h=>by cases h⟩
def RSt(w:World)(b:BM)(s:St)(en:Ending)(w':World):Prop:=
 ∃b2:BM,en=.returned (.agg b2.cells)/\b2.st=s/\b2.Ok w'/\V w w'/\∀N M,M<=w.heap.size->b.Off N M->b2.Off N M
def RSd(w:World)(b:BM)(s:St)(d:List Ent)(en:Ending)(w':World):Prop:=
 ∃(b2:BM) (A:Option Addr) (c:Nat),en=.returned (.tuple #[.agg b2.cells,.slice A d.length c])/\d.length<=c/\c<=maxLen/\b2.st=s/\b2.Ok w'/\Row w' A (Aa.cells d)/\NewAt w.heap.size A (Aa.cells d)/\V w w'/\∀N M,M<=w.heap.size->b.Off N M->b2.Off N M
theorem A_s(i:Nat){P:Program}{u:Array Oper}{Q:Exit->Act->World->Prop}{y:Region.Mode}{S:World->Prop}{n q:Nat}{j:Array Bool}{a:Act}{w w':World}{o:Oper}(F:S w')
  (h:S w'->wpE P y u Q S n q (j.setIfInBounds i true) a w')
  (R:u[i]?=some o:=by rfl) (G:o.dst=none:=by rfl) (T:Region.wanted o (yielded u a.tmps)=true:=by rfl)
  (W:(execOp a.eval o).run P w=.ok .skip w':=by go_simp<;>rfl):Arm P y u Q S n q j a w i:=by
 have z:AllE P y u Q S n q j a w [i]:=by
  refine AllE.cons R (λK D=>?_) AllE.nil;rw[if_pos T];unfold Oper.wp;rw[W,Oper.upon_skip,G];exact D.out _ _ F h
 exact z i zj
theorem eK{α:Type}(i d:Nat)(E:Elem α)(s x:Operand){z:Array Oper}{Q:Exit->Act->World->Prop}{md:Region.Mode}{S:World->Prop}{n y:Nat}{j:Array Bool}{a:Act}{f:Value->Act}{o:Oper}(ho:z[i]?=some o)
  (X:o.op=.call {callee:=.builtin .append,args:=#[s,x],argTypes:=#[E.st,E.st]}) (R:o.guard=none) (hd:o.dst=some d)
  (W:World) (B:Nat) (v:Value) (l:List α) (hs:a.eval s=v) (G:Addr) (m c:Nat) (u:List α) (hx:a.eval x=.slice (some G) m c) (hm:m=u.length) (hr:Row W (some G) (E.cells u)) (hp:0<m)
  (T:E.OB W B v l) (D:∀q∈u,E.ok q/\∀r∈E.inn q,Row W r.1 r.2/\Apt v r) (hl:l.length+m<=20000000) (hB:B<=W.heap.size)
  (h:∀F w',E.OB w' B F (l++u)->Grew W w' v->Stems W v F->S w'/\(S w'->wpE prog md z Q S n y (j.setIfInBounds i true) (f F) w')) (ha:∀v,a.put (some d) v=f v:=by intro v;simp only[Act.put,Au,Aw,Ay]<;>rfl):Arm prog md z Q S n y j a W i:=by
 have h0:AllE prog md z Q S n y j a W [i]:=by
  refine AllE.cons ho (λK hK=>?_) AllE.nil;refine Ia E R s x X W B v l hs G m c u hx hm hr hp T D hl hB ?_;intro F w' h1 h2 h3;obtain⟨hS,h4⟩:=h F w' h1 h2 h3;rw[hd,ha];exact hK.out _ _ hS h4
 exact h0 i zj
theorem LN{P:Prop}(h:P:=by
 refine ea 21 ?_;refine eA ?_;have HH:=J u;clear u;obtain⟨g0,g1,_,_⟩:=BN.o.n2 _ (V.refl _);have HG:=BN.o.n2;have bo:=λw' (x:V v6 w')=>hP w' (HH.o.trans x);clear hP g0 g1;go_upto_region 10 with fail;by_cases he:er=0;rotate_left
 .have bq:(er != 0)=true:=by simpa using he
  have HE:=J he;clear he;refine eD 11 (V.refl _) λu=>?_;refine eb 0 ?_;refine ea 2 ?_;refine ef 3 ?_;refine ee 7 ?_;refine ed 9 ?_;refine ea 10 ?_;refine eA ?_;go_wp2;go_ret;exact⟨AC (QB (by rw[AW];exact F) (by rw[aw.o,decide_eq_false HE.o];rfl)).symm,Q.o.trans (HH.o.trans u)⟩
 subst he;cases hsm:EM T y n2 K
 .have ak:=J hsm;clear hsm;refine eD 11 (V.refl _) λu=>?_;refine ec 0 ?_;refine ec 4 ?_;refine eG 8 u (ak.o▸Kv T n2 G Y2 D ac y K _ (W5.o.ext u) (aa.o.ext (HH.o.trans u)) aq) λv u=>?_;refine eb 9 ?_;refine eA ?_;go_wp2;go_ret;exact⟨AC (QB (by rw[AW];exact F) (by rw[aw.o,ak.o];rfl)).symm,Q.o.trans (HH.o.trans u)⟩
 .have ak:=J hsm;clear hsm;refine eD 11 (V.refl _) λu=>?_;refine ec 0 ?_;refine ec 4 ?_;refine eG 8 u (ak.o▸Kv T n2 G Y2 D ac y K _ (W5.o.ext u) (aa.o.ext (HH.o.trans u)) aq) λv u=>?_;refine eb 9 ?_;refine eA ?_;go_wp2;go_roundw
  case rel=>exact⟨k+1,U,by go_num,J (λi hi=>by
   rcases Nat.lt_or_ge i k with h|h
   .exact HT.o i h
   .have:i=k:=U;subst this;rw[aw.o,ak.o];rfl),Q.o.trans (HH.o.trans u)⟩
  case measure=>simp[intOf];omega):P:=h
def FC(l:List Vw)(i:Nat):Bool:=if i=0 then AK (Bu l 0).1 (Bu l 0).2 else CT (Bu l (i - 1)) (Bu l i)
theorem Ze{l:List Vw}(j:1<=l.length)(q:l.length<=2000)(h:∀i,i<l.length->FC l i=true):Bv l=true:=by
 unfold Bv;rw[decide_eq_true j,decide_eq_true q,show AK (Bu l 0).1 (Bu l 0).2=true from h 0 U];simp only[Bool.true_and,List.all_eq_true,List.mem_range];exact λi hi=>h (i+1) U
theorem QB{l:List Vw}{i:Nat}(hi:i<l.length)(h:FC l i=false):Bv l=false:=by
 cases hv:Bv l with
 | false=>rfl
 | true=>
  obtain⟨_,_,j,q⟩:=HU hv;unfold FC at h;split at h
  .rw[j] at h;cases h
  .have:=q (i - 1) U;rw[show i - 1+1=i by omega,h] at this;cases this
theorem YS{l:List Vw}{i:Nat}{v:Vw}(h:l[i]?=some v)(u:AK v.1 v.2=false):Bv l=false:=by
 cases hv:Bv l with
 | false=>rfl
 | true=>
  have hi:=(zZ h).1;have:=Im hv i hi;rw[Fb h,u] at this;cases this
theorem U8{l:List Vw}{i:Nat}{v:Vw}(hi:i=0)(h:l[i]?=some v):FC l i=AK v.1 v.2:=by
 subst hi;unfold FC;rw[if_pos rfl,Fb h]
theorem Wj{l:List Vw}{j:Nat}{a b:Vw}(h:l[j]?=some a)(u:l[j+1]?=some b):FC l (j+1)=CT a b:=by
 unfold FC;rw[if_neg U,Nat.add_sub_cancel,Fb h,Fb u]
theorem Ve{a b:Vw}{T er:Int}{y:List Int}(h:CW a.1 a.2 (Ed a.1 a.2 b.1 b.2)=(T,y,er)):CT a b=(decide (er=0)&&EM T y b.1 b.2):=by
 unfold CT;rw[h,Bool.eq_iff_iff];unfold EM EK;simp only[Prod.mk.injEq,zE,zB];constructor
 .rintro⟨j,q,u⟩;exact⟨u,j,q⟩
 .rintro⟨j,q,u⟩;exact⟨q,u,j⟩
theorem J4(A:Option Addr)(c:Nat)(l:List VwM)(w:World)(h:AL.Box w A l)(hn:l.length<=1000000000)(hm:∀v∈l,v.xs.length<=1000000) :
  Calls prog 113 #[.slice A l.length c] w λe w'=>e=.returned (.bool (Bv (vws l)))/\V w w':=by
 have H:=J h;have HM:=J hm;clear h hm;by_cases h1:1<=l.length;rotate_left
 .have bf:l.length<1:=U;have H1:=J h1;clear h1;go_enter func113,ntmps113;go_wp2;go_ret;exact⟨AC (OG (by rw[AW];exact H1.o)).symm,V.refl _⟩
 have bf:¬l.length<1:=U;have bm:decide ((l.length:Int)<1)=false:=decide_eq_false U;by_cases h2:l.length<=2000;rotate_left
 .have bg:2000<l.length:=U;have H2:=J h2;clear h2;go_enter func113,ntmps113;go_wp2;go_ret;exact⟨AC (Qh (by rw[AW];exact H2.o)).symm,V.refl _⟩
 have bg:¬2000<l.length:=U;have bn:decide ((2000:Int)<(l.length:Int))=false:=decide_eq_false U;go_enter func113,ntmps113;go_wp2;go_loopw [3] (λi wr=>∃k:Nat,k<=l.length/\i=I k/\O (∀j,j<k->FC (vws l) j=true)/\V w wr) (λi _=>l.length - (intOf i).toNat)
 case atStart=>exact⟨0,zO _,rfl,J (λj hj=>absurd hj (Nat.not_lt_zero _)),V.refl _⟩
 case round=>
  obtain⟨k,hk,rfl,HT,hX⟩:=hrel;have HS:=J hX;clear hX;by_cases F:k<l.length;rotate_left
  .go_wp2;go_ret;exact⟨AC (Ze (by rw[AW];exact h1) (by rw[AW];exact h2) (λj hj=>HT.o j (by rw[AW] at hj;omega))).symm,HS.o⟩
  obtain⟨b2,R,n2,Y2,ac,K,bh,az,d0,d1,aa,bu,bv,bb⟩:=DK (H.o.ext HS.o) F;subst bh;have ax:=J (Dw bb.o);have bz:K.length<=1000000:=HM.o _ (zX bb.o);cases hv:AK n2 K
  .have HV:=J hv;clear hv;go_wp2_with (first|(go_at_call 21;refine(HV.o▸GT n2 Y2 ac K _ aa.o U).mono ?_;rintro e w1 ⟨rfl,z⟩;have Q:=HS.o.t z;clear z));go_ret;exact⟨AC (YS ax.o HV.o).symm,Q.o⟩
  have HV:=J hv;clear hv;by_cases hz:k=0
  .have HZ:=J hz;have bi:decide ((0:Int)<(k:Int))=false:=decide_eq_false U;have bk:decide (0<k)=false:=decide_eq_false U;clear hz;go_wp2_with (first|(go_at_call 21;refine(HV.o▸GT n2 Y2 ac K _ aa.o U).mono ?_;rintro e w1 ⟨rfl,z⟩;have Q:=HS.o.t z;clear z));go_roundw
   case rel=>exact⟨k+1,U,by go_num,J (λj hj=>by
    have:j=k:=by have:=HZ.o;omega
    subst this;rw[U8 HZ.o ax.o];exact HV.o),Q.o⟩
   case measure=>simp[intOf];omega
  obtain⟨j,hj⟩:∃j,k=j+1:=⟨k - 1,U⟩;have HJ:=J hj;obtain⟨b1,bl,n1,Y1,ai,ab,bc,bd,c0,c1,af,br,bt,ba⟩:=DK (H.o.ext HS.o) (show j<l.length by omega);simp only[zJ,Addr.mk.injEq,and_true] at bc;obtain⟨rfl,rfl⟩:=bc;have be:=J (Dw ba.o);have bx:ab.length<=1000000:=HM.o _ (zX ba.o);have bi:decide ((0:Int)<(k:Int))=true:=decide_eq_true U;have bj:0<k:=U;have bk:decide (0<k)=true:=decide_eq_true bj;have bw:IntKind.i64.wrap ((k:Int) - 1)=(j:Int):=by rw[IntWalk.i64_in _ U];omega
  have m1:(0:Int)<=(j:Int):=U;have m2:(j:Int)<(l.length:Int):=U;have m3:j<l.length:=U;obtain⟨ah,am⟩:∃x,Ed n1 ab n2 K=x:=⟨_,rfl⟩;have ar:=J am;obtain⟨⟨T,y,er⟩,a9⟩:∃x,CW n1 ab ah=x:=⟨_,rfl⟩;have av:=J a9;have aw:O (FC (vws l) k=(decide (er=0)&&EM T y n2 K)):=J (by
   have e:=a9;rw[<-am] at e;subst hj;rw[Wj be.o ax.o];exact Ve e)
  clear hz hj am a9;go_wp2_with (first|(go_at_call 21;refine(HV.o▸GT n2 Y2 ac K _ aa.o U).mono ?_;rintro e w1 ⟨rfl,z⟩));have hP:∀w',V w1 w'->w'.cell? (Z b2 (R+j*2))=some (I n1)/\w'.cell? (Z b2 (R+j*2+1))=some (.slice Y1 ab.length ai)/\w'.cell? (Z b2 (R+k*2))=some (I n2)/\w'.cell? (Z b2 (R+k*2+1))=some (.slice Y2 K.length ac):=λw' x=>⟨((z.trans x).cell (p:=(Z b2 (R+j*2))) bd).trans c0,((z.trans x).cell (p:=(Z b2 (R+j*2+1))) bd).trans c1,((z.trans x).cell (p:=(Z b2 (R+k*2))) az).trans d0,((z.trans x).cell (p:=(Z b2 (R+k*2+1))) az).trans d1⟩;clear c0 c1 d0 d1;replace af:=af.o.e z;replace aa:=aa.o.e z;have Q:=HS.o.t z;have bp:=Nat.lt_of_lt_of_le az z.size;clear z;go_upto_region 9 with fail;refine eD 22 (V.refl _) λu=>?_;refine ec 0 ?_;refine ec 4 ?_;refine ec 8 ?_;refine eb 12 ?_;refine E_2 14 19 ?_ ?_
  .refine eL 14 (ar.o▸NK n1 n2 Y1 Y2 ai ac ab K _ (af.o.ext u) (aa.o.ext u) U U) ?_;rintro _ v3 ⟨A3,c3,rfl,ay,al,an,ag⟩;have ap:ah.length<=9223372036854775807:=by unfold maxLen at al;omega
   clear ay al;refine⟨_,rfl,u.trans ag,λu=>?_⟩;have W3:=J an.row;clear an ag;refine E_2 15 19 ?_ ?_
   .refine eL 15 (av.o▸KA n1 Y1 A3 ai c3 ab ah _ (af.o.ext u) W3.o U ap) ?_;rintro _ v5 ⟨G,D,rfl,ad,ae,W,X⟩;have aq:y.length<=9223372036854775807:=by have au:y.length<=D:=ad;unfold maxLen at ae;omega
    clear ad ae;refine⟨_,rfl,u.trans X,λu=>?_⟩;have W5:=J W.row;clear W X W3;refine eb 16 ?_;refine ea 18 ?_;refine eF 19 ?_;have hU:=J u;refine eJ 19 (d:=some 4) (w':=(v5.alloc (.cells #[I 0,Zq] 46))) (u.trans (V.new _ _)) λu=>?_;have B4:O (BIs (v5.alloc (.cells #[I 0,Zq] 46)) (v5.heap.size) #[I 0,Zq] 46):=J (BIs.new v5 _ _);have aj:=B4.o.lt;have ao:w1.heap.size<=v5.heap.size:=hU.o.size;have O5:O (OffR v5.heap.size (v5.heap.size+1) G (Ai y)):=J (W5.o.off (zR _));replace W5:=W5.o.e (V.new _ (.cells #[I 0,Zq] 46));generalize v5.alloc (.cells #[I 0,Zq] 46)=v4 at *;generalize v5.heap.size=r4 at *;refine eF 20 ?_;obtain⟨g0,g1,f0,f1⟩:=B4.o.n2 _ (V.refl _);have LT:O (Lit r4 (r4+1) v4 ((v4.setCell (Z r4 0) (I T)).setCell (Z r4 1) (.slice G y.length D))):=J ((Lit.wrote (Wrote.set r4 0 _ _) (zR _) (Nat.lt_succ_self _)).trans (Lit.wrote (Wrote.set r4 1 _ _) (zR _) (Nat.lt_succ_self _)));have BN:O (BIs ((v4.setCell (Z r4 0) (I T)).setCell (Z r4 1) (.slice G y.length D)) r4 #[I T,.slice G y.length D] 46):=J ((B4.o.set 0 _).set 1 _);refine A_s 20 (w':=((v4.setCell (Z r4 0) (I T)).setCell (Z r4 1) (.slice G y.length D))) (LT.o.ext u ao) λu=>?_;replace W5:=J (W5.o.lit O5.o LT.o);clear g0 g1 f0 f1 LT B4 O5;generalize ((v4.setCell (Z r4 0) (I T)).setCell (Z r4 1) (.slice G y.length D))=v6 at *;exact LN
   .have hU:=J u;refine eJ 19 (d:=some 4) (w':=(v3.alloc (.cells #[I 0,Zq] 46))) (u.trans (V.new _ _)) λu=>?_;have B4:O (BIs (v3.alloc (.cells #[I 0,Zq] 46)) (v3.heap.size) #[I 0,Zq] 46):=J (BIs.new v3 _ _);have aj:=B4.o.lt;have ao:w1.heap.size<=v3.heap.size:=hU.o.size;replace W3:=W3.o.e (V.new _ (.cells #[I 0,Zq] 46));generalize v3.alloc (.cells #[I 0,Zq] 46)=v4 at *;generalize v3.heap.size=r4 at *;refine eF 15 ?_;refine eL 15 (av.o▸KA n1 Y1 A3 ai c3 ab ah _ (af.o.ext u) W3.o U ap) ?_;rintro _ v5 ⟨G,D,rfl,ad,ae,W,X⟩;have aq:y.length<=9223372036854775807:=by have au:y.length<=D:=ad;unfold maxLen at ae;omega
    clear ad ae;refine⟨_,rfl,u.trans X,λu=>?_⟩;have W5:=J W.row;replace B4:=B4.o.e X;have O5:O (OffR r4 (r4+1) G (Ai y)):=J (λq _ hq=>.inr (zL aj (W.lt _ (congrArg (λa=>Value.ownBlock (.slice a y.length D)) hq)).1));clear W X W3;refine eb 16 ?_;refine ea 18 ?_;refine eF 20 ?_;obtain⟨g0,g1,f0,f1⟩:=B4.o.n2 _ (V.refl _);have LT:O (Lit r4 (r4+1) v5 ((v5.setCell (Z r4 0) (I T)).setCell (Z r4 1) (.slice G y.length D))):=J ((Lit.wrote (Wrote.set r4 0 _ _) (zR _) (Nat.lt_succ_self _)).trans (Lit.wrote (Wrote.set r4 1 _ _) (zR _) (Nat.lt_succ_self _)));have BN:O (BIs ((v5.setCell (Z r4 0) (I T)).setCell (Z r4 1) (.slice G y.length D)) r4 #[I T,.slice G y.length D] 46):=J ((B4.o.set 0 _).set 1 _);refine A_s 20 (w':=((v5.setCell (Z r4 0) (I T)).setCell (Z r4 1) (.slice G y.length D))) (LT.o.ext u ao) λu=>?_;replace W5:=J (W5.o.lit O5.o LT.o);clear g0 g1 f0 f1 LT B4 O5;generalize ((v5.setCell (Z r4 0) (I T)).setCell (Z r4 1) (.slice G y.length D))=v6 at *;exact LN
  .refine eJ 19 (d:=some 4) (w':=(w1.drew.alloc (.cells #[I 0,Zq] 46))) (u.trans (V.new _ _)) λu=>?_;have B4:O (BIs (w1.drew.alloc (.cells #[I 0,Zq] 46)) (w1.heap.size) #[I 0,Zq] 46):=J (BIs.new w1.drew _ _);have aj:=B4.o.lt;have ao:w1.drew.heap.size<=w1.heap.size:=zR _;generalize w1.drew.alloc (.cells #[I 0,Zq] 46)=v4 at *;generalize w1.heap.size=r4 at *;refine eF 14 ?_;refine eL 14 (ar.o▸NK n1 n2 Y1 Y2 ai ac ab K _ (af.o.ext u) (aa.o.ext u) U U) ?_;rintro _ v3 ⟨A3,c3,rfl,ay,al,an,ag⟩;have ap:ah.length<=9223372036854775807:=by unfold maxLen at al;omega
   clear ay al;refine⟨_,rfl,u.trans ag,λu=>?_⟩;have W3:=J an.row;replace B4:=B4.o.e ag;have aj:=Nat.lt_of_lt_of_le aj ag.size;clear an ag;refine eF 15 ?_;refine eL 15 (av.o▸KA n1 Y1 A3 ai c3 ab ah _ (af.o.ext u) W3.o U ap) ?_;rintro _ v5 ⟨G,D,rfl,ad,ae,W,X⟩;have aq:y.length<=9223372036854775807:=by have au:y.length<=D:=ad;unfold maxLen at ae;omega
   clear ad ae;refine⟨_,rfl,u.trans X,λu=>?_⟩;have W5:=J W.row;replace B4:=B4.o.e X;have O5:O (OffR r4 (r4+1) G (Ai y)):=J (λq _ hq=>.inr (zL aj (W.lt _ (congrArg (λa=>Value.ownBlock (.slice a y.length D)) hq)).1));clear W X W3;refine eb 16 ?_;refine ea 18 ?_;refine eF 20 ?_;obtain⟨g0,g1,f0,f1⟩:=B4.o.n2 _ (V.refl _);have LT:O (Lit r4 (r4+1) v5 ((v5.setCell (Z r4 0) (I T)).setCell (Z r4 1) (.slice G y.length D))):=J ((Lit.wrote (Wrote.set r4 0 _ _) (zR _) (Nat.lt_succ_self _)).trans (Lit.wrote (Wrote.set r4 1 _ _) (zR _) (Nat.lt_succ_self _)));have BN:O (BIs ((v5.setCell (Z r4 0) (I T)).setCell (Z r4 1) (.slice G y.length D)) r4 #[I T,.slice G y.length D] 46):=J ((B4.o.set 0 _).set 1 _);refine A_s 20 (w':=((v5.setCell (Z r4 0) (I T)).setCell (Z r4 1) (.slice G y.length D))) (LT.o.ext u ao) λu=>?_;replace W5:=J (W5.o.lit O5.o LT.o);clear g0 g1 f0 f1 LT B4 O5;generalize ((v5.setCell (Z r4 0) (I T)).setCell (Z r4 1) (.slice G y.length D))=v6 at *;exact LN
end Go.Proofs.YtponbabbabnaeaaGreat
