/- Part 2: contracts of functions. Conditions: as each theorem says. -/
import Derived.Deep.RegionHeld3
import Derived.Test.YtponbabbabnaeaaGreatQh01
set_option maxRecDepth 100000
set_option maxHeartbeats 40000000
set_option linter.unusedVariables false
namespace Go.Proofs.YtponbabbabnaeaaGreat
open Tryz
open Go.RowKit
theorem Lk{P:Prop}(h:P:=by
 go_enter func169,ntmps169;go_wp2;go_ret;exact⟨DQ q.o.symm,rfl⟩):P:=h
theorem PX{P:Prop}(h:P:=by
 go_wp2_with (go_at_call 192;refine(Se _ _ _ _ _ h z).mono ?_;rintro e w' ⟨rfl,rfl⟩);go_ret;exact⟨rfl,rfl⟩):P:=h
theorem Qg{P:Prop}(h:P:=by
 go_enter func84,ntmps84;go_wp2;go_ret;exact⟨AC q.o.symm,(Below.refl _ _).alloc (zR _) _⟩):P:=h
theorem We(A:Option Addr)(c:Nat)(xs:List Int)(id:Int)(w:World)(h:Row w A (Ai xs))(z:xs.length<=9223372036854775807) :
  Calls prog 156 #[.slice A xs.length c,I id] w λe w'=>e=.returned (I (Gz xs id))/\w=w':=by
 have H:=J h;clear h;go_enter func156,ntmps156;go_wp2;go_loop [5,6,9] (λ_ _ i=>∃k:Nat,k<=xs.length/\i=I k/\O (find id (xs.drop k) k=Gz xs id)) (λ_ _ i=>xs.length - (intOf i).toNat)
 case atStart=>exact⟨0,zO _,rfl,rfl⟩
 case round=>
  obtain⟨k,hk,rfl,u⟩:=hrel;by_cases Q:k<xs.length
  .obtain⟨b,ac,x,rfl,W,G⟩:=H.o.at_ Q;by_cases j:x=id
   .have y:(x == id)=true:=by simp[j]
    have q:=J j;clear j;go_wp2;go_ret;exact⟨DQ (by rw[<-u.o,OQ G.o q.o]),rfl⟩
   .have y:(x == id)=false:=by simp[j]
    have q:=J j;clear j;go_wp2;go_round
    case rel=>exact⟨k+1,U,by go_num,by rw[<-N0 G.o q.o];exact u.o⟩
    case measure=>simp[intOf];omega
  .go_wp2;go_ret;exact⟨DQ (by rw[<-u.o,Pg Q]),rfl⟩
theorem Se(A:Option Addr)(c:Nat)(xs:List Int)(j:Int)(w:World)(h:Row w A (Ai xs))(z:xs.length<=9223372036854775807) :
  Calls prog 192 #[.slice A xs.length c,I j] w λe w'=>e=.returned (.bool (Bl xs j))/\w=w':=by
 have H:=J h;clear h;by_cases D:(xs.length:Int)<1
 .have q:O (Bl xs j=false):=by unfold O Bl;rw[if_pos (.inl D)]
  have hd:decide ((xs.length:Int)<1)=true:=by simpa using D
  go_enter func192,ntmps192;go_wp2;go_ret;exact⟨AC q.o.symm,rfl⟩
 .have T:(1:Int)<=xs.length:=U;by_cases h2:j<(xs.length:Int)
  .have q:O (Bl xs j=false):=by unfold O Bl;rw[if_pos (.inr h2)]
   go_enter func192,ntmps192;go_wp2;go_ret;exact⟨AC q.o.symm,rfl⟩
  .have q:O (Bl xs j=CV 0 xs):=by unfold O Bl;rw[if_neg U]
   have X:(xs.length:Int)<=j:=U;clear D h2;go_enter func192,ntmps192;go_wp2;go_loop [5,7,19] (λl _ i=>∃(k:Nat) (last:Int),k<=xs.length/\l=I last/\i=I k/\O (CV last (xs.drop k)=CV 0 xs)) (λ_ _ i=>xs.length - (intOf i).toNat)
   case atStart=>exact⟨0,0,zO _,rfl,rfl,rfl⟩
   case round=>
    obtain⟨k,last,hk,rfl,rfl,y⟩:=hrel;by_cases Q:k<xs.length
    .obtain⟨b,ac,x,rfl,W,G⟩:=H.o.at_ Q;by_cases K:x<=last
     .go_wp2;go_ret;exact⟨AC (by rw[q.o,<-y.o,K9 G.o K]),rfl⟩
     .by_cases R:1000<x
      .go_wp2;go_ret;exact⟨AC (by rw[q.o,<-y.o,Ot G.o R]),rfl⟩
      .have F:last<x:=U;have u:x<=1000:=U;clear K R;go_wp2;go_round
       case rel=>exact⟨k+1,x,U,rfl,by go_num,by rw[<-KH G.o F u];exact y.o⟩
       case measure=>simp[intOf];omega
    .go_wp2;go_ret;exact⟨AC (by rw[q.o,<-y.o,Oh Q]),rfl⟩
theorem Me(A:Option Addr)(c:Nat)(xs:List Int)(w:World)(h:Row w A (Ai xs))(z:xs.length<=9223372036854775807) :
  Calls prog 155 #[.slice A xs.length c] w λe w'=>e=.returned (.bool (Bl xs 16))/\w=w':=by
 go_enter func155,ntmps155;exact PX
theorem Mw(A:Option Addr)(c:Nat)(xs:List Int)(w:World)(h:Row w A (Ai xs))(z:xs.length<=9223372036854775807) :
  Calls prog 205 #[.slice A xs.length c] w λe w'=>e=.returned (.bool (Bl xs 32))/\w=w':=by
 go_enter func205,ntmps205;exact PX
theorem GK(A:Option Addr)(c:Nat)(xs:List Int)(id:Int)(w:World)(h:Row w A (Ai xs))(z:xs.length<=9223372036854775807) :
  Calls prog 85 #[.slice A xs.length c,I id] w λe w'=>e=.returned (.bool (AG xs id))/\w=w':=by
 go_enter func85,ntmps85;go_wp2_with (go_at_call 156;refine(We _ _ _ _ _ h z).mono ?_;rintro e w' ⟨rfl,rfl⟩);go_ret;exact⟨rfl,rfl⟩
theorem Mz(n:Int)(w:World) :
  Calls prog 169 #[I n] w λe w'=>e=.returned (I (Bs n))/\w=w':=by
 by_cases j:1<=n
 .by_cases h2:n<=16
  .have q:O (Bs n=n / 2+1):=if_pos ⟨j,h2⟩;exact Lk
  .have q:O (Bs n=0):=if_neg U;exact Lk
 .have q:O (Bs n=0):=if_neg U;have u:decide (1<=n)=false:=by simpa using j
  exact Lk
theorem Ge(j:Int)(A:Option Addr)(c:Nat)(xs:List Int)(w:World)(h:Row w A (Ai xs))(z:xs.length<=9223372036854775807) :
  Calls prog 84 #[.agg #[I j,.slice A xs.length c]] w λe w'=>e=.returned (.bool (AK j xs))/\V w w':=by
 by_cases u:0<=j
 .by_cases h2:j<=1099511627776
  .have q:=J (Kl (xs:=xs) u h2);have H:=J h;clear h;go_enter func84,ntmps84;go_wp2_with (go_at_call 155;refine(Me _ _ _ _ (H.o.ext ((Below.refl _ _).alloc (zR _) _)) z).mono ?_;rintro e w' ⟨rfl,y⟩);go_ret;exact⟨AC q.o.symm,V.trans ((Below.refl _ _).alloc (zR _) _) (by rw[y];exact Below.refl _ _)⟩
  .have q:=J (Nr (n:=j) (xs:=xs) U);exact Qg
 .have q:=J (Nm (n:=j) (xs:=xs) U);exact Qg
theorem Mt(A:Option Addr)(c:Nat)(xs:List Int)(w:World)(h:Row w A (Ai xs))(z:xs.length<=9223372036854775807)(j:Bl xs 32=true) :
  Calls prog 205 #[.slice A xs.length c] w λe w'=>e=.returned (.bool true)/\w=w':=by
 rw[<-j];exact Mw A c xs w h z
theorem MP(A:Option Addr)(c:Nat)(xs:List Int)(w:World)(h:Row w A (Ai xs))(z:xs.length<=9223372036854775807)(j:Bl xs 32=false) :
  Calls prog 205 #[.slice A xs.length c] w λe w'=>e=.returned (.bool false)/\w=w':=by
 rw[<-j];exact Mw A c xs w h z
theorem FG(j:Int)(A:Option Addr)(c:Nat)(xs:List Int)(w:World)(h:Row w A (Ai xs))(z:xs.length<=9223372036854775807)(q:AK j xs=true) :
  Calls prog 84 #[.agg #[I j,.slice A xs.length c]] w λe w'=>e=.returned (.bool true)/\V w w':=by
 rw[<-q];exact Ge j A c xs w h z
theorem It(j:Int)(A:Option Addr)(c:Nat)(xs:List Int)(w:World)(h:Row w A (Ai xs))(z:xs.length<=9223372036854775807)(q:AK j xs=false) :
  Calls prog 84 #[.agg #[I j,.slice A xs.length c]] w λe w'=>e=.returned (.bool false)/\V w w':=by
 rw[<-q];exact Ge j A c xs w h z
theorem Sy(A:Option Addr)(c:Nat)(xs:List Int)(id:Int)(w:World)(h:Row w A (Ai xs))(z:xs.length<=9223372036854775807)(j:AG xs id=true) :
  Calls prog 85 #[.slice A xs.length c,I id] w λe w'=>e=.returned (.bool true)/\w=w':=by
 rw[<-j];exact GK A c xs id w h z
theorem Tr(A:Option Addr)(c:Nat)(xs:List Int)(id:Int)(w:World)(h:Row w A (Ai xs))(z:xs.length<=9223372036854775807)(j:AG xs id=false) :
  Calls prog 85 #[.slice A xs.length c,I id] w λe w'=>e=.returned (.bool false)/\w=w':=by
 rw[<-j];exact GK A c xs id w h z
theorem I4(ai:Int)(A Ac Al Ao:Option Addr)(c cc cl co:Nat)(xs af l K:List Int)(w:World)(hx:Row w A (Ai xs))(W:Row w Ac (Ai af))(hl:Row w Al (Ai l))(ho:Row w Ao (Ai K))
  (z:xs.length<=9223372036854775807) (y:af.length<=9223372036854775807) (ap:l.length<=1000) (al:K.length<=9223372036854775807) (hv:AK ai xs=true) (ak:Bl af 32=true) :
  Calls prog 209 #[.agg #[I ai,.slice A xs.length c],.slice Ac af.length cc,.slice Al l.length cl,.slice Ao K.length co] w (Lq w (Bg l K true) (Bg l K false)):=by
 have G:=J hx;have HC:=J W;have HL:=J hl;have HO:=J ho;have D:=J hv;have aa:=J ak;clear hx W hl ho hv ak;have F:=J (V.new w (.cells #[I ai,.slice A xs.length c] 46));go_enter func209,ntmps209;go_wp2_with (first
  | (go_at_call 84;refine(FG _ _ _ _ _ (G.o.ext F.o) z D.o).mono ?_;rintro e T ⟨rfl,j⟩;have X:=J (V.trans F.o j))
  | (go_at_call 205;refine(Mt _ _ _ _ (HC.o.ext X.o) y aa.o).mono ?_;rintro e w2 ⟨rfl,rfl⟩))
 go_loopw [8,9,11,22] (λv u _ i wr=>∃k:Nat,k<=l.length/\i=I k/\Own wr w.heap.size 3 v (Ai (filt (λx=>AG K x == true) l k))/\Own wr w.heap.size 3 u (Ai (filt (λx=>AG K x == false) l k))/\Apart v u/\V w wr) (λ_ _ _ i _=>l.length - (intOf i).toNat)
 case atStart=>exact⟨0,zO _,rfl,Own.nil _ _ _,Own.nil _ _ _,Apart.nil _,X.o⟩
 case round=>
  obtain⟨k,hk,rfl,hv,hu,ag,ab⟩:=hrel;by_cases Q:k<l.length
  .obtain⟨bk,ac,x,rfl,W,ae⟩:=(HL.o.ext ab).at_ Q;have aj:=HO.o.e ab;have an:=K1 (λx=>AG K x == true) l k;have ao:=K1 (λx=>AG K x == false) l k;by_cases hp:AG K x=true
   .have HP:=J hp;clear hp;go_wp2_with (first
     | (go_at_call 85;refine(Sy _ _ _ _ _ aj.o al HP.o).mono ?_;rintro e w' ⟨rfl,rfl⟩)
     | (at_builtin;refine DD rfl (.tmp 29) (.tmp 31) rfl wr w.heap.size _ (filt (λx=>AG K x == true) l k) zi x zi hv U ab.size ?_;intro v1 T R ad ah))
    go_roundw
    case rel=>exact⟨k+1,U,by go_num,by rw[Lf ae.o (by simp[HP.o])];exact R,by rw[Lc ae.o (by simp[HP.o])];exact hu.kept ad ag.symm,ag.stems ah hu,ad.below ab ab.size (λq hq=>(hv.lt q hq).1)⟩
    case measure=>simp[intOf];omega
   .have am:AG K x=false:=by simpa using hp
    have HP:=J am;clear hp am;go_wp2_with (first
     | (go_at_call 85;refine(Tr _ _ _ _ _ aj.o al HP.o).mono ?_;rintro e w' ⟨rfl,rfl⟩)
     | (at_builtin;refine DD rfl (.tmp 33) (.tmp 35) rfl wr w.heap.size _ (filt (λx=>AG K x == false) l k) zi x zi hu U ab.size ?_;intro v1 T R ad ah))
    go_roundw
    case rel=>exact⟨k+1,U,by go_num,by rw[Lc ae.o (by simp[HP.o])];exact hv.kept ad ag,by rw[Lf ae.o (by simp[HP.o])];exact R,(ag.symm.stems ah hv).symm,ad.below ab ab.size (λq hq=>(hu.lt q hq).1)⟩
    case measure=>simp[intOf];omega
  .go_wp2
   go_ret2
   exact Km (by rw[KI Q] at hv;exact hv) (by rw[KI Q] at hu;exact hu) ab
theorem PC{P:Prop}(h:P:=by
 go_wp2_with (first
  | (go_at_call 209;refine(Xt _ _ _ _ _ _ _ _ _ _ _ _ _ _ G.o HC.o z y D.o).mono ?_;rintro e T ⟨A1,c1,A2,c2,rfl,R,aa,j⟩))
 go_ret;exact(DO (by rw[q.o];exact aa) j).from F.o):P:=h
theorem Xt(K:Int)(A Q Al Ao:Option Addr)(c cc nl cl no co:Nat)(xs q:List Int)(w:World)(R:Row w A (Ai xs))(W:Row w Q (Ai q))
  (z:xs.length<=9223372036854775807) (y:q.length<=9223372036854775807) (u:Cd K xs q=false) :
  Calls prog 209 #[.agg #[I K,.slice A xs.length c],.slice Q q.length cc,.slice Al nl cl,.slice Ao no co] w (Lq w [] []):=by
 have G:=J R;have HC:=J W;clear R W;have F:=J (V.new w (.cells #[I K,.slice A xs.length c] 46));rcases Ih u with u|⟨u,hcv⟩
 .have D:=J u;clear u;go_enter func209,ntmps209;go_wp2_with (first
   | (go_at_call 84;refine(It _ _ _ _ _ (G.o.ext F.o) z D.o).mono ?_;rintro e T ⟨rfl,j⟩;have X:=J (V.trans F.o j)))
  go_ret2
  exact Km (Own.nil _ _ _) (Own.nil _ _ _) X.o
 .have D:=J u;have aa:=J hcv;clear u hcv;go_enter func209,ntmps209;go_wp2_with (first
   | (go_at_call 84;refine(FG _ _ _ _ _ (G.o.ext F.o) z D.o).mono ?_;rintro e T ⟨rfl,j⟩;have X:=J (V.trans F.o j))
   | (go_at_call 205;refine(MP _ _ _ _ (HC.o.ext X.o) y aa.o).mono ?_;rintro e w2 ⟨rfl,rfl⟩))
  go_ret2
  exact Km (Own.nil _ _ _) (Own.nil _ _ _) X.o
theorem GivesI.from{a w w':World}{out:List Int}{q:Ending}(e:V a w)(h:GivesI w out q w'):GivesI a out q w':=by
 obtain⟨A,c,y,h2,z,D,F⟩:=h;refine⟨A,c,y,h2,z,?_,e.trans F⟩;obtain⟨u,j⟩:=D;refine⟨u,?_⟩;rcases j with j|⟨k,cap,cur,g3,g4,r⟩
 .exact .inl j
 .exact .inr ⟨k,cap,cur,g3,zL e.size g4,r⟩
theorem TM(K:Int)(A Ac:Option Addr)(c cc:Nat)(xs u:List Int)(w:World)(hx:Row w A (Ai xs))(W:Row w Ac (Ai u))
  (z:xs.length<=9223372036854775807) (y:u.length<=9223372036854775807) :
  Calls prog 207 #[.agg #[I K,.slice A xs.length c],.slice Ac u.length cc] w (GivesI w (B7 K xs u)):=by
 have F:=J (V.new w (.cells #[I K,.slice A xs.length c] 46));have G:=J (hx.ext F.o);have HC:=J (W.ext F.o);clear hx W;by_cases Q:Cd K xs u=true
 .have q:O (B7 K xs u=Bg u xs false):=if_pos Q;have hb:u.length<=1000:=by have:=(FP (m:=32) (D0.1 Q).2).2;omega
  have D:=J (D0.1 Q);clear Q;go_enter func207,ntmps207;go_wp2_with (first
   | (go_at_call 209;refine(I4 _ _ _ _ _ _ _ _ _ _ _ _ _ _ G.o HC.o HC.o G.o z y hb z D.o.1 D.o.2).mono ?_;rintro e T ⟨A1,c1,A2,c2,rfl,R,aa,j⟩))
  go_ret;exact(DO (by rw[q.o];exact aa) j).from F.o
 .have X:Cd K xs u=false:=by simpa using Q
  have q:O (B7 K xs u=[]):=if_neg Q;have D:=J X;clear Q X;go_enter func207,ntmps207;exact PC
theorem ST(K:Int)(A Ac:Option Addr)(c cc:Nat)(xs u:List Int)(w:World)(hx:Row w A (Ai xs))(W:Row w Ac (Ai u))
  (z:xs.length<=9223372036854775807) (y:u.length<=9223372036854775807) :
  Calls prog 206 #[.agg #[I K,.slice A xs.length c],.slice Ac u.length cc] w (GivesI w (Bx K xs u)):=by
 have F:=J (V.new w (.cells #[I K,.slice A xs.length c] 46));have G:=J (hx.ext F.o);have HC:=J (W.ext F.o);clear hx W;by_cases Q:Cd K xs u=true
 .have q:O (Bx K xs u=Bg xs u false):=if_pos Q;have hb:xs.length<=1000:=by have:=(Dk (D0.1 Q).1).2;omega
  have D:=J (D0.1 Q);clear Q;go_enter func206,ntmps206;go_wp2_with (first
   | (go_at_call 209;refine(I4 _ _ _ _ _ _ _ _ _ _ _ _ _ _ G.o HC.o G.o HC.o z y hb y D.o.1 D.o.2).mono ?_;rintro e T ⟨A1,c1,A2,c2,rfl,R,aa,j⟩))
  go_ret;exact(DO (by rw[q.o];exact aa) j).from F.o
 .have X:Cd K xs u=false:=by simpa using Q
  have q:O (Bx K xs u=[]):=if_neg Q;have D:=J X;clear Q X;go_enter func206,ntmps206;exact PC
theorem QN{P:Prop}(h:P:=by
 clear h2;go_wp2;exact bodyPost_ret (v:=.tuple #[.agg #[I 0,Zq],I 5]) (by simp[results,results194,go_sem,q2,q3]) rfl (Fu HF.o (Own.nil _ _ _) ((q.o.set zj _).set zj _))):P:=h
theorem QF{P:Prop}(h:P:=by
 exact bodyPost_ret (v:=.tuple #[.agg #[I 0,Zq],I 1]) (by simp[results,results194,go_sem,q2,q3]) rfl (Fu q.o (Own.nil _ _ _) ((X.o.set zj _).set zj _))):P:=h
def DR(w:World)(num:Int)(s:Value):World:=(w.alloc (.cells #[.int .i64 num,s] 46)).alloc (.cells #[.int .i64 0,.slice none 0 0] 46)
theorem DI{w T:World}{j:Int}{s:Value}(h:V (DR w j s) T) :
  T.cell? (Z w.heap.size 0)=some (I j)/\T.cell? (Z w.heap.size 1)=some s/\
  T.cell? (Z (w.heap.size+1) 0)=some (I 0)/\T.cell? (Z (w.heap.size+1) 1)=some Zq/\
  T.frozen? (Z (w.heap.size+1) 0)=false/\T.frozen? (Z (w.heap.size+1) 1)=false/\w.heap.size+2<=T.heap.size:=by
 have q:=h.size;simp only[DR,World.size_alloc] at q;refine⟨?_,?_,?_,?_,?_,?_,U⟩
 .rw[h.cell (p:=(Y w 0)) (by simp[DR];omega)];simp[DR]
 .rw[h.cell (p:=(Y w 1)) (by simp[DR];omega)];simp[DR]
 .rw[h.cell (p:=(Pv w 0)) (by simp[DR])];simp[DR]
 .rw[h.cell (p:=(Pv w 1)) (by simp[DR])];simp[DR]
 .rw[h.frozen (p:=(Pv w 0)) (by simp[DR])];simp[DR]
 .rw[h.frozen (p:=(Pv w 1)) (by simp[DR])];simp[DR]
theorem I2(w:World)(h:Int)(s:Value):V w (DR w h s):=(V.new w _).alloc _
theorem YF(K:Int)(A Ac:Option Addr)(c cc:Nat)(xs u:List Int)(w:World)(hx:Row w A (Ai xs))(W:Row w Ac (Ai u))
  (z:xs.length<=9223372036854775807) (y:u.length<=9223372036854775807) (Q:Cd K xs u=false) :
  Calls prog 194 #[.agg #[I K,.slice A xs.length c],.slice Ac u.length cc] w (Gu w (CW K xs u)):=by
 have F:=J (I2 w K (.slice A xs.length c));have G:=J (hx.ext F.o);have HC:=J (W.ext F.o);clear hx W;have q:O (CW K xs u=(0,[],1)):=if_pos Q;rcases Ih Q with Q|⟨Q,hcv⟩
 .have D:=J Q;clear Q;go_enter func194,ntmps194;go_wp2_with (first
   | (go_at_call 84;refine(It _ _ _ _ _ G.o z D.o).mono ?_;rintro e T ⟨rfl,j⟩;obtain⟨q0,q1,q2,q3,q4,q5,q6⟩:=DI j;have X:=J (V.trans F.o j);clear j))
  exact QF
 .have D:=J Q;have aa:=J hcv;clear Q hcv;go_enter func194,ntmps194;go_wp2_with (first
   | (go_at_call 84;refine(FG _ _ _ _ _ G.o z D.o).mono ?_;rintro e T ⟨rfl,j⟩;obtain⟨q0,q1,q2,q3,q4,q5,q6⟩:=DI j;have R:=HC.o.e j;have X:=J (V.trans F.o j);clear j)
   | (go_at_call 205;refine(MP _ _ _ _ R.o y aa.o).mono ?_;rintro e w2 ⟨rfl,rfl⟩))
  exact QF
theorem WN(K:Int)(A Ac:Option Addr)(c cc:Nat)(xs Q:List Int)(w:World)(hx:Row w A (Ai xs))(W:Row w Ac (Ai Q))
  (z:xs.length<=9223372036854775807) (y:Q.length<=9223372036854775807) (hv:Cd K xs Q=true) :
  Calls prog 194 #[.agg #[I K,.slice A xs.length c],.slice Ac Q.length cc] w (Gu w (CW K xs Q)):=by
 have F:=J (I2 w K (.slice A xs.length c));have G:=J (hx.ext F.o);have HC:=J (W.ext F.o);clear hx W;have D:=J (D0.1 hv);have HO:=J hv;have au:xs.length<=16:=(Dk D.o.1).2;have av:Q.length<=32:=(FP (m:=32) D.o.2).2;clear hv;go_enter func194,ntmps194;go_wp2_with (first
  | (go_at_call 84;refine(FG _ _ _ _ _ G.o z D.o.1).mono ?_;rintro e T ⟨rfl,j⟩;obtain⟨q0,q1,q2,q3,q4,q5,q6⟩:=DI j;have ad:=G.o.e j;have R:=HC.o.e j;have X:=J j;clear j)
  | (go_at_call 205;refine(Mt _ _ _ _ R.o y D.o.2).mono ?_;rintro e w2 ⟨rfl,rfl⟩))
 go_region_held3 (λw'=>w'.cell? (Y w 0)=some (I K)/\w'.cell? (Y w 1)=some (.slice A xs.length c))
  (first|go_keep|(go_split_ands;refine⟨?_,?_⟩<;>first|(rw[ab.cell zm];assumption)|(rw[u.cell zm];assumption)))
  (first
   | (go_at_call 206;refine(ST _ _ _ _ _ _ _ _ (by exact ad.o) (by exact R.o) z y).mono ?_;rintro e w2 ⟨A2,c2,rfl,ao,aw,aa,u⟩;have s2:T.heap.size<=w2.heap.size:=u.size;have ag:=J (Row.ext (w:=T.drew) ad.o u);have af:=J (Row.ext (w:=T.drew) R.o u))
   | (go_at_call 207;refine(TM _ _ _ _ _ _ _ _ (by exact ag.o) (by exact af.o) z y).mono ?_;rintro e w3 ⟨A3,c3,rfl,ap,ax,aj,ab⟩;have s3:=ab.size))
 have H3:=J (((V.drew X.o).trans u).trans ab);clear q0 q1 q2 q3 q4 q5 q6;obtain⟨q0,q1,q2,q3,q4,q5,q6⟩:=DI H3.o;have HS:=J (aa.ext ab);have q:=J (V.trans F.o H3.o);clear u ab ag af ad R X;have az:=OE HO.o;have ar:=Pm HO.o;have ak:=Ev D.o.1;by_cases h1:2*(Bx K xs Q).length<=xs.length
 .have HF:=J (Ku HO.o h1);go_wp2;exact bodyPost_ret (v:=.tuple #[.agg #[I 0,Zq],I 9]) (by simp[results,results194,go_sem,q2,q3]) rfl (Fu HF.o (Own.nil _ _ _) ((q.o.set zj _).set zj _))
 .have al:xs.length<2*(Bx K xs Q).length:=U;have ac:=J h1;clear h1;by_cases h2:K=1099511627776
  .have HF:=J (Id HO.o ac.o (.inl h2));have ai:(K == 1099511627776)=true:=by simpa using h2
   exact QN
  .have ai:(K == 1099511627776)=false:=by simpa using h2
   by_cases h3:16<(Bx K xs Q).length+(B7 K xs Q).length
   .have HF:=J (Id HO.o ac.o (.inr h3));exact QN
   .have HF:=J (KX HO.o ac.o U);have an:(Bx K xs Q).length+(B7 K xs Q).length<=16:=U;have am:K<1099511627776:=U;have hw:IntKind.i64.wrap (K+1)=K+1:=IntWalk.i64_in _ U;clear h2 h3;go_wp2;go_region_held3 (λw'=>w'.cell? (Y w 0)=some (I K))
     (first|go_keep)
     (first
      | (go_at_call 208;refine(NH _ _ _ _ _ _ _ (by exact HS.o.row) (by exact aj.row) U U U).mono ?_;rintro e w4 ⟨A4,c4,rfl,aq,ay,ae,ah⟩;obtain⟨k0,k1,k2,k3,k4,k5,k6⟩:=DI ((V.drew H3.o).trans ah)))
    go_wp2;have HB:=J (V.trans q.o (V.trans (V.drew (V.refl w3)) ah));refine bodyPost_ret (v:=.tuple #[.agg #[I (K+1),.slice A4 (Bf (Bx K xs Q) (B7 K xs Q)).length c4],I 0]) (by simp[results,results194,go_sem,k2,k3]) rfl (Fu HF.o ((Own.set (Own.set (ae.base ?_) ?_ _) ?_ _)) ((HB.o.set zj _).set zj _))
    .show w.heap.size<=w3.heap.size;omega
    .intro k hk;have:=(ae.lt k hk).1;simp only[World.drew] at this;simp;omega
    .intro k hk;have:=(ae.lt k hk).1;simp only[World.drew] at this;simp;omega
theorem FM(a:List Int):Bf a []=a:=by unfold Bf;simp
theorem Ik(a:List Int):Bf [] a=a:=by unfold Bf;simp
theorem GN{x y:Int}{a b:List Int}(h:x<=y):Bf (x::a) (y::b)=x::Bf a (y::b):=by
 unfold Bf;rw[List.cons_merge_cons_pos _ _ _ (by simp[leB,h])]
theorem I6{x y:Int}{a b:List Int}(h:y<x):Bf (x::a) (y::b)=y::Bf (x::a) b:=by
 unfold Bf;rw[List.cons_merge_cons_neg _ _ _ (by simp[leB];omega)]
def JF(id:Int)(s:List Int×Bool):List Int:=if s.2 then s.1 else s.1++[id]
theorem Zj(id:Int)(xs:List Int):∀(o:List Int),
  JF id (xs.foldl (D7 id) (o,false))=o++Bf xs [id]/\(xs.foldl (D7 id) (o,true))=(o++xs,true):=by
 induction xs with
 | nil=>intro o;simp[Ik,JF]
 | cons x xs q=>
  intro o;have u:D7 id (o,true) x=(o++[x],true):=by simp[D7]
  refine⟨?_,?_⟩
  .rw[List.foldl_cons];by_cases h:id<x
   .have j:D7 id (o,false) x=(o++[id]++[x],true):=by simp[D7,h]
    rw[j,(q _).2,I6 h,FM];simp[JF]
   .have j:D7 id (o,false) x=(o++[x],false):=by simp[D7,h]
    rw[j,GN U,(q (o++[x])).1];simp
  .rw[List.foldl_cons,u,(q _).2];simp
theorem M9(xs:List Int)(id:Int):EH xs id=Bf xs [id]:=by
 have h:EH xs id=JF id (BS id xs xs.length):=rfl;have h2:=(Zj id xs []).1;rw[h];unfold BS;rw[List.take_length,h2];simp
theorem VO(s q:List Int)(j:Int)(h:∀y∈q,j<=y):Bf s (j::q)=Bf (Bf s [j]) q:=by
 have z:∀l:List Int,Bf (j::l) q=j::Bf l q:=by
  intro l;cases q with
  | nil=>rw[FM,FM]
  | cons y q=>exact GN (h y zj)
 induction s with
 | nil=>rw[Ik,Ik,z,Ik]
 | cons x s D=>
  by_cases u:x<=j
  .rw[GN u,GN u,D];cases q with
   | nil=>rw[FM,FM]
   | cons y q=>rw[GN (Int.le_trans u (h y zj))]
  .rw[I6 U,I6 U,FM,z]
def DC(s js:List Int)(k:Nat):List Int:=(js.take k).foldl EH s
theorem Hu{s j:List Int}{k:Nat}{x:Int}(h:j[k]?=some x):DC s j (k+1)=EH (DC s j k) x:=by
 unfold DC;rw[Cz h,List.foldl_append];rfl
theorem Ty(xs:List Int)(id:Int):(EH xs id).length=xs.length+1:=by
 rw[M9];unfold Bf;simp
theorem MT{s h:List Int}(k:Nat)(hk:k<=h.length):(DC s h k).length=s.length+k:=by
 induction k with
 | zero=>simp[DC]
 | succ k j=>
  rw[Hu (zY U),Ty,j U];omega
theorem Uj(q:List Int):∀s,q.Pairwise (·<=·)->q.foldl EH s=Bf s q:=by
 induction q with
 | nil=>intro s _;rw[FM];rfl
 | cons j q u=>
  intro s h;rw[List.pairwise_cons] at h;rw[List.foldl_cons,u _ h.2,M9,<-VO s q j h.1]
theorem MQ{s j:List Int}{k:Nat}(hk:¬k<j.length)(h:j.Pairwise (·<=·)):DC s j k=Bf s j:=by
 unfold DC;rw[List.take_of_length_le U,Uj j s h]
theorem KM(xs:List Int):∀last,CV last xs=true↔xs.Pairwise (·<·)/\∀x∈xs,last<x/\x<=1000:=by
 induction xs with
 | nil=>intro last;simp[CV]
 | cons x xs z=>
  intro last;unfold CV;by_cases h:x<=last\/1000<x
  .rw[if_pos h];simp only[Bool.false_eq_true,false_iff,not_and];intro _ j;have:=j x zj;omega
  .rw[if_neg h,z,List.pairwise_cons];constructor
   .rintro⟨q,h2⟩;refine⟨⟨λy hy=>(h2 y hy).1,q⟩,λy hy=>?_⟩;rcases zC.1 hy with rfl|hy
    .omega
    .have:=h2 y hy;omega
   .rintro⟨⟨q,h2⟩,u⟩;exact⟨h2,λy hy=>⟨q y hy,(u y (by simp[hy])).2⟩⟩
theorem DM{xs:List Int}{m:Nat}:Bl xs m=true↔1<=xs.length/\xs.length<=m/\xs.Pairwise (·<·)/\∀x∈xs,0<x/\x<=1000:=by
 unfold Bl;by_cases h:(xs.length:Int)<1\/(m:Int)<(xs.length:Int)
 .rw[if_pos h];simp only[Bool.false_eq_true,false_iff];omega
 .rw[if_neg h,KM];exact⟨λk=>⟨U,U,k⟩,λk=>k.2.2⟩
theorem I0{xs:List Int}{m:Int}(h:Bl xs m=true):xs.Pairwise (·<·):=by
 unfold Bl at h;split at h
 .cases h
 .exact((KM xs 0).1 h).1
theorem Ei{n:Int}{xs:List Int}(h:AK n xs=true):Bl xs 16=true:=by
 unfold AK at h;simp only[zB] at h;exact h.2
theorem OA{l m:List Int}{b:Bool}(h:l.Pairwise (·<·)):(Bg l m b).Pairwise (·<=·):=
 (List.Pairwise.filter _ h).imp (λh=>Int.le_of_lt h)
theorem T6(q:Int)(xs j:List Int):(B7 q xs j).Pairwise (·<=·):=by
 unfold B7;split
 .next h=>exact OA (I0 (D0.1 h).2)
 .exact List.Pairwise.nil
def Ed(n:Int)(xs:List Int)(m:Int)(ys:List Int):List Int:=if AK n xs&&AK m ys then Bf (Bg xs ys false) (Bg ys xs false) else []
theorem N7{n m:Int}{xs ys:List Int}(h:AK n xs=true)(h2:AK m ys=true):Ed n xs m ys=Bf (Bg xs ys false) (Bg ys xs false):=by simp[Ed,h,h2]
theorem NY{n m:Int}{xs ys:List Int}(h:AK n xs=false):Ed n xs m ys=[]:=by simp[Ed,h]
theorem On{n m:Int}{xs ys:List Int}(h2:AK m ys=false):Ed n xs m ys=[]:=by simp[Ed,h2]
theorem OP{xs:List Int}(h:Bl xs 16=true):Bl xs 32=true:=by
 have:=(DM (m:=16)).1 h;exact(DM (m:=32)).2 ⟨this.1,U,this.2.2⟩
def EM(n:Int)(xs:List Int)(m:Int)(ys:List Int):Bool:=decide (n=m)&&EK xs ys
theorem QT{P:Prop}(h:P:=by
 obtain⟨k,hk,rfl,T,HS⟩:=hrel;by_cases Q:k<xs.length
 .obtain⟨b,ac,x,rfl,W,G⟩:=(HS.row H.o).at_ Q;obtain⟨b',aa,y,rfl,ab,R⟩:=(HS.row D.o).at_ (show k<ys.length by omega);by_cases j:x=y
  .have u:(x != y)=false:=by simp[j]
   have q:=J j;clear j;go_wp2;go_quiet (fail);go_wp2;go_roundw
   case rel=>exact⟨k+1,U,by go_num,VF G.o R.o q.o T.o,HS.drewN _⟩
   case measure=>simp[intOf];omega
  .have u:(x != y)=true:=by simp[j]
   have q:=J j;clear j;go_wp2;go_quiet (fail);go_wp2;go_ret;exact⟨AC (Uk G.o R.o q.o).symm,HS.drewN _⟩
 .go_wp2;go_ret;exact⟨AC (V8 Q HL.o T.o).symm,HS⟩):P:=h
theorem Th(A K:Option Addr)(c c':Nat)(xs ys:List Int)(w:World)(h:Row w A (Ai xs))(X:Row w K (Ai ys))(z:xs.length<=9223372036854775807) :
  Calls prog 153 #[.slice A xs.length c,.slice K ys.length c'] w λe w'=>e=.returned (.bool (EK xs ys))/\Still w w':=by
 have H:=J h;clear h;have D:=J X;clear X;by_cases F:xs.length=ys.length
 .have HL:=J F;have hb:((xs.length:Int) != (ys.length:Int))=false:=by simp[F]
  have ae:ys.length<=xs.length:=U;have ad:xs.length<=ys.length:=U;clear F;go_enter func153,ntmps153;go_wp2;go_loopw [5] (λi wr=>∃k:Nat,k<=xs.length/\i=I k/\O (xs.take k=ys.take k)/\Still w wr) (λi _=>xs.length - (intOf i).toNat)
  case atStart=>exact⟨0,zO _,rfl,rfl,Still.refl _⟩
  case round=>
   exact QT
 .have q:=J (NW F);have hb:((xs.length:Int) != (ys.length:Int))=true:=zm;clear F;go_enter func153,ntmps153;go_wp2;go_ret;exact⟨AC q.o.symm,Still.refl _⟩
theorem VA(A K:Option Addr)(c c':Nat)(xs ys:List Int)(w:World)(h:Row w A (Ai xs))(X:Row w K (Ai ys))(z:xs.length<=9223372036854775807) :
  Calls prog 196 #[.slice A xs.length c,.slice K ys.length c'] w λe w'=>e=.returned (.bool (EK xs ys))/\Still w w':=by
 have H:=J h;clear h;have D:=J X;clear X;by_cases F:xs.length=ys.length
 .have HL:=J F;have hb:((xs.length:Int) != (ys.length:Int))=false:=by simp[F]
  have ae:ys.length<=xs.length:=U;have ad:xs.length<=ys.length:=U;clear F;go_enter func196,ntmps196;go_wp2;go_loopw [5,13] (λ_ i wr=>∃k:Nat,k<=xs.length/\i=I k/\O (xs.take k=ys.take k)/\Still w wr) (λ_ i _=>xs.length - (intOf i).toNat)
  case atStart=>exact⟨0,zO _,rfl,rfl,Still.refl _⟩
  case round=>
   exact QT
 .have q:=J (NW F);have hb:((xs.length:Int) != (ys.length:Int))=true:=zm;clear F;go_enter func196,ntmps196;go_wp2;go_ret;exact⟨AC q.o.symm,Still.refl _⟩
theorem PF{P:Prop}(h:P:=by
 go_wp2_with (first
  | (go_at_call 21;refine(EY _ _ _ _ _ G.o z D.o).mono ?_;rintro e T ⟨rfl,j⟩;have R:=HC.o.e j;have X:=F.o.t j;clear j)
  | (go_at_call 95;refine(ME _ _ _ _ R.o y aa.o).mono ?_;rintro e w2 ⟨rfl,K⟩))
 go_ret;exact DO (by rw[q.o];exact Own.nil _ _ _) (X.o.trans K.ext)):P:=h
theorem Px{P:Prop}(h:P:=by
 go_wp2_with (first
  | (go_at_call 21;refine(Ie _ _ _ _ _ G.o z D.o).mono ?_;rintro e T ⟨rfl,j⟩))
 go_ret;exact DO (by rw[q.o];exact Own.nil _ _ _) (F.o.trans j)):P:=h
theorem EY(j:Int)(A:Option Addr)(c:Nat)(xs:List Int)(w:World)(h:Row w A (Ai xs))(z:xs.length<=9223372036854775807)(q:AK j xs=true) :
  Calls prog 21 #[.agg #[I j,.slice A xs.length c]] w λe w'=>e=.returned (.bool true)/\V w w':=by
 rw[<-q];exact GT j A c xs w h z
theorem Ie(j:Int)(A:Option Addr)(c:Nat)(xs:List Int)(w:World)(h:Row w A (Ai xs))(z:xs.length<=9223372036854775807)(q:AK j xs=false) :
  Calls prog 21 #[.agg #[I j,.slice A xs.length c]] w λe w'=>e=.returned (.bool false)/\V w w':=by
 rw[<-q];exact GT j A c xs w h z
theorem IT(A:Option Addr)(c:Nat)(xs:List Int)(w:World)(h:Row w A (Ai xs))(z:xs.length<=9223372036854775807)(j:Bl xs 32=true) :
  Calls prog 95 #[.slice A xs.length c] w λe w'=>e=.returned (.bool true)/\Still w w':=by
 rw[<-j];exact MG A c xs w h z
theorem ME(A:Option Addr)(c:Nat)(xs:List Int)(w:World)(h:Row w A (Ai xs))(z:xs.length<=9223372036854775807)(j:Bl xs 32=false) :
  Calls prog 95 #[.slice A xs.length c] w λe w'=>e=.returned (.bool false)/\Still w w':=by
 rw[<-j];exact MG A c xs w h z
theorem Tj(Q:Int)(A Ac:Option Addr)(c cc:Nat)(xs u:List Int)(w:World)(hx:Row w A (Ai xs))(W:Row w Ac (Ai u))
  (z:xs.length<=9223372036854775807) (y:u.length<=9223372036854775807) :
  Calls prog 97 #[.agg #[I Q,.slice A xs.length c],.slice Ac u.length cc] w (GivesI w (B7 Q xs u)):=by
 have F:=J (V.new w (.cells #[I Q,.slice A xs.length c] 46));have G:=J (hx.ext F.o);have HC:=J (W.ext F.o);clear hx W;by_cases hv:Cd Q xs u=true
 .have q:O (B7 Q xs u=Bg u xs false):=if_pos hv;have hb:u.length<=1000000:=by have:=(FP (m:=32) (D0.1 hv).2).2;omega
  have D:=J (D0.1 hv);clear hv;go_enter func97,ntmps97;go_wp2_with (first
   | (go_at_call 21;refine(EY _ _ _ _ _ G.o z D.o.1).mono ?_;rintro e T ⟨rfl,j⟩;have q1:=j.cell_new 1;simp at q1;have ad:=G.o.e j;have R:=HC.o.e j;have X:=F.o.t j;clear j)
   | (go_at_call 95;refine(IT _ _ _ _ R.o y D.o.2).mono ?_;rintro e w2 ⟨rfl,K⟩;have q2:=(K.ext.cell (p:=⟨w.heap.size,1,none⟩) (by have:=X.o.size;exact World.block_lt_of_cell? _ _ q1)).trans q1;have ae:=ad.o.e K.ext;have ac:=R.o.e K.ext;have H2:=X.o.t K.ext;clear K)
   | (go_at_call 162;refine(GW _ _ _ _ _ _ _ _ ac.o ae.o hb z).mono ?_;rintro e w3 ⟨A3,c3,rfl,ah,ai,af,ag⟩))
  go_ret;exact(DO (by rw[q.o];exact af) ag).from H2.o
 .have ab:Cd Q xs u=false:=by simpa using hv
  have q:O (B7 Q xs u=[]):=if_neg hv;clear hv;rcases Ih ab with hv|⟨hv,hcv⟩
  .have D:=J hv;clear hv ab;go_enter func97,ntmps97;exact Px
  .have D:=J hv;have aa:=J hcv;clear hv hcv ab;go_enter func97,ntmps97;exact PF
theorem Ms(Q:Int)(A Ac:Option Addr)(c cc:Nat)(xs u:List Int)(w:World)(hx:Row w A (Ai xs))(W:Row w Ac (Ai u))
  (z:xs.length<=9223372036854775807) (y:u.length<=9223372036854775807) :
  Calls prog 96 #[.agg #[I Q,.slice A xs.length c],.slice Ac u.length cc] w (GivesI w (Bx Q xs u)):=by
 have F:=J (V.new w (.cells #[I Q,.slice A xs.length c] 46));have G:=J (hx.ext F.o);have HC:=J (W.ext F.o);clear hx W;by_cases hv:Cd Q xs u=true
 .have q:O (Bx Q xs u=Bg xs u false):=if_pos hv;have hb:xs.length<=1000000:=by have:=(Dk (D0.1 hv).1).2;omega
  have D:=J (D0.1 hv);clear hv;go_enter func96,ntmps96;go_wp2_with (first
   | (go_at_call 21;refine(EY _ _ _ _ _ G.o z D.o.1).mono ?_;rintro e T ⟨rfl,j⟩;have q1:=j.cell_new 1;simp at q1;have ad:=G.o.e j;have R:=HC.o.e j;have X:=F.o.t j;clear j)
   | (go_at_call 95;refine(IT _ _ _ _ R.o y D.o.2).mono ?_;rintro e w2 ⟨rfl,K⟩;have q2:=(K.ext.cell (p:=⟨w.heap.size,1,none⟩) (by have:=X.o.size;exact World.block_lt_of_cell? _ _ q1)).trans q1;have ae:=ad.o.e K.ext;have ac:=R.o.e K.ext;have H2:=X.o.t K.ext;clear K)
   | (go_at_call 162;refine(GW _ _ _ _ _ _ _ _ ae.o ac.o hb y).mono ?_;rintro e w3 ⟨A3,c3,rfl,ah,ai,af,ag⟩))
  go_ret;exact(DO (by rw[q.o];exact af) ag).from H2.o
 .have ab:Cd Q xs u=false:=by simpa using hv
  have q:O (Bx Q xs u=[]):=if_neg hv;clear hv;rcases Ih ab with hv|⟨hv,hcv⟩
  .have D:=J hv;clear hv ab;go_enter func96,ntmps96;exact Px
  .have D:=J hv;have aa:=J hcv;clear hv hcv ab;go_enter func96,ntmps96;exact PF
theorem PI{P:Prop}(h:P:=by
 clear h2;go_wp2;exact bodyPost_ret (v:=.tuple #[.agg #[I 0,Zq],I 5]) (by simp[results,results28,go_sem,q2,q3]) rfl (Fu HF.o (Own.nil _ _ _) (((F.o.trans H4.o).set zj _).set zj _))):P:=h
theorem Xf(Q:Int)(A Ac:Option Addr)(c cc:Nat)(xs u:List Int)(w:World)(hx:Row w A (Ai xs))(W:Row w Ac (Ai u))
  (z:xs.length<=9223372036854775807) (y:u.length<=9223372036854775807) (hv:Cd Q xs u=false) :
  Calls prog 28 #[.agg #[I Q,.slice A xs.length c],.slice Ac u.length cc] w (Gu w (CW Q xs u)):=by
 have F:=J (I2 w Q (.slice A xs.length c));have G:=J (hx.ext F.o);have HC:=J (W.ext F.o);clear hx W;have q:O (CW Q xs u=(0,[],1)):=if_pos hv;rcases Ih hv with hv|⟨hv,hcv⟩
 .have D:=J hv;clear hv;go_enter func28,ntmps28;go_wp2_with (first
   | (go_at_call 21;refine(Ie _ _ _ _ _ G.o z D.o).mono ?_;rintro e T ⟨rfl,j⟩;obtain⟨q0,q1,q2,q3,q4,q5,q6⟩:=DI j;have X:=J (V.trans F.o j);clear j))
  exact bodyPost_ret (v:=.tuple #[.agg #[I 0,Zq],I 1]) (by simp[results,results28,go_sem,q2,q3]) rfl (Fu q.o (Own.nil _ _ _) ((X.o.set zj _).set zj _))
 .have D:=J hv;have aa:=J hcv;clear hv hcv;go_enter func28,ntmps28;go_wp2_with (first
   | (go_at_call 21;refine(EY _ _ _ _ _ G.o z D.o).mono ?_;rintro e T ⟨rfl,j⟩;have R:=HC.o.e j;have X:=J j;clear j)
   | (go_at_call 95;refine(ME _ _ _ _ R.o y aa.o).mono ?_;rintro e w2 ⟨rfl,K⟩;have H2:=X.o.t K.ext;clear K;obtain⟨q0,q1,q2,q3,q4,q5,q6⟩:=DI H2.o))
  exact bodyPost_ret (v:=.tuple #[.agg #[I 0,Zq],I 1]) (by simp[results,results28,go_sem,q2,q3]) rfl (Fu q.o (Own.nil _ _ _) (((F.o.trans H2.o).set zj _).set zj _))
theorem Vs(q:Int)(A Ac:Option Addr)(c cc:Nat)(xs u:List Int)(w:World)(hx:Row w A (Ai xs))(W:Row w Ac (Ai u))
  (z:xs.length<=9223372036854775807) (y:u.length<=9223372036854775807) (hv:Cd q xs u=true) :
  Calls prog 28 #[.agg #[I q,.slice A xs.length c],.slice Ac u.length cc] w (Gu w (CW q xs u)):=by
 have F:=J (I2 w q (.slice A xs.length c));have G:=J (hx.ext F.o);have HC:=J (W.ext F.o);clear hx W;have D:=J (D0.1 hv);have HO:=J hv;have bh:xs.length<=16:=(Dk D.o.1).2;have bi:u.length<=32:=(FP (m:=32) D.o.2).2;have bm:=OE HO.o;have bg:=Pm HO.o;have a9:=Ev D.o.1;clear hv;by_cases h1:2*(Bx q xs u).length<=xs.length
 .have HF:=J (Ku HO.o h1);go_enter func28,ntmps28;go_wp2_with (first
   | (go_at_call 21;refine(EY _ _ _ _ _ G.o z D.o.1).mono ?_;rintro e T ⟨rfl,j⟩;have ae:=G.o.e j;have R:=HC.o.e j;have X:=J j;clear j)
   | (go_at_call 95;refine(IT _ _ _ _ R.o y D.o.2).mono ?_;rintro e w2 ⟨rfl,K⟩;have H2:=X.o.t K.ext;have ad:=ae.o.e K.ext;have ab:=R.o.e K.ext;clear K;obtain⟨q0,q1,q2,q3,q4,q5,q6⟩:=DI H2.o)
   | (go_at_call 96;refine(Ms _ _ _ _ _ _ _ _ ad.o ab.o z y).mono ?_;rintro e w3 ⟨A3,c3,rfl,au,aw,ak,aa⟩;have H3:=H2.o.t aa;have ai:=ad.o.e aa;have ag:=ab.o.e aa;clear aa q0 q1 q2 q3 q4 q5 q6;obtain⟨q0,q1,q2,q3,q4,q5,q6⟩:=DI H3.o))
  exact bodyPost_ret (v:=.tuple #[.agg #[I 0,Zq],I 9]) (by simp[results,results28,go_sem,q2,q3]) rfl (Fu HF.o (Own.nil _ _ _) (((F.o.trans H3.o).set zj _).set zj _))
 .have ba:xs.length<2*(Bx q xs u).length:=U;have ah:=J h1;clear h1;go_enter func28,ntmps28;go_wp2_with (first
   | (go_at_call 21;refine(EY _ _ _ _ _ G.o z D.o.1).mono ?_;rintro e T ⟨rfl,j⟩;have ae:=G.o.e j;have R:=HC.o.e j;have X:=J j;clear j)
   | (go_at_call 95;refine(IT _ _ _ _ R.o y D.o.2).mono ?_;rintro e w2 ⟨rfl,K⟩;have H2:=X.o.t K.ext;have ad:=ae.o.e K.ext;have ab:=R.o.e K.ext;clear K;obtain⟨q0,q1,q2,q3,q4,q5,q6⟩:=DI H2.o)
   | (go_at_call 96;refine(Ms _ _ _ _ _ _ _ _ ad.o ab.o z y).mono ?_;rintro e w3 ⟨A3,c3,rfl,au,aw,ak,aa⟩;have H3:=H2.o.t aa;have ai:=ad.o.e aa;have ag:=ab.o.e aa;clear aa q0 q1 q2 q3 q4 q5 q6;obtain⟨q0,q1,q2,q3,q4,q5,q6⟩:=DI H3.o)
   | (go_at_call 97;fail))
  refine(Tj _ _ _ _ _ _ _ _ ai.o ag.o z y).mono ?_;rintro e w4 ⟨A4,c4,rfl,be,bj,ao,al⟩;have H4:=H3.o.t al;have HS:=J (Own.base (B':=w.heap.size+2) (ak.ext al) (DI H2.o).2.2.2.2.2.2);have HJ:=J ao.row;clear al q0 q1 q2 q3 q4 q5 q6 ae R ad ab ai ag ak ao;obtain⟨q0,q1,q2,q3,q4,q5,q6⟩:=DI H4.o;by_cases h2:q=1099511627776
  .have HF:=J (Id HO.o ah.o (.inl h2));have ar:(q == 1099511627776)=true:=by simpa using h2
   exact PI
  .have ar:(q == 1099511627776)=false:=by simpa using h2
   by_cases h3:16<(Bx q xs u).length+(B7 q xs u).length
   .have HF:=J (Id HO.o ah.o (.inr h3));exact PI
   .have HF:=J (KX HO.o ah.o U);have bc:(Bx q xs u).length+(B7 q xs u).length<=16:=U;have bb:q<1099511627776:=U;clear h2 h3;go_wp2;go_loopw [6,8] (λv i wr=>∃(k:Nat) (A5:Option Addr) (c5:Nat),k<=(B7 q xs u).length/\v=.slice A5 (DC (Bx q xs u) (B7 q xs u) k).length c5/\i=I k/\Own wr (w.heap.size+2) 3 (.slice A5 (DC (Bx q xs u) (B7 q xs u) k).length c5) (Ai (DC (Bx q xs u) (B7 q xs u) k))/\V w4 wr) (λ_ i _=>(B7 q xs u).length - (intOf i).toNat)
    case atStart=>exact⟨0,A3,c3,zO _,rfl,rfl,HS.o,Below.refl _ _⟩
    case round=>
     obtain⟨k,A5,c5,hk,rfl,rfl,af,am⟩:=hrel;have av:=MT (s:=Bx q xs u) k hk;have az:(DC (Bx q xs u) (B7 q xs u) k).length<=100:=U;clear av;have H5:=H4.o.t am;have aq:=HJ.o.e am;by_cases Q:k<(B7 q xs u).length
     .obtain⟨bk,ac,x,hA,W,an⟩:=aq.o.at_ Q;have bd:=J hA;subst hA;go_wp2_with (first
       | (go_at_call 98;refine(MI _ _ _ _ _ af.row U).mono ?_;rintro e w6 ⟨A6,c6,rfl,bf,bl,ax,ay⟩))
      go_roundw
      case rel=>exact⟨k+1,A6,c6,U,by rw[Hu an.o],by go_num,by rw[Hu an.o];exact ax.base (DI H5.o).2.2.2.2.2.2,am.trans ay⟩
      case measure=>simp[intOf];omega
     .clear q0 q1 q2 q3 q4 q5 q6;obtain⟨q0,q1,q2,q3,q4,q5,q6⟩:=DI H5.o;have ap:=J (MQ (s:=Bx q xs u) Q (T6 q xs u));go_wp2;refine bodyPost_ret (v:=.tuple #[.agg #[I (q+1),.slice A5 (DC (Bx q xs u) (B7 q xs u) k).length c5],I 0]) (by simp[results,results28,go_sem,q2,q3]) rfl (Fu HF.o ?_ (((F.o.trans H5.o).set zj _).set zj _));rw[<-ap.o];refine Own.set (Own.set (af.base U) ?_ _) ?_ _
      .intro k' aj;have:=(af.lt k' aj).1;simp;omega
      .intro k' aj;have:=(af.lt k' aj).1;simp;omega
theorem KA(q:Int)(A u:Option Addr)(c D:Nat)(xs j:List Int)(w:World)(F:Row w A (Ai xs))(W:Row w u (Ai j))
  (z:xs.length<=9223372036854775807) (y:j.length<=9223372036854775807) :
  Calls prog 28 #[.agg #[I q,.slice A xs.length c],.slice u j.length D] w (Gu w (CW q xs j)):=by
 cases h:Cd q xs j
 .exact Xf q A u c D xs j w F W z y h
 .exact Vs q A u c D xs j w F W z y h
theorem Xe(q:Int)(A u:Option Addr)(c D:Nat)(xs j:List Int)(w:World)(F:Row w A (Ai xs))(W:Row w u (Ai j))
  (z:xs.length<=9223372036854775807) (y:j.length<=9223372036854775807) :
  Calls prog 194 #[.agg #[I q,.slice A xs.length c],.slice u j.length D] w (Gu w (CW q xs j)):=by
 cases h:Cd q xs j
 .exact YF q A u c D xs j w F W z y h
 .exact WN q A u c D xs j w F W z y h
theorem QM{P:Prop}(h:P:=by
 rintro e w2 ⟨rfl,u⟩;go_wp2;go_ret;exact DO (by rw[HF.o];exact Own.nil _ _ _) (F.o.trans (X.o.trans u))):P:=h
theorem QK{P:Prop}(h:P:=by
 rintro e T ⟨rfl,j⟩;go_wp2;go_ret;exact DO (by rw[HF.o];exact Own.nil _ _ _) (F.o.trans j)):P:=h
def Fe(w:World)(n:Int)(s:Value)(m:Int)(t:Value):World:=(w.alloc (.cells #[.int .i64 n,s] 46)).alloc (.cells #[.int .i64 m,t] 46)
theorem Fl{w T:World}{n m:Int}{s t:Value}(h:V (Fe w n s m t) T) :
  T.cell? (Z w.heap.size 0)=some (I n)/\T.cell? (Z w.heap.size 1)=some s/\
  T.cell? (Z (w.heap.size+1) 0)=some (I m)/\T.cell? (Z (w.heap.size+1) 1)=some t:=by
 refine⟨?_,?_,?_,?_⟩
 .rw[h.cell (p:=(Y w 0)) (by simp[Fe];omega)];simp[Fe]
 .rw[h.cell (p:=(Y w 1)) (by simp[Fe];omega)];simp[Fe]
 .rw[h.cell (p:=(Pv w 0)) (by simp[Fe])];simp[Fe]
 .rw[h.cell (p:=(Pv w 1)) (by simp[Fe])];simp[Fe]
theorem J7(w:World)(n m:Int)(s t:Value):V w (Fe w n s m t):=(V.new w _).alloc _
theorem Own.cap{w:World}{B:Nat}{e:TypeId}{A:Option Addr}{n c:Nat}{xs:List Value}(h:Own w B e (.slice A n c) xs):n<=c:=by
 obtain⟨_,h2⟩:=h;rcases h2 with ⟨j,_⟩|⟨g,cap,q,j,_,_,u,_⟩
 .cases j;exact zR _
 .injection j with _ h4 h5
  omega
theorem Xy(n m:Int)(A B:Option Addr)(c d:Nat)(xs ys:List Int)(w:World)(hx:Row w A (Ai xs))(hy:Row w B (Ai ys))
  (z:xs.length<=9223372036854775807) (hm:ys.length<=9223372036854775807) :
  Calls prog 195 #[.agg #[I n,.slice A xs.length c],.agg #[I m,.slice B ys.length d]] w (GivesI w (Ed n xs m ys)):=by
 have F:=J (J7 w n m (.slice A xs.length c) (.slice B ys.length d));have G:=J (hx.ext F.o);have R:=J (hy.ext F.o);clear hx hy;by_cases hv:AK n xs=true
 .have D:=J hv;clear hv;by_cases aa:AK m ys=true
  .have q:=J aa;clear aa;have HF:=J (N7 D.o q.o);have ar:xs.length<=16:=(Dk D.o).2;have au:ys.length<=16:=(Dk q.o).2;have av:=FI xs ys false;have aw:=FI ys xs false;go_enter func195,ntmps195;go_wp2_with fail;refine(FG _ _ _ _ _ G.o z D.o).mono ?_;rintro e T ⟨rfl,j⟩;have X:=J j;have ag:=G.o.e j;have y:=R.o.e j;clear j;obtain⟨q0,q1,q2,q3⟩:=Fl X.o;go_wp2_with fail;refine(FG _ _ _ _ _ y.o hm q.o).mono ?_;rintro e w2 ⟨rfl,u⟩;have H2:=X.o.t u;have Q:=ag.o.e u;have W:=y.o.e u;clear u q0 q1 q2 q3 ag y X;obtain⟨q0,q1,q2,q3⟩:=Fl H2.o;go_wp2_with fail;refine(I4 _ _ _ _ _ _ _ _ _ _ _ _ _ _ Q.o W.o Q.o W.o z hm U hm D.o (OP (Ei q.o))).mono ?_;rintro e w3 ⟨A3,c3,am,ao,rfl,ay,ac,ab⟩;have H3:=H2.o.t ab;have ad:=Q.o.e ab;have ae:=W.o.e ab;clear ab q0 q1 q2 q3 Q W H2;obtain⟨q0,q1,q2,q3⟩:=Fl H3.o;go_wp2_with fail;refine(I4 _ _ _ _ _ _ _ _ _ _ _ _ _ _ ad.o ae.o ae.o ad.o z hm U z D.o (OP (Ei q.o))).mono ?_;rintro e w4 ⟨A4,c4,an,ap,rfl,az,ah,af⟩;have H4:=H3.o.t af;have ai:=J (ac.ext af).row;have aj:=ac.cap;clear af q0 q1 q2 q3 ad ae H3;obtain⟨q0,q1,q2,q3⟩:=Fl H4.o;go_wp2_with fail;refine(NH _ _ _ _ _ _ _ ai.o ah.row aj U U).mono ?_;rintro e w5 ⟨A5,c5,rfl,aq,ax,ak,al⟩;go_wp2;go_ret;exact(DO (by rw[HF.o];exact ak) al).from (F.o.trans H4.o)
  .have K:AK m ys=false:=by simpa using aa
   have q:=J K;clear aa K;have HF:=J (On (n:=n) (xs:=xs) q.o);go_enter func195,ntmps195;go_wp2_with fail;refine(FG _ _ _ _ _ G.o z D.o).mono ?_;rintro e T ⟨rfl,j⟩;have X:=J j;have y:=R.o.e j;clear j;obtain⟨q0,q1,q2,q3⟩:=Fl X.o;go_wp2_with fail;refine(It _ _ _ _ _ y.o hm q.o).mono ?_;exact QM
 .have K:AK n xs=false:=by simpa using hv
  have D:=J K;clear hv K;have HF:=J (NY (m:=m) (ys:=ys) D.o);go_enter func195,ntmps195;go_wp2_with fail;refine(It _ _ _ _ _ G.o z D.o).mono ?_;exact QK
theorem NK(n m:Int)(A B:Option Addr)(c d:Nat)(xs ys:List Int)(w:World)(hx:Row w A (Ai xs))(hy:Row w B (Ai ys))
  (z:xs.length<=9223372036854775807) (hm:ys.length<=9223372036854775807) :
  Calls prog 166 #[.agg #[I n,.slice A xs.length c],.agg #[I m,.slice B ys.length d]] w (GivesI w (Ed n xs m ys)):=by
 have F:=J (J7 w n m (.slice A xs.length c) (.slice B ys.length d));have G:=J (hx.ext F.o);have R:=J (hy.ext F.o);clear hx hy;by_cases hv:AK n xs=true
 .have D:=J hv;clear hv;by_cases aa:AK m ys=true
  .have q:=J aa;clear aa;have HF:=J (N7 D.o q.o);have HL:=J (OA (m:=xs) (b:=false) (I0 (Ei q.o)));have az:xs.length<=16:=(Dk D.o).2;have a9:ys.length<=16:=(Dk q.o).2;have ba:=FI xs ys false;have bb:=FI ys xs false;go_enter func166,ntmps166;go_wp2_with fail;refine(EY _ _ _ _ _ G.o z D.o).mono ?_;rintro e T ⟨rfl,j⟩;have X:=J j;have ah:=G.o.e j;have y:=R.o.e j;clear j;obtain⟨q0,q1,q2,q3⟩:=Fl X.o;go_wp2_with fail;refine(EY _ _ _ _ _ y.o hm q.o).mono ?_;rintro e w2 ⟨rfl,u⟩;have H2:=X.o.t u;have ad:=ah.o.e u;have ae:=y.o.e u;clear u q0 q1 q2 q3 ah y X;obtain⟨q0,q1,q2,q3⟩:=Fl H2.o;go_wp2_with fail;refine(GW _ _ _ _ _ _ _ _ ad.o ae.o U hm).mono ?_;rintro e w3 ⟨A3,c3,rfl,aw,bc,al,ab⟩;have H3:=H2.o.t ab;have ai:=ad.o.e ab;have ak:=ae.o.e ab;clear q0 q1 q2 q3 ad ae;obtain⟨q0,q1,q2,q3⟩:=Fl H3.o;go_wp2_with fail;refine(GW _ _ _ _ _ _ _ _ ak.o ai.o U z).mono ?_;rintro e w4 ⟨A4,c4,rfl,ax,bd,am,af⟩;have H4:=F.o.t (H3.o.trans af);have HS:=J (Own.base (B':=w.heap.size) (al.ext af) (by have:=(F.o.trans H2.o).size;omega));have HJ:=J am.row;clear ab af q0 q1 q2 q3 ai ak H3 H2 al am;go_wp2;go_loopw [5,7] (λv i wr=>∃(k:Nat) (A5:Option Addr) (c5:Nat),k<=(Bg ys xs false).length/\v=.slice A5 (DC (Bg xs ys false) (Bg ys xs false) k).length c5/\i=I k/\Own wr w.heap.size 3 (.slice A5 (DC (Bg xs ys false) (Bg ys xs false) k).length c5) (Ai (DC (Bg xs ys false) (Bg ys xs false) k))/\V w4 wr) (λ_ i _=>(Bg ys xs false).length - (intOf i).toNat)
   case atStart=>exact⟨0,A3,c3,zO _,rfl,rfl,HS.o,Below.refl _ _⟩
   case round=>
    obtain⟨k,A5,c5,hk,rfl,rfl,an,ag⟩:=hrel;have aq:=MT (s:=Bg xs ys false) k hk;have av:(DC (Bg xs ys false) (Bg ys xs false) k).length<=100:=U;clear aq;have H5:=H4.o.t ag;have ap:=HJ.o.e ag;by_cases Q:k<(Bg ys xs false).length
    .obtain⟨bk,ac,x,hA,W,aj⟩:=ap.o.at_ Q;subst hA;go_wp2_with (first
      | (go_at_call 98;refine(MI _ _ _ _ _ an.row U).mono ?_;rintro e w6 ⟨A6,c6,rfl,ay,be,ar,au⟩))
     go_roundw
     case rel=>exact⟨k+1,A6,c6,U,by rw[Hu aj.o],by go_num,by rw[Hu aj.o];exact ar.base H5.o.size,ag.trans au⟩
     case measure=>simp[intOf];omega
    .have ao:=J (MQ (s:=Bg xs ys false) Q HL.o);go_wp2;go_ret;exact DO (by rw[HF.o,<-ao.o];exact an) H5.o
  .have K:AK m ys=false:=by simpa using aa
   have q:=J K;clear aa K;have HF:=J (On (n:=n) (xs:=xs) q.o);go_enter func166,ntmps166;go_wp2_with fail;refine(EY _ _ _ _ _ G.o z D.o).mono ?_;rintro e T ⟨rfl,j⟩;have X:=J j;have y:=R.o.e j;clear j;obtain⟨q0,q1,q2,q3⟩:=Fl X.o;go_wp2_with fail;refine(Ie _ _ _ _ _ y.o hm q.o).mono ?_;exact QM
 .have K:AK n xs=false:=by simpa using hv
  have D:=J K;clear hv K;have HF:=J (NY (m:=m) (ys:=ys) D.o);go_enter func166,ntmps166;go_wp2_with fail;refine(Ie _ _ _ _ _ G.o z D.o).mono ?_;exact QK
theorem Kv(n m:Int)(A B:Option Addr)(c d:Nat)(xs ys:List Int)(w:World)(j:Row w A (Ai xs))(hy:Row w B (Ai ys))(z:xs.length<=9223372036854775807) :
  Calls prog 82 #[.agg #[I n,.slice A xs.length c],.agg #[I m,.slice B ys.length d]] w λe w'=>e=.returned (.bool (EM n xs m ys))/\V w w':=by
 have F:=J (J7 w n m (.slice A xs.length c) (.slice B ys.length d));have G:=J (j.ext F.o);have R:=J (hy.ext F.o);clear j hy;by_cases h:n=m
 .have HF:O (EM n xs m ys=EK xs ys):=by simp[O,EM,h]
  have q:(n == m)=true:=by simpa using h
  clear h;go_enter func82,ntmps82;go_wp2_with fail;refine(Th _ _ _ _ _ _ _ G.o R.o z).mono ?_;rintro e T ⟨rfl,u⟩;go_wp2;go_ret;exact⟨AC HF.o.symm,F.o.trans u.ext⟩
 .have HF:O (EM n xs m ys=false):=by simp[O,EM,h]
  have q:(n == m)=false:=by simpa using h
  clear h;go_enter func82,ntmps82;go_wp2;go_ret;exact⟨AC HF.o.symm,F.o⟩
def BL(xs:List Int):List UInt8:=xs.flatMap λx=>AB (zig x)
theorem KO{xs:List Int}{k:Nat}{x:Int}(h:xs[k]?=some x):BL (xs.take (k+1))=BL (xs.take k)++AB (zig x):=by
 unfold BL;rw[Cz h];simp
theorem OO{xs:List Int}{k:Nat}(h:¬k<xs.length):BL (xs.take k)=BL xs:=by rw[List.take_of_length_le U]
theorem Jt{xs:List Int}(h:∀x∈xs,I64 x)(k:Nat):(BL (xs.take k)).length<=11*k:=by
 induction k with
 | zero=>simp[BL]
 | succ k j=>
  cases hx:xs[k]? with
  | none=>
   have:xs.take (k+1)=xs.take k:=by rw[List.take_add_one,hx];simp
   rw[this];omega
  | some x=>
   rw[KO hx,zA];have:=BW (Hi (h x (zX hx)));omega
theorem Gl{n:Nat}(h:n<=1000000):n<U64:=by unfold U64;omega
theorem Ss(A A':Option Addr)(c c':Nat)(bs:List UInt8)(xs:List Int)(w:World)(h:Row w A (Aj bs))(h':Row w A' (Ai xs))(hl:bs.length<=1000000)(z:xs.length<=1000000)(hb:∀x∈xs,I64 x) :
  Calls prog 193 #[.slice A bs.length c,.slice A' xs.length c'] w (GivesB w (bs++AB xs.length++BL xs)):=by
 have H:=J h;have D:=J h';have HB:=J hb;clear h h' hb;go_enter func193,ntmps193;go_wp2_with fail;rw[show (10:Int)+2*(xs.length:Int)=((10+2*xs.length:Nat):Int) by omega];refine(GR A c bs (10+2*xs.length) w H.o U U).mono ?_;rintro e T ⟨A1,c1,rfl,af,ai,R,j⟩;have ae:IntKind.u64.wrap (xs.length:Int)=(xs.length:Int):=DA (Gl z);go_wp2_with fail;refine(Ic w.heap.size _ bs xs.length T R j.size U (Gl z)).mono ?_;rintro e w2 ⟨v2,rfl,aa,X,K⟩;have u:=J (X.below j j.size (λk hk=>(R.lt k hk).1));have ah:=BW (Gl z);clear ae;go_wp2;go_loopw [5,7,20] (λv _ i wr=>∃k:Nat,k<=xs.length/\i=I k/\Own wr w.heap.size 5 v (Aj (bs++AB xs.length++BL (xs.take k)))/\V w wr) (λ_ _ i _=>xs.length - (intOf i).toNat)
 case atStart=>exact⟨0,zO _,rfl,by simpa[BL] using aa,u.o⟩
 case round=>
  obtain⟨k,hk,rfl,F,y⟩:=hrel;have ag:=Jt HB.o k;by_cases Q:k<xs.length
  .obtain⟨b,ac,x,hA,W,G⟩:=(D.o.ext y).at_ Q;subst hA;have q:(bs++AB xs.length++BL (xs.take k)).length<=1000000000:=by simp only[zA];omega
   go_wp2_with fail;refine(Nv w.heap.size _ _ x wr F y.size q (HB.o x (zX G.o))).mono ?_;rintro e w3 ⟨v3,rfl,ad,ab,aj⟩;go_wp2;go_roundw
   case rel=>exact⟨k+1,U,by go_num,by rw[KO G.o,<-List.append_assoc];exact ad,ab.below y y.size (λk hk=>(F.lt k hk).1)⟩
   case measure=>simp[intOf];omega
  .go_wp2;go_ret;exact El (by rw[OO Q] at F;exact F) y
theorem Tn(A':Option Addr)(c':Nat)(xs:List Int)(w:World)(h':Row w A' (Ai xs))(z:xs.length<=1000000)(hb:∀x∈xs,I64 x) :
  Calls prog 164 #[.slice A' xs.length c'] w (GivesB w (AB xs.length++BL xs)):=by
 have D:=J h';have HB:=J hb;clear h' hb;have ab:IntKind.u64.wrap (xs.length:Int)=(xs.length:Int):=DA (Gl z);go_enter func164,ntmps164;go_wp2_with fail;refine(D6 xs.length w (Gl z)).mono ?_;rintro e w2 ⟨A2,c2,rfl,ad,ah,aa,u⟩;have ag:=BW (Gl z);clear ab;go_wp2;go_loopw [3,4] (λv i wr=>∃k:Nat,k<=xs.length/\i=I k/\Own wr w.heap.size 5 v (Aj (AB xs.length++BL (xs.take k)))/\V w wr) (λ_ i _=>xs.length - (intOf i).toNat)
 case atStart=>exact⟨0,zO _,rfl,by simpa[BL] using aa,u⟩
 case round=>
  obtain⟨k,hk,rfl,F,hx⟩:=hrel;have af:=Jt HB.o k;by_cases Q:k<xs.length
  .obtain⟨b,ac,x,hA,W,G⟩:=(D.o.ext hx).at_ Q;subst hA;have hi:=J (HB.o x (zX G.o));have ak:=BW (Hi hi.o);have q:(Aj (AB xs.length++BL (xs.take k))).length+(AB (zig x)).length<2000000000:=by rw[Bo];simp only[zA];omega
   go_wp2_with fail;refine(OL x wr hi).mono ?_;rintro e w3 ⟨A3,c3,rfl,ae,ai,R,y⟩;have j:=J (V.trans hx y);have T:=J (F.ext y);go_wp2_with (first
    | (at_builtin;refine Fp rfl (.tmp 15) (.tmp 20) _ 5 _ 1 rfl Tryz.underlying29 D8 rfl zd w3 w.heap.size _ (Aj (AB xs.length++BL (xs.take k))) zi _ _ _ (Aj (AB (zig x))) zi (by rw[Bo]) R.row (FN _) T.o q j.o.size ?_;intro v5 w5 X K aj))
   go_roundw
   case rel=>exact⟨k+1,U,by go_num,by rw[KO G.o,<-List.append_assoc,Ew];exact X,K.below j.o j.o.size (λk hk=>(F.lt k hk).1)⟩
   case measure=>simp[intOf];omega
  .go_wp2;go_ret;exact El (by rw[OO Q] at F;exact F) hx
def DH(num:Int)(xs:List Int):List UInt8:=if AK num xs then AB num.toNat++AB xs.length++BL xs else []
theorem KZ{j:Int}{xs:List Int}(h:AK j xs=true):DH j xs=AB j.toNat++AB xs.length++BL xs:=if_pos h
theorem PY{j:Int}{xs:List Int}(h:AK j xs=false):DH j xs=[]:=if_neg (by simp[h])
theorem KJ{j:Int}{xs:List Int}(h:AK j xs=true):∀x∈xs,I64 x:=by
 intro x q;have:=((DM (m:=16)).1 (Ei h)).2.2.2 x q;unfold I64;omega
end Go.Proofs.YtponbabbabnaeaaGreat
