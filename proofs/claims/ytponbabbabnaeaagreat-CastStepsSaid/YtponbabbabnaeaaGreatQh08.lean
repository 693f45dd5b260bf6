/- Part 8: contracts of functions. Conditions: as each theorem says. -/
import Derived.Lib.AppendZerosOnto
import Derived.Test.YtponbabbabnaeaaGreatQh07
import Derived.Test.YtponbabbabnaeaaGreatQh06
set_option maxRecDepth 100000
set_option maxHeartbeats 40000000
set_option linter.unusedVariables false
namespace Go.Proofs.YtponbabbabnaeaaGreat
open Tryz
open Go.RowKit
theorem Hf{P:Prop}(h:P:=by
 go_wp2;(try simp only[Exit.inBlock,Exit.then]);refine bodyPost_ret (GL rfl _ _ _) rfl ?_
 exact Jr _ y.o (V.refl _)):P:=h
def IN(r:List UInt8×Nat×Int):Ending:=.returned (.tuple #[.string (Ah r.1),.int .i64 (r.2.1:Int),.int .i64 r.2.2])
theorem UE(A:Option Addr)(c:Nat)(bs:List UInt8)(m:Nat)(w:World)(h:Row w A (Aj bs))(R:bs.length<=c)(G:bs.length<=1000000000)(K:m<=1000000000) :
  Calls prog 184 #[.slice A bs.length c,I (m:Int)] w λe w'=>e=IN (BT bs m)/\w=w':=by
 have H:=J h;clear h;have q:=Gr bs m;obtain⟨⟨j,n,D⟩,z⟩:∃r,A0 bs m=r:=⟨_,rfl⟩;have u:=J z;rw[z] at q;clear z;have hz:D=0->j<=m/\n<=bs.length:=λ_=>q;by_cases F:D=0
 .subst F;simp only at q;obtain⟨h1,h2⟩:=q;by_cases Q:bs.length - n<j
  .have y:O (BT bs m=([],0,2)):=J (by unfold BT;rw[u.o];simp only[ne_eq,not_true_eq_false,if_false];rw[if_pos Q]);have z:decide ((bs.length:Int) - (n:Int)<(j:Int))=true:=zm;go_enter func184,ntmps184;go_wp2_with fail;refine(GU A c bs m w H.o G K).mono ?_;rintro e w' ⟨rfl,rfl⟩;rw[u.o];unfold Ck;go_wp2;go_ret3
   refine⟨?_,rfl⟩;rw[y.o];rfl
  .have y:O (BT bs m=((bs.drop n).take j,n+j,0)):=J (by unfold BT;rw[u.o];simp only[ne_eq,not_true_eq_false,if_false];rw[if_neg Q]);have z:decide ((bs.length:Int) - (n:Int)<(j:Int))=false:=zm;have X:∀W,(Instr.slice 29 (.slice A bs.length c) (some (I (n:Int))) (some (I ((n:Int)+(j:Int)))) none).run prog W=.ok (.slice (AO A n c 1) j (c - n)) W:=λW=>by
    have:=CG.slice_lh A bs.length c n (n+j) (n:Int) ((n:Int)+(j:Int)) rfl U U U W;rw[show n+j - n=j by omega] at this;exact this
   have T:(convert 29 9 (.slice (AO A n c 1) j (c - n))).run prog w=.ok (.string (Ah ((bs.drop n).take j))) w:=
    EZ _ _ (D3 (by have:=Elem.row_sub (DZ H.o) R n (n+j);rw[List.drop_take,show n+j - n=j by omega] at this;exact this)) (by rw[zT,zD];omega)
   go_enter func184,ntmps184;go_wp2_with fail;refine(GU A c bs m w H.o G K).mono ?_;rintro e w' ⟨rfl,rfl⟩;rw[u.o];unfold Ck;go_wp2;go_ret3
   refine⟨?_,rfl⟩;rw[y.o];rfl
 .have y:O (BT bs m=([],0,D)):=J (by unfold BT;rw[u.o];simp only[ne_eq];rw[if_pos F]);have hb:(D != 0)=true:=by simpa using F
  go_enter func184,ntmps184;go_wp2_with fail;refine(GU A c bs m w H.o G K).mono ?_;rintro e w' ⟨rfl,rfl⟩;rw[u.o];unfold Ck;go_wp2;go_ret3
  refine⟨?_,rfl⟩;rw[y.o];rfl
-- OPEN
def LP(w:World)(r:Int×List UInt8×Nat×Int)(en:Ending)(w':World):Prop:=
 ∃A c,en=.returned (.tuple #[I r.1,.slice A r.2.1.length c,I (r.2.2.1:Int),I r.2.2.2])/\r.2.1.length<=c/\c<=maxLen/\Own w' w.heap.size 5 (.slice A r.2.1.length c) (Aj r.2.1)/\V w w'
theorem Jr{w w':World}{r:Int×List UInt8×Nat×Int}(j:Int)(h:r=(0,[],0,j))(q:V w w'):LP w r (.returned (.tuple #[I 0,Zq,I 0,I j])) w':=by
 subst h;exact⟨none,0,rfl,zR _,zO _,Own.nil _ _ _,q⟩
theorem zW{w:World}:V w w.drew:=(V.refl w).drew
theorem GL{q:Func}{t u v x:Tmp}(h:q.results=#[.tmp t,.tmp u,.tmp v,.tmp x])(j:Array Value)(P:Program)(w:World) :
  (results q j).run P w=.ok (.tuple #[j.getD t undef,j.getD u undef,j.getD v undef,j.getD x undef]) w:=by
 simp[results,h]
theorem Kc(A:Option Addr)(c k:Nat)(bs:List UInt8)(m:Nat)(w:World)(h:Row w A (Aj bs))(q:bs.length<=1000000000)(u:m<=1000000000)(j:k=bs.length) :
  Calls prog 181 #[.slice A k c,I (m:Int)] w λe w'=>e=Ck (((A0 bs m).1:Int),(A0 bs m).2.1,(A0 bs m).2.2)/\w=w':=by subst j;exact GU A c bs m w h q u
theorem Sx(A:Option Addr)(c k:Nat)(bs:List UInt8)(w:World)(h:Row w A (Aj bs))(q:bs.length<=1000000000)(j:k=bs.length) :
  Calls prog 175 #[.slice A k c] w λe w'=>e=.returned (.int .u32 (Ch bs:Int))/\w=w':=by subst j;exact Mx A c bs w h q
theorem UZ(A:Option Addr)(c k:Nat)(bs:List UInt8)(n:Nat)(w:World)(h:Row w A (Aj bs))(q:bs.length<=1000000000)(u:n<=1000000000)(j:k=bs.length) :
  Calls prog 122 #[.slice A k c,I (n:Int)] w (GivesB w bs):=by subst j;exact GR A c bs n w h q u
theorem He{x:UInt8}{n:Nat}(h:x≠UInt8.ofNat n):((x.toNat:Int) != (n:Int))=true:=by
 simp only[bne_iff_ne,ne_eq];intro e;apply h;have:x.toNat=n:=U;rw[<-this];simp
theorem Gd(A:Option Addr)(c:Nat)(bs:List UInt8)(w:World)(h:Row w A (Aj bs))(hc:bs.length<=c)(hl:bs.length<=1000000) :
  Calls prog 137 #[.slice A bs.length c] w (LP w (Bj bs)):=by
 have H:=J h;clear h;by_cases h3:bs.length<3
 .have y:O (Bj bs=(0,[],0,2)):=J (by unfold Bj;rw[if_pos h3]);go_enter func137,ntmps137;exact Hf
 .obtain⟨b,q,x0,rfl,k0,ab⟩:=H.o.byte (k:=0) U;obtain⟨b',be,x1,ap,k1,ac⟩:=H.o.byte (k:=1) U;obtain⟨b2,bf,x2,aq,k2,T⟩:=H.o.byte (k:=2) U;cases ap;cases aq;rw[Nat.add_zero] at k0;by_cases g:x0≠65\/x1≠71\/x2=0
  .have y:O (Bj bs=(0,[],0,3)):=J (by
    unfold Bj;rw[if_neg h3,if_pos];rw[ab.o,ac.o,T.o];simpa using g)
   by_cases g0:x0=65
   .subst g0;have ay:w.cell? (Z b q)=some (.int .u8 65):=k0;by_cases g1:x1=71
    .subst g1;have az:w.cell? (Z b (q+1))=some (.int .u8 71):=k1;have g2:x2=0:=by simpa using g
     subst g2;have bp:w.cell? (Z b (q+2))=some (.int .u8 0):=k2;clear k0 k1 k2 g;go_enter func137,ntmps137;exact Hf
    .have hb:((x1.toNat:Int) != 71)=true:=He (n:=71) g1;clear k0 k2 g;go_enter func137,ntmps137;exact Hf
   .have hb:((x0.toNat:Int) != 65)=true:=He (n:=65) g0;clear k1 k2 g;go_enter func137,ntmps137;exact Hf
  .simp only[ne_eq,not_or,Classical.not_not] at g;obtain⟨g0,g1,g2⟩:=g;subst g0 g1;have ay:w.cell? (Z b q)=some (.int .u8 65):=k0;have az:w.cell? (Z b (q+1))=some (.int .u8 71):=k1;have bk:((x2.toNat:Int) == 0)=false:=by
    have:=He (n:=0) g2;simpa using this
   clear k0 k1;have bc:∀W,(Instr.slice 29 (.slice (some (Z b q)) bs.length c) (some (I 3)) none none).run prog W=.ok (.slice (AO (some (Z b q)) 3 c 1) (bs.length - 3) (c - 3)) W:=λW=>CG.slice_l (some (Z b q)) bs.length c 3 3 rfl U W;have aa:O (Row w (AO (some (Z b q)) 3 c 1) (Aj (bs.drop 3))):=J (D3 (Elem.row_from (DZ H.o) hc 3));have u:(bs.drop 3).length=bs.length - 3:=zD;have ad:=Gr (bs.drop 3) 16777216;have ae:O (∀d,A0 (bs.drop 3) 16777216=d->Bj bs=if d.2.2≠0 then (0,[],0,d.2.2) else if bs.length - (3+d.2.1)<d.1+4 then (0,[],0,2) else if le4 (Ch (bs.take (3+d.2.1+d.1)))≠(bs.drop (3+d.2.1+d.1)).take 4 then (0,[],0,4) else ((x2.toNat:Int),(bs.take (3+d.2.1+d.1)).drop (3+d.2.1),3+d.2.1+d.1+4,0)):=J (by
    intro d hd;subst hd;unfold Bj;rw[if_neg h3,if_neg (by rw[ab.o,ac.o,T.o];simpa using g2),T.o];rfl)
   obtain⟨⟨j,n,er⟩,hd⟩:∃r,A0 (bs.drop 3) 16777216=r:=⟨_,rfl⟩;have HD:=J hd;have R:=J (ae.o _ hd);rw[hd,u] at ad;clear hd ae g2 ab ac;simp only at ad;obtain⟨bl,bm⟩:=ad;by_cases he:er=0
   .subst he;have D:O (Bj bs=if bs.length - (3+n)<j+4 then (0,[],0,2) else if le4 (Ch (bs.take (3+n+j)))≠(bs.drop (3+n+j)).take 4 then (0,[],0,4) else ((x2.toNat:Int),(bs.take (3+n+j)).drop (3+n),3+n+j+4,0)):=J (by rw[R.o];simp only[ne_eq,not_true_eq_false,if_false]);clear R;by_cases hs:bs.length - (3+n)<j+4
    .have y:O (Bj bs=(0,[],0,2)):=J (by rw[D.o,if_pos hs]);have aw:decide ((bs.length:Int) - (3+(n:Int))<(j:Int)+4)=true:=zm;clear D;go_enter func137,ntmps137;go_wp2_with fail;refine(Kc _ _ _ (bs.drop 3) 16777216 w aa.o U U u.symm).mono ?_;rintro e w' ⟨rfl,rfl⟩;rw[HD.o];unfold Ck;exact Hf
    .have aw:decide ((bs.length:Int) - (3+(n:Int))<(j:Int)+4)=false:=zm;have ba:∀W,(Instr.slice 29 (.slice (some (Z b q)) bs.length c) none (some (I (3+(n:Int)+(j:Int)))) none).run prog W=.ok (.slice (some (Z b q)) (3+n+j) c) W:=λW=>CG.slice_h (some (Z b q)) bs.length c (3+n+j) _ U U W;have bb:∀W,(Instr.slice 29 (.slice (some (Z b q)) bs.length c) (some (I (3+(n:Int)+(j:Int)))) (some (I (3+(n:Int)+(j:Int)+4))) none).run prog W=.ok (.slice (AO (some (Z b q)) (3+n+j) c 1) 4 (c - (3+n+j))) W:=λW=>by
      have:=CG.slice_lh (some (Z b q)) bs.length c (3+n+j) (3+n+j+4) (3+(n:Int)+(j:Int)) (3+(n:Int)+(j:Int)+4) U U U U W;rw[show 3+n+j+4 - (3+n+j)=4 by omega] at this;exact this
     have af:∀W,Row W (some (Z b q)) (Aj bs)->(convert 29 9 (.slice (AO (some (Z b q)) (3+n+j) c 1) 4 (c - (3+n+j)))).run prog W=.ok (.string (Ah ((bs.drop (3+n+j)).take 4))) W:=λW hW=>
      EZ _ _ (D3 (by have:=Elem.row_sub (DZ hW) hc (3+n+j) (3+n+j+4);rw[List.drop_take,show 3+n+j+4 - (3+n+j)=4 by omega] at this;exact this)) (by rw[zT,zD];omega)
     have bn:IntKind.i64.wrap (3+(n:Int)+(j:Int)+4)=3+(n:Int)+(j:Int)+4:=IntWalk.i64_in _ U;have ax:∀W,Row W (some (Z b q)) (Aj bs)->W.cell? (Z b (q+2))=some (.int .u8 (x2.toNat:Int)):=λW hW=>by
      obtain⟨b3,bg,x3,ar,k3,am⟩:=hW.byte (k:=2) U;cases ar;have:=am.o.symm.trans T.o;cases this;exact k3
     have av:O (Row w (AO (some (Z b q)) (3+n) c 1) (Aj ((bs.take (3+n+j)).drop (3+n)))):=J (D3 (Elem.row_sub (DZ H.o) hc (3+n) (3+n+j)));have bd:∀W,(Instr.slice 29 (.slice (some (Z b q)) bs.length c) (some (I (3+(n:Int)))) (some (I (3+(n:Int)+(j:Int)))) none).run prog W=.ok (.slice (AO (some (Z b q)) (3+n) c 1) j (c - (3+n))) W:=λW=>by
      have:=CG.slice_lh (some (Z b q)) bs.length c (3+n) (3+n+j) (3+(n:Int)) (3+(n:Int)+(j:Int)) U U U U W;rw[show 3+n+j - (3+n)=j by omega] at this;exact this
     have au:O (Row w.drew (some (Z b q)) (Aj (bs.take (3+n+j)))):=J ((D3 (Elem.row_upto (DZ H.o) _)).ext zW);go_enter func137,ntmps137;go_wp2_with fail;refine(Kc _ _ _ (bs.drop 3) 16777216 w aa.o U U u.symm).mono ?_;rintro e w' ⟨rfl,rfl⟩;rw[HD.o];unfold Ck;go_wp2;refine eC 13 (λw'=>Row w' (some (Z b q)) (Aj bs)) (H.o.ext zW) (λQ=>?_);refine eb 0 ?_;refine ea 2 ?_;refine ec 6 ?_;refine ea 10 ?_;refine E_take 11 (oi:=⟨some 64,_,_,_,_,_⟩) (v:=?_) rfl zh (λ_ _ _ h=>h) (Or.inl ⟨zi,?_⟩) zp ?_;rotate_left
     ·(intro w9 hSw;(try dsimp only at hSw);have X:=af w9 hSw;go_simp<;>with_reducible rfl)
     try simp only[Act.put,Au,Aw,Ay]
     refine eB 3 λK z=>?_;go_simp;go_at_call 175;refine(Sx (some (Z b q)) c (3+n+j) (bs.take (3+n+j)) _ au.o (by rw[zT];omega) (by rw[zT];omega)).mono ?_;rintro e1 w1 ⟨rfl,rfl⟩;clear Q;refine z.out _ _ (H.o.ext zW) (λQ=>?_);clear z K;try simp only[Act.put,Au,Aw,Ay]
     refine eB 4 λK z=>?_;go_simp;go_at_call 174;refine(Ou w.heap.size _ [] (Ch (bs.take (3+n+j))) _ (Own.nil _ _ _) zj zj).mono ?_;rintro e2 w2 ⟨v2,rfl,ah,ag⟩;have X2:O (V w w2):=J (ag.below zW (zR _) (λk hk=>by simp[Value.ownBlock] at hk));obtain⟨A2,c2,rfl,bh,bi,al⟩:∃A c',v2=.slice A 4 c'/\4<=c'/\c'<=maxLen/\O (Row w2 A (Aj (le4 (Ch (bs.take (3+n+j)))))):=(by obtain⟨A,c',h1,h2,h3,h4⟩:=ah.slice;exact⟨A,c',h1,h2,h3,J h4⟩);have a9:=EZ c2 4 al.o rfl;clear ah ag;clear Q;refine z.out _ _ (H.o.ext X2.o) (λQ=>?_);clear z K;try simp only[Act.put,Au,Aw,Ay]
     refine eB 5 λK z=>?_;go_simp;clear Q;refine z.out _ _ (H.o.ext X2.o) (λQ=>?_);clear z K;try simp only[Act.put,Au,Aw,Ay]
     refine eB 12 λK z=>?_;go_simp;clear Q;refine z.out _ _ (H.o.ext X2.o) (λQ=>?_);clear z K;try simp only[Act.put,Au,Aw,Ay]
     refine eA ?_;simp only[Exit.then]
     go_at_K
     by_cases F:le4 (Ch (bs.take (3+n+j)))=(bs.drop (3+n+j)).take 4
     .have X:Ah (le4 (Ch (bs.take (3+n+j))))=Ah ((bs.drop (3+n+j)).take 4):=by rw[F]
      have G:(!((Ah (le4 (Ch (bs.take (3+n+j))))).toList == (Ah ((bs.drop (3+n+j)).take 4)).toList))=false:=by rw[E8,E8];rw[Hd] at X;simpa using X
      clear X;rw[G];clear G;have y:O (Bj bs=((x2.toNat:Int),(bs.take (3+n+j)).drop (3+n),3+n+j+4,0)):=J (by rw[D.o,if_neg hs,if_neg (by simpa using F)]);clear D F;have bj:(2:Int)<(bs.length:Int):=U;have bo:IntKind.i64.wrap (x2.toNat:Int)=(x2.toNat:Int):=IntWalk.i64_in _ (by have:=x2.toNat_lt;omega);go_wp2;refine eC 15 (λw'=>Row w' (some (Z b q)) (Aj bs)) (H.o.ext (X2.o.trans zW)) (λQ=>?_);refine eb 0 ?_;refine E_take 2 (oi:=⟨some 68,_,_,_,_,_⟩) (v:=?_) rfl zh (λ_ _ _ h=>h) (Or.inl ⟨zi,?_⟩) zp ?_;rotate_left
      ·(intro w9 hSw;(try dsimp only at hSw);have X:=ax w9 hSw;go_simp<;>with_reducible rfl)
      try simp only[Act.put,Au,Aw,Ay]
      refine ec 3 ?_;refine ea 7 ?_;refine eb 9 ?_;refine eB 8 λK z=>?_;go_simp;go_at_call 122;refine(UZ _ _ _ ((bs.take (3+n+j)).drop (3+n)) 0 _ (av.o.ext (X2.o.trans zW)) (by rw[zD,zT];omega) U (by rw[zD,zT];omega)).mono ?_;rintro e4 w4 ⟨A4,c4,rfl,an,ao,ai,aj⟩;have X4:O (V w w4):=J ((X2.o.trans zW).trans aj);have ak:=J (ai.base (B':=w.heap.size) X2.o.size);clear ai aj;clear Q;refine z.out _ _ (H.o.ext X4.o) (λQ=>?_);clear z K;try simp only[Act.put,Au,Aw,Ay]
      refine ec 11 ?_;refine eA ?_;simp only[Exit.then]
      go_at_K
      go_wp2;(try simp only[Exit.inBlock,Exit.then]);refine bodyPost_ret (GL rfl _ _ _) rfl ?_
      rw[y.o];exact⟨A4,c4,zj,an,ao,ak.o,X4.o⟩
     .have X:¬Ah (le4 (Ch (bs.take (3+n+j))))=Ah ((bs.drop (3+n+j)).take 4):=by rw[Hd];exact F
      have G:(!((Ah (le4 (Ch (bs.take (3+n+j))))).toList == (Ah ((bs.drop (3+n+j)).take 4)).toList))=true:=by rw[E8,E8];rw[Hd] at X;simpa using X
      clear X;rw[G];clear G;have y:O (Bj bs=(0,[],0,4)):=J (by rw[D.o,if_neg hs,if_pos F]);clear D F;go_wp2;(try simp only[Exit.inBlock,Exit.then]);refine bodyPost_ret (GL rfl _ _ _) rfl ?_
      exact Jr _ y.o X2.o
   .have y:O (Bj bs=(0,[],0,er)):=J (by rw[R.o,if_pos he]);have hb:(er != 0)=true:=by simpa using he
    clear R;go_enter func137,ntmps137;go_wp2_with fail;refine(Kc _ _ _ (bs.drop 3) 16777216 w aa.o U U u.symm).mono ?_;rintro e w' ⟨rfl,rfl⟩;rw[HD.o];unfold Ck;exact Hf
theorem SH{P:Program}{q:Array Oper}{rest:List Oper}{o:Oper}{a:Act}{Q:Exit->Act->World->Prop}(w:World)(y:o.guard=none)(s x:Operand)(t u:TypeId)
  (G:o.op=.call {callee:=.builtin .append,args:=#[s,x],argTypes:=#[t,u]}) (z D v:Value) (w':World) (R:a.eval s=z) (T:a.eval x=D) (j:(Builtin.append_ #[t,u] o.type #[z,D]).run P w=.ok v w')
  (h:wpList P q Q rest (a.put o.dst v) w'):wpList P q Q (o::rest) a w:=by
 refine wpList_plain y λK F=>?_;unfold Oper.wp execOp;simp only[G,resolve,invoke,builtin,Sem.run_bind,Sem.run_pure,Result.andThen_ok,List.map_toArray,List.map_cons,List.map_nil,R,T,j];exact F _ _ h
theorem Fv(n:Int):((uN n:Nat):Int)=IntKind.u64.wrap n:=by rw[IntKind.wrap_u64];unfold uN;omega
theorem Ff(n:Int):uN n<U64:=by unfold uN U64;omega
theorem U0{xs:List Int}{k:Nat}{x:Int}(h:xs[k]?=some x):AF (xs.take (k+1))=AF (xs.take k)++AB (uN x):=by
 unfold AF;rw[List.take_add_one,h];simp
theorem DN(xs:List Int):(AF xs).length<=11*xs.length:=by
 induction xs with
 | nil=>simp[AF]
 | cons x l h=>
  have:=BW (Ff x);unfold AF at *;simp only[List.flatMap_cons,zA,zK];omega
theorem Gb(A:Option Addr)(c:Nat)(xs:List Int)(w:World)(h:Row w A (Ai xs))(hn:xs.length<=1000) :
  Calls prog 48 #[.slice A xs.length c] w (GivesB w (AF xs)):=by
 have H:=J h;clear h;go_enter func48,ntmps48;go_wp2;go_loopw [3,8] (λv i wr=>∃(k:Nat) (q:Option Addr) (j:Nat),k<=xs.length/\i=I k/\v=.slice q (AF (xs.take k)).length j/\(AF (xs.take k)).length<=j/\j<=maxLen/\O (Own wr w.heap.size 5 (.slice q (AF (xs.take k)).length j) (Aj (AF (xs.take k))))/\O (V w wr)) (λ_ i _=>xs.length - (intOf i).toNat)
 case atStart=>exact⟨0,none,0,zO _,rfl,rfl,zR _,zO _,J (Own.nil _ _ _),J (V.refl _)⟩
 case round=>
  obtain⟨k,q,j,hk,rfl,rfl,X,h2,R,Q⟩:=hrel;by_cases T:k<xs.length
  .obtain⟨b,aa,x,hA,hc,HE⟩:=(H.o.ext Q.o).at_ T;subst hA;have G:=Fv x;have hl:(AF (xs.take k)).length<=1000000:=by have:=DN (xs.take k);rw[zT] at this;omega
   go_wp2_with fail;rw[<-G];refine(Mr q j (AF (xs.take k)) (uN x) wr R.o.row hl (Ff x)).mono ?_;rintro e w1 ⟨A1,c1,rfl,y,W,D,K⟩;have u:=J (D.base (B':=w.heap.size) Q.o.size);have X1:=Q.o.t K;have F:=U0 HE.o;rw[<-F] at u y|-;clear D K F G;go_wp2;go_roundw
   case rel=>exact⟨k+1,A1,c1,U,by go_num,rfl,y,W,u,X1⟩
   case measure=>simp[intOf];omega
  .have z:xs.take k=xs:=List.take_of_length_le U;rw[z] at R X;go_wp2;go_ret;exact⟨q,j,by rw[z];rfl,X,h2,R.o,Q.o⟩
theorem SI(A:Option Addr)(c:Nat)(bs:List UInt8)(n:Int)(w:World)(h:Row w A (Aj bs))(W:bs.length<=1000000)(G:O (I64 n)) :
  Calls prog 47 #[.slice A bs.length c,I n] w (GivesB w (bs++AB (zig n))):=by
 have H:=J h;clear h;go_enter func47,ntmps47;go_wp2_with fail;refine(GR A c bs 10 w H.o U U).mono ?_;rintro e Q ⟨R,T,rfl,z,F,q,j⟩;go_wp2_with fail;refine(Nv w.heap.size _ bs n Q q j.size U G).mono ?_;rintro e X ⟨v2,rfl,y,u,K⟩;go_wp2;go_ret;exact El y (u.below j j.size (λk D=>(q.lt k D).1))
theorem WY(n:Nat)(w:World)(hn:n<=1000000000) :
  Calls prog 176 #[Zq,I (n:Int)] w λe w'=>∃v,e=.returned v/\Own w' w.heap.size 5 v []/\V w w':=by
 by_cases R:n=0
 .subst R;go_enter func176,ntmps176;go_wp2;go_ret;exact⟨_,rfl,Own.nil _ _ _,V.refl _⟩
 .obtain⟨i0,X,F,G,q⟩:=info_parts D8;have j:=Go.Lib.run_append_grow_zeros (P:=prog) w 29 3 29 5 i0 (.int .u8 0) .i64 .i64 Tryz.underlying29 Tryz.underlying3 X F none 0 0 [] (by simp[Builtin.firstCells]) n U (by rw[G];decide) U U (by rw[q];omega) (by rw[q];have:=nextslicecap_le (need:=0+n) (old:=0) U;omega);have T:=grownCap_ge w n 0 5;have D:=grownCap_le_maxLen w n 0 5 (by unfold maxLen;omega);simp only[Nat.zero_add] at j;have K:V w (w.drew.alloc (.cells (([]:List Value).toArray++Builtin.zeroCells (Value.int .u8 0).cells n++Builtin.zeroCells (Value.int .u8 0).cells (grownCap w n 0 5 - n)) 5)):=zW.trans (V.new _ _);have aa:∀W,(Instr.slice 29 (.slice (some (Y w 0)) n (grownCap w n 0 5)) none (some (I 0)) none).run prog W=.ok (.slice (some (Y w 0)) 0 (grownCap w n 0 5)) W:=λW=>CG.slice_h _ _ _ 0 0 rfl U W;have Q:Own (w.drew.alloc (.cells (([]:List Value).toArray++Builtin.zeroCells (Value.int .u8 0).cells n++Builtin.zeroCells (Value.int .u8 0).cells (grownCap w n 0 5 - n)) 5)) w.heap.size 5 (.slice (some (Y w 0)) 0 (grownCap w n 0 5)) []:=by
   refine⟨rfl,.inr ⟨w.heap.size,_,_,rfl,zR _,(by show (w.heap.push _)[w.heap.size]?=_;simp;rfl),zO _,D,?_,zj⟩⟩;simp only[Array.size_append,size_zeroCells];have:(Value.int IntKind.u8 0).cells.size=1:=rfl;rw[this];simp;omega
  have z:=J Q;have u:=J K;have y:=J j;clear Q K j;generalize (w.drew.alloc (.cells (([]:List Value).toArray++Builtin.zeroCells (Value.int .u8 0).cells n++Builtin.zeroCells (Value.int .u8 0).cells (grownCap w n 0 5 - n)) 5))=w1 at *;generalize grownCap w n 0 5=cap at *;go_enter func176,ntmps176;go_wp2_with (first
   | (at_builtin;refine SH w rfl (.tmp 20) (.tmp 21) 29 3 rfl _ _ _ _ zi zi y.o ?_))
  go_ret;exact⟨_,rfl,z.o,u.o⟩
structure BrM where
 A:Option Addr
 c:Nat
 bs:List UInt8
def brE:Elem BrM where
 f v:=[.slice v.A v.bs.length v.c]
 k:=1
 ty:=29
 st:=162
 z:=.slice none 0 0
 bytes:=24
 inn v:=[(v.A,Aj v.bs)]
 ok v:=v.bs.length<=v.c/\v.c<=maxLen
 len _:=rfl
 one a:=by intro u hu;simp only[zC,zN,or_false] at hu;rcases hu with rfl;rfl
 pos:=zd
 und:=Tryz.underlying162
 info:=zh
 zk:=rfl
 small:=zd
def flat(l:List BrM):List UInt8:=l.flatMap λb=>b.bs
theorem Oe{l:List BrM}{k:Nat}{x:BrM}(h:l[k]?=some x):flat (l.take (k+1))=flat (l.take k)++x.bs:=by
 unfold flat;rw[List.take_add_one,h];simp
theorem PS(l:List BrM)(k:Nat):(flat (l.take k)).length<=(flat l).length:=by
 have:flat l=flat (l.take k)++flat (l.drop k):=by unfold flat;rw[<-List.flatMap_append,List.take_append_drop]
 rw[this,zA];omega
theorem Q1{w:World}{A:Option Addr}{l:List BrM}{k:Nat}(h:brE.Box w A l)(G:k<l.length) :
  ∃b j X q bs,A=some (Z b j)/\b<w.heap.size/\w.cell? (Z b (j+k))=some (.slice X bs.length q)/\O (Row w X (Aj bs))/\bs.length<=q/\q<=maxLen/\O (l[k]?=some ⟨X,q,bs⟩):=by
 obtain⟨b,j,⟨X,q,bs⟩,D,F,y,u,z⟩:=h.at_ G;refine⟨b,j,X,q,bs,D,F,?_,J (u.o.2 (X,Aj bs) (by simp[brE])),u.o.1.1,u.o.1.2,z⟩;have:=y.o 0 (.slice X bs.length q) rfl;simpa[brE] using this
theorem UH(A:Option Addr)(c:Nat)(l:List BrM)(w:World)(h:brE.Box w A l)(hn:l.length<=1000000)(hs:(flat l).length<=100000000) :
  Calls prog 125 #[.slice A l.length c] w (GivesB w (flat l)):=by
 have H:=J h;clear h;go_enter func125,ntmps125;go_wp2;go_loopw [3,11] (λv i wr=>∃(k:Nat),k<=l.length/\i=I k/\v=I ((flat (l.take k)).length:Int)/\w=wr) (λ_ i _=>l.length - (intOf i).toNat)
 case atStart=>exact⟨0,zO _,rfl,by first|rfl|trivial,by first|rfl|trivial⟩
 case round=>
  obtain⟨k,hk,rfl,rfl,rfl⟩:=hrel;by_cases aa:k<l.length
  .obtain⟨b,ae,X,cx,bs,rfl,hb,c0,HR,Q,R,G⟩:=Q1 H.o aa;have j:flat (l.take (k+1))=flat (l.take k)++bs:=Oe G.o;have q:=PS l (k+1);rw[j,zA] at q;have ah:IntKind.i64.wrap (((flat (l.take k)).length:Int)+(bs.length:Int))=((flat (l.take k)).length:Int)+(bs.length:Int):=IntWalk.i64_in _ U;have hd:decide (((flat (l.take k)).length:Int)+(bs.length:Int)<0)=false:=zm;go_wp2;go_roundw
   case rel=>exact⟨k+1,U,by go_num,by rw[j,zA];simp,by first|rfl|trivial⟩
   case measure=>simp[intOf];omega
  .have W:l.take k=l:=List.take_of_length_le U;rw[W];go_wp2_with fail;refine(WY (flat l).length w U).mono ?_;rintro e w1 ⟨v1,rfl,ab,ad⟩;go_wp2;obtain⟨wo,ai⟩:∃x,x=w1:=⟨w1,rfl⟩;go_loopw [6,27] (λv i wr=>∃(k:Nat),k<=l.length/\i=I k/\O (Own wr w.heap.size 5 v (Aj (flat (l.take k))))/\O (V w wr)) (λ_ i _=>l.length - (intOf i).toNat)
   case atStart=>exact⟨0,zO _,rfl,J ab,J ad⟩
   case round=>
    obtain⟨u,af,rfl,F,y⟩:=hrel;by_cases D:u<l.length
    .obtain⟨b,ae,X,cx,bs,rfl,hb,c0,HR,Q,R,G⟩:=Q1 (H.o.ext y.o) D;have j:flat (l.take (u+1))=flat (l.take u)++bs:=Oe G.o;have q:=PS l (u+1);rw[j,zA] at q;have K:=J j;clear j;go_wp2_with (first
      | (at_builtin;refine Fp rfl (.tmp 31) (.tmp 32) _ 5 _ 1 rfl Tryz.underlying29 D8 rfl zd wr w.heap.size _ _ zi X bs.length cx (Aj bs) zi (by rw[Bo]) HR.o (FN _) F.o (by rw[Bo];omega) y.o.size ?_;intro v3 w3 ac T ag))
     go_roundw
     case rel=>exact⟨u+1,U,by go_num,J (by rw[K.o,Ew];exact ac),J (T.below y.o y.o.size (λk hk=>(F.o.lt k hk).1))⟩
     case measure=>simp[intOf];omega
    .have z:l.take u=l:=List.take_of_length_le U;rw[z] at F;go_wp2;go_ret;exact El F.o y.o
theorem Ia{α:Type}{y:Array Oper}{o:Oper}{a:Act}{K:Act->World->Prop}{Q:Exit->Act->World->Prop}{X:Prop}(E:Elem α)(D:o.guard=none)(s x:Operand)
  (ho:o.op=.call {callee:=.builtin .append,args:=#[s,x],argTypes:=#[E.st,E.st]})
  (W:World) (B:Nat) (v:Value) (l:List α) (hs:a.eval s=v) (z:Addr) (m c:Nat) (j:List α) (hx:a.eval x=.slice (some z) m c) (hm:m=j.length) (hr:Row W (some z) (E.cells j)) (hp:0<m)
  (F:E.OB W B v l) (u:∀q∈j,E.ok q/\∀r∈E.inn q,Row W r.1 r.2/\Apt v r) (T:l.length+m<=20000000) (R:B<=W.heap.size)
  (h:∀G w',E.OB w' B G (l++j)->Grew W w' v->Stems W v G->K (a.put o.dst G) w'):if Region.wanted o (yielded y a.tmps)=true then Oper.wp prog o a W K Q else X:=by
 have hw:Region.wanted o (yielded y a.tmps)=true:=by simp[Region.wanted,D]
 rw[if_pos hw];exact Nz E s x ho W B v l hs z m c j hx hm hr hp F u T R h
theorem G8{a b:World}{v:Value}(g:Grew a b v){p i:Nat}(h:p<a.heap.size)(j:∀k,v.ownBlock=some k->k≠p):b.cell? (Z p i)=a.cell? (Z p i):=
 World.cell?_of_block (a:=⟨p,i,none⟩) (g.block p h (λe=>j p e.symm rfl))
theorem Kq(x y z:Int)(w:World):Row (w.alloc (.cells #[I x,I y,I z] 3)) (some (Z w.heap.size 0)) (Ai [x,y,z]):=by
 intro _;refine⟨w.heap.size,0,rfl,zj,λj q h=>?_⟩;simp only[Ai,List.map_cons,List.map_nil] at h
 match j,h with
 | 0,h=>simpa using h
 | 1,h=>simpa using h
 | 2,h=>simpa using h
theorem I9(x:Int)(w:World):Row (w.alloc (.cells #[I x] 3)) (some (Z w.heap.size 0)) (Ai [x]):=by
 intro _;refine⟨w.heap.size,0,rfl,zj,λj q h=>?_⟩;simp only[Ai,List.map_cons,List.map_nil] at h
 match j,h with
 | 0,h=>simpa using h
theorem Of(x y:Int)(w:World):Row (w.alloc (.cells #[I x,I y] 3)) (some (Z w.heap.size 0)) (Ai [x,y]):=by
 intro _;refine⟨w.heap.size,0,rfl,zj,λj q h=>?_⟩;simp only[Ai,List.map_cons,List.map_nil] at h
 match j,h with
 | 0,h=>simpa using h
 | 1,h=>simpa using h
theorem Ho{w:World}{n m j:Nat}{xs:List Value}(h:Row w (some (Z m j)) xs)(q:n=m):Row w.drew (some (Z n j)) xs:=by subst q;exact h.ext zW
theorem Zm(a b:BrM)(w:World):Row (w.alloc (.cells #[.slice a.A a.bs.length a.c,.slice b.A b.bs.length b.c] 29)) (some (Z w.heap.size 0)) (brE.cells [a,b]):=by
 intro _;refine⟨w.heap.size,0,rfl,zj,λj q h=>?_⟩;simp only[Elem.cells,brE,List.flatMap_cons,List.flatMap_nil,List.append_nil,List.cons_append,List.nil_append] at h
 match j,h with
 | 0,h=>simpa using h
 | 1,h=>simpa using h
theorem O7{w:World}{v:Value}{y z:Option Addr}{D F:Nat}{j u:List UInt8}(R:Row w y (Aj j))(T:Row w z (Aj u))(W:j.length<=D)(G:D<=maxLen)(X:u.length<=F)(K:F<=maxLen)(a1:Apt v (y,Aj j))(a2:Apt v (z,Aj u)) :
  ∀q∈[(⟨y,D,j⟩:BrM),⟨z,F,u⟩],brE.ok q/\∀r∈brE.inn q,Row w r.1 r.2/\Apt v r:=by
 intro q Q;simp only[zC,zN,or_false] at Q;rcases Q with rfl|rfl
 .exact⟨⟨W,G⟩,λr h=>by simp only[brE,zC,zN,or_false] at h;subst h;exact⟨R,a1⟩⟩
 .exact⟨⟨X,K⟩,λr h=>by simp only[brE,zC,zN,or_false] at h;subst h;exact⟨T,a2⟩⟩
theorem Elem.own_new{α:Type}(E:Elem α)(w:World)(l:List α):E.Own (w.alloc (.cells (E.cells l).toArray E.ty)) w.heap.size (.slice (some (Z w.heap.size 0)) l.length l.length) l\/maxLen<l.length:=by
 rcases Nat.lt_or_ge maxLen l.length with h|h
 .exact .inr h
 .exact .inl ⟨by rw[E.cells_len],.inr ⟨w.heap.size,l.length,(E.cells l).toArray,rfl,zR _,(by show (w.heap.push _)[w.heap.size]?=_;simp),zR _,h,by simp[E.cells_len],by rw[List.take_of_length_le (by rw[E.cells_len];exact zR _)]⟩⟩
theorem Wp(a b:List BrM):flat (a++b)=flat a++flat b:=by simp[flat]
theorem NU{l:List Ent}{k:Nat}{e:Ent}(h:l[k]?=some e):(l.take (k+1)).flatMap DF=(l.take k).flatMap DF++DF e:=by rw[List.take_add_one,h];simp
theorem Pa{e:Ent}{m:Nat}(h:e.p.length<=m)(y:m<=100000000):(DF e).length<=m+44:=by
 have j:=DN [e.v,e.o,e.q];have u:=BW (v:=e.p.length) (by unfold U64;omega);unfold DF Bq;simp only[zA,zK,List.length_nil] at *;omega
theorem Jn{l:List Ent}(h:∀e∈l,e.p.length<=6000):(l.flatMap DF).length<=6044*l.length:=by
 induction l with
 | nil=>simp
 | cons e l q=>
  have u:=Pa (h e zj) U;have y:=q (λe j=>h e (by simp[j]));simp only[List.flatMap_cons,zA,zK];omega
theorem JJ(A Al:Option Addr)(c cl:Nat)(u:List UInt8)(j:List Ent)(w:World)(hb:Row w A (Aj u))(b1:u.length<=1000)(bo:u.length<=c/\c<=maxLen)(hr:Row w Al (Aa.cells j))(hn:j.length<=2000)(hp:∀e∈j,e.p.length<=6000) :
  Calls prog 52 #[.slice A u.length c,.slice Al j.length cl] w (GivesB w (u++Bb j)):=by
 have H:=J hb;have HR:=J hr;have HP:=J hp;obtain⟨ba,bb⟩:=bo;clear hb hr hp;have E0:O (V w (w.alloc (.cells #[I (j.length:Int)] 3))):=J (V.new _ _);go_enter func52,ntmps52;go_wp2_with fail;refine(Gb _ 1 [(j.length:Int)] _ (I9 _ _) zj).mono ?_;rintro e w1 ⟨z,R,rfl,ae,af,F,T⟩;have Q:=E0.o.t T;have ac:=J F.row;clear F T;have bd:O (brE.OB (w1.alloc (.cells #[.slice A u.length c,.slice z (AF [(j.length:Int)]).length R] 29)) w.heap.size (.slice (some (Y w1 0)) 2 2) [⟨A,c,u⟩,⟨z,R,AF [(j.length:Int)]⟩]):=J ⟨((brE.own_new w1 [⟨A,c,u⟩,⟨z,R,AF [(j.length:Int)]⟩]).resolve_right (by unfold maxLen;simp)).base Q.o.size,O7 (H.o.ext (Q.o.trans (V.new _ _))) (ac.o.ext (V.new _ _)) ba bb ae af (λp q ah hp hq=>by cases hq;have:=Fz (H.o.ext Q.o) ah hp;simp at this|-;omega) (λp q ah hp hq=>by cases hq;have:=Fz ac.o ah hp;simp at this|-;omega)⟩;have X2:O (V w (w1.alloc (.cells #[.slice A u.length c,.slice z (AF [(j.length:Int)]).length R] 29))):=Q.o.t (V.new _ _);go_wp2;go_loopw [5,16] (λv i wr=>∃(k:Nat) (l:List BrM) (v':Value),v'=v/\k<=j.length/\i=I k/\O (flat l=u++AF [(j.length:Int)]++(j.take k).flatMap DF)/\O (l.length=2+2*k)/\O (brE.OB wr w.heap.size v l)/\O (V w wr)) (λ_ i _=>j.length - (intOf i).toNat)
 case atStart=>exact⟨0,_,_,rfl,zO _,rfl,J (by simp[flat]),J rfl,bd,X2⟩
 case round=>
  obtain⟨k,l,v,rfl,hk,rfl,y,ad,HO,HX⟩:=hrel;by_cases bt:k<j.length
  .obtain⟨b,b2,e,rfl,hb,c0,bx,bz,b0,HE⟩:=C9 (HR.o.ext HX.o) bt;have bp:e.p.length<=100000000:=by have:=HP.o e (zX HE.o);omega
   go_wp2;refine eC 15 (λw'=>w'.cell? (Y wr 0)=some (I e.v)/\w'.cell? (Y wr 1)=some (I e.o)/\w'.cell? (Y wr 2)=some (I e.q)/\w'.cell? (Y wr 3)=some (.string (Ah e.p))) ⟨zj,zj,zj,zj⟩ (λyH=>?_);refine ec 0 ?_;refine eb 4 ?_;refine ea 6 ?_;refine eb 9 ?_;refine eB 7 λK D=>?_;go_simp;clear yH;refine D.out _ _ ⟨zj,zj,zj,zj⟩ (λyH=>?_);clear D K;try simp only[Act.put,Au,Aw,Ay]
   refine eB 8 λK D=>?_;go_simp;go_at_call 48;refine(Gb _ 3 [e.v,e.o,e.q] _ (by exact Ho (Kq _ _ _ _) zj) zj).mono ?_;rintro e1 w1 ⟨z,R,rfl,ae,af,F,T⟩;have Q:O (V (wr.alloc (.cells #[I e.v,I e.o,I e.q,.string (Ah e.p)] 66)) w1):=J (((V.new _ _).trans zW).trans T);have ac:O (Row w1 z (Aj (AF [e.v,e.o,e.q]))):=J F.row;have bg:O (∀p,Aj (AF [e.v,e.o,e.q])≠[]->z=some p->wr.heap.size<=p.block):=J (λp _ hp=>by subst hp;have:=(F.lt p.block rfl).1;simp at this;omega);clear F T;have ak:w1.cell? (Y wr 0)=some (I e.v):=by rw[Q.o.cell_new];rfl
   have an:w1.cell? (Y wr 1)=some (I e.o):=by rw[Q.o.cell_new];rfl
   have aq:w1.cell? (Y wr 2)=some (I e.q):=by rw[Q.o.cell_new];rfl
   have av:w1.cell? (Y wr 3)=some (.string (Ah e.p)):=by rw[Q.o.cell_new];rfl
   clear yH;refine D.out _ _ ⟨ak,an,aq,av⟩ (λyH=>?_);clear D K;try simp only[Act.put,Au,Aw,Ay]
   refine eB 11 λK D=>?_;go_simp;go_at_call 120;refine(Md none 0 [] e.p _ (Row.nil _ _) zj bp).mono ?_;rintro e2 G ⟨A2,c2,rfl,az,a9,ai,aj⟩;have X2:O (V (wr.alloc (.cells #[I e.v,I e.o,I e.q,.string (Ah e.p)] 66)) G):=Q.o.t aj;have ay:O (Row G z (Aj (AF [e.v,e.o,e.q]))):=ac.o.e aj;have bk:O (Row G A2 (Aj (Bq e.p))):=J ai.row;have bh:O (∀p,Aj (Bq e.p)≠[]->A2=some p->wr.heap.size<=p.block):=J (λp _ hp=>by subst hp;have:=(ai.lt p.block rfl).1;have:=Q.o.size;simp at this;omega);clear ai aj;have al:G.cell? (Y wr 0)=some (I e.v):=by rw[X2.o.cell_new];rfl
   have ao:G.cell? (Y wr 1)=some (I e.o):=by rw[X2.o.cell_new];rfl
   have ar:G.cell? (Y wr 2)=some (I e.q):=by rw[X2.o.cell_new];rfl
   have aw:G.cell? (Y wr 3)=some (.string (Ah e.p)):=by rw[X2.o.cell_new];rfl
   clear yH;refine D.out _ _ ⟨al,ao,ar,aw⟩ (λyH=>?_);clear D K;try simp only[Act.put,Au,Aw,Ay]
   refine eB 12 λK D=>?_;go_simp;have X3:O (V (wr.alloc (.cells #[I e.v,I e.o,I e.q,.string (Ah e.p)] 66)) (G.alloc (.cells #[.slice z (AF [e.v,e.o,e.q]).length R,.slice A2 (Bq e.p).length c2] 29))):=X2.o.t (V.new _ _);have bl:O (Row (G.alloc (.cells #[.slice z (AF [e.v,e.o,e.q]).length R,.slice A2 (Bq e.p).length c2] 29)) (some (Y G 0)) (brE.cells [⟨z,R,AF [e.v,e.o,e.q]⟩,⟨A2,c2,Bq e.p⟩])):=J (Zm _ _ _);have bi:=HO.o.e ((V.new wr _).trans X3.o);generalize hQ:G.alloc (.cells #[.slice z (AF [e.v,e.o,e.q]).length R,.slice A2 (Bq e.p).length c2] 29)=w3 at *;have bf:O (∀q∈[(⟨z,R,AF [e.v,e.o,e.q]⟩:BrM),⟨A2,c2,Bq e.p⟩],brE.ok q/\∀r∈brE.inn q,Row w3 r.1 r.2/\Apt v r):=(by subst hQ;exact J (O7 (ay.o.ext (V.new _ _)) (bk.o.ext (V.new _ _)) ae af az a9 (Hg (E:=brE) (l:=l) bg.o HO.o.1) (Hg (E:=brE) (l:=l) bh.o HO.o.1)));clear hQ;have W:w3.cell? (Y wr 0)=some (I e.v):=by rw[X3.o.cell_new];rfl
   have X:w3.cell? (Y wr 1)=some (I e.o):=by rw[X3.o.cell_new];rfl
   have aa:w3.cell? (Y wr 2)=some (I e.q):=by rw[X3.o.cell_new];rfl
   have ab:w3.cell? (Y wr 3)=some (.string (Ah e.p)):=by rw[X3.o.cell_new];rfl
   clear yH;refine D.out _ _ ⟨W,X,aa,ab⟩ (λyH=>?_);clear D K;try simp only[Act.put,Au,Aw,Ay]
   refine eB 13 λK D=>?_;refine Ia brE rfl (.tmp 20) (.tmp 32) rfl w3 w.heap.size v l zi _ 2 2 [⟨z,R,AF [e.v,e.o,e.q]⟩,⟨A2,c2,Bq e.p⟩] zi rfl bl.o zd bi.o bf.o (by have:=ad.o;omega) (by have:=X3.o.size;have:=HX.o.size;simp at *;omega) ?_;intro v4 w4 bc ag bv;have bj:=J bc;have X4:O (V w w4):=J (ag.below (HX.o.trans ((V.new wr _).trans X3.o)) (by have:=X3.o.size;have:=HX.o.size;simp at *;omega) (λk hk=>(HO.o.1.lt k hk).1));have Y4:O (∀i,w4.cell? (Y wr i)=w3.cell? (Y wr i)):=J (λi=>G8 ag (by have:=X3.o.size;simp at this;omega) (λk hk=>by have:=(HO.o.1.lt k hk).2;omega));have am:w4.cell? (Y wr 0)=some (I e.v):=(Y4.o 0).trans W;have ap:w4.cell? (Y wr 1)=some (I e.o):=(Y4.o 1).trans X;have au:w4.cell? (Y wr 2)=some (I e.q):=(Y4.o 2).trans aa;have ax:w4.cell? (Y wr 3)=some (.string (Ah e.p)):=(Y4.o 3).trans ab;clear bc ag bv;clear yH;refine D.out _ _ ⟨am,ap,au,ax⟩ (λyH=>?_);clear D K;try simp only[Act.put,Au,Aw,Ay]
   refine ea 14 ?_;refine eA ?_;go_wp2;go_roundw
   case rel=>exact⟨k+1,_,_,rfl,U,by go_num,J (by rw[Wp,y.o,NU HE.o];simp[flat,DF]),J (by have:=ad.o;simp;omega),bj,X4⟩
   case measure=>simp[intOf];omega
  .have br:j.take k=j:=List.take_of_length_le U;rw[br] at y;have bq:O ((flat l).length<=100000000):=J (by
    rw[y.o];have h1:=DN [(j.length:Int)];have h2:=Jn HP.o;simp only[zA,zK,List.length_nil] at *;omega)
   obtain⟨A2,c2,rfl,az,a9,be⟩:∃A c',v=.slice A l.length c'/\l.length<=c'/\c'<=maxLen/\O (brE.Box wr A l):=by
    obtain⟨A,c',h1,h2,h3,h4⟩:=HO.o.slice;exact⟨A,c',h1,h2,h3,J h4⟩
   go_wp2_with fail;refine(UH A2 c2 l wr be.o (by have:=ad.o;omega) bq.o).mono ?_;rintro e G ⟨A3,c3,rfl,bm,bn,bu,bw⟩;go_wp2;go_ret;have hf:flat l=u++Bb j:=by rw[y.o];unfold Bb;rw[List.append_assoc]
   rw[<-hf];exact⟨A3,c3,rfl,bm,bn,bu.base HX.o.size,HX.o.trans bw⟩
theorem Nw(b:BM)(st:Int)(y:Option Addr)(q:Int)(j:Nat)(p:List UInt8)(w:World)(u:b.Ap=y)(h:b.Reads w)(hn:b.pend.length<=1000000000)(T:0<=b.sent/\b.sent<=1099511627776)(R:0<=q/\q<=1099511627776)
  (Q:(b.pend.length:Int) - 1 - (b.sent - q)=(j:Int)) (D:b.pend[j]?=some p) :
  Calls prog 112 #[.agg #[I b.self,.slice b.Av b.vs.length b.cv,I b.base,.slice b.Al b.log.length b.cl,I st,I b.sent,.slice y b.pend.length b.cp,.slice b.Am b.marks.length b.cm,.slice b.Af b.fls.length b.cf],I q] w λe w'=>e=.returned (.string (Ah p))/\V w w':=by
 have G:=J (V.new w (.cells (b.cells3 st y) 28));have z:j<b.pend.length:=(zZ D).1;obtain⟨bb,ab,p',rfl,hb,c0,K⟩:=Gm (show Row w y (AU.cells b.pend) by rw[<-u];exact h.pend) z;have F:p'=p:=by have:=K.o.symm.trans D;exact Option.some.inj this
 subst F;have W:IntKind.i64.wrap ((b.pend.length:Int) - 1)=(b.pend.length:Int) - 1:=IntWalk.i64_in _ U;have X:IntKind.i64.wrap (b.sent - q)=b.sent - q:=IntWalk.i64_in _ U;have aa:IntKind.i64.wrap ((b.pend.length:Int) - 1 - (b.sent - q))=(j:Int):=by rw[IntWalk.i64_in _ U];exact Q
 have k1:(0:Int)<=(j:Int):=U;have k2:(j:Int)<(b.pend.length:Int):=U;clear Q D T R u h K;unfold BM.cells3 at G;go_enter func112,ntmps112;go_wp2;go_ret;exact⟨rfl,G.o⟩
theorem To:∀(l:List FlM) (k:Nat) (f:FlM) (A:Option Addr) (c:Nat),l[k]?=some f->flE.cells (l.set k ⟨f.m,f.b,A,c,f.log⟩)=(flE.cells l).set (k*3+2) (.slice A f.log.length c):=by
 intro l;induction l with
 | nil=>intro k f A c h;simp at h
 | cons x l q=>
  intro k f A c h
  match k,h with
  | 0,h=>simp only[List.getElem?_cons_zero,zJ] at h;subst h;rfl
  | k+1,h=>
   rw[List.set_cons_succ,flE.cells_cons,flE.cells_cons,q k f A c (by simpa using h)];have j:(k+1)*3+2=k*3+2+1+1+1:=U;rw[j];rfl
theorem Yo{w:World}{B g cap:Nat}{l:List FlM}{k:Nat}{f:FlM}{A:Option Addr}{c:Nat}(h:flE.OB w B (.slice (some (Z g 0)) l.length cap) l)(hf:l[k]?=some f)(F:f.log.length<=c)(y:c<=maxLen)(hr:Row w A (Aa.cells f.log))(D:Apt (.slice (some (Z g 0)) l.length cap) (A,Aa.cells f.log)) :
  flE.OB (w.setCell (Z g (k*3+2)) (.slice A f.log.length c)) B (.slice (some (Z g 0)) l.length cap) (l.set k ⟨f.m,f.b,A,c,f.log⟩):=by
 have z:∀{r:Option Addr×List Value},Row w r.1 r.2->Apt (.slice (some (Z g 0)) l.length cap) r->Row (w.setCell (Z g (k*3+2)) (.slice A f.log.length c)) r.1 r.2:=λF y=>
  I1 F (λq K u=>Ne.symm (y q g K u rfl))
 refine⟨?_,λq u=>?_⟩
 .obtain⟨F,y⟩:=h.1;refine⟨by rw[flE.cells_len],.inr ?_⟩;rcases y with ⟨y,_⟩|⟨g',Q,G,R,T,hh,W,X,h6,h7⟩
  .cases y
  .simp only[Value.slice.injEq,zJ,Addr.mk.injEq,and_true,true_and] at R;obtain⟨rfl,rfl⟩:=R;refine⟨g,cap,G.setIfInBounds (k*3+2) (.slice A f.log.length c),by rw[List.length_set],T,?_,by rw[List.length_set];exact W,X,by simpa using h6,?_⟩
   .exact heap_setCell_same _ _ _ _ _ _ hh
   .rw[List.length_set,Array.toList_setIfInBounds,List.take_set,h7,To l k f A c hf]
 .rcases List.mem_or_eq_of_mem_set u with u|rfl
  .exact⟨(h.2 q u).1,λr j=>⟨z ((h.2 q u).2 r j).1 ((h.2 q u).2 r j).2,((h.2 q u).2 r j).2⟩⟩
  .refine⟨⟨F,y⟩,λr j=>?_⟩;simp only[flE,zC,zN,or_false] at j;subst j;exact⟨z (r:=(A,Aa.cells f.log)) hr D,D⟩
def flv(l:List FlM):List Fls:=l.map FlM.v
theorem YL{l:List FlM}{k:Nat}{f:FlM}{A:Option Addr}{c:Nat}(h:l[k]?=some f):flv (l.set k ⟨f.m,f.b,A,c,f.log⟩)=flv l:=by
 unfold flv;rw[List.map_set];apply List.ext_getElem?;intro i;by_cases j:k=i
 .subst j;rw[List.getElem?_set];obtain⟨u,q⟩:=zZ h;simp[u,q,FlM.v]
 .rw[List.getElem?_set];simp[j]
def ColR(col:Nat->Nat)(k:Nat)(A:Option Addr)(xs:List Value):Prop:=∀p,xs≠[]->A=some p->col p.block=k
def ColV(col:Nat->Nat)(k:Nat)(v:Value):Prop:=∀q,v.ownBlock=some q->col q=k
def BIs(w:World)(p:Nat)(vals:Array Value)(t:TypeId):Prop:=w.heap[p]?=some (.cells vals t (0,0))
theorem BIs.lt{w:World}{p:Nat}{j:Array Value}{t:TypeId}(h:BIs w p j t):p<w.heap.size:=by
 rcases Nat.lt_or_ge p w.heap.size with hlt|hge
 .exact hlt
 .unfold BIs at h;rw[Array.getElem?_eq_none hge] at h;cases h
theorem BIs.cell{w:World}{p:Nat}{j:Array Value}{t:TypeId}(h:BIs w p j t)(i:Nat):w.cell? (Z p i)=j[i]?:=cell_of_row w p i j t (0,0) h
theorem BIs.free{w:World}{p:Nat}{j:Array Value}{t:TypeId}(h:BIs w p j t)(i:Nat):w.frozen? (Z p i)=false:=by
 unfold BIs at h;simp[World.frozen?,h]
theorem BIs.set{w:World}{p:Nat}{j:Array Value}{t:TypeId}(h:BIs w p j t)(i:Nat)(v:Value):BIs (w.setCell (Z p i) v) p (j.setIfInBounds i v) t:=heap_setCell_same _ _ _ _ _ _ h
theorem BIs.same{w w':World}{p:Nat}{j:Array Value}{t:TypeId}(h:BIs w p j t)(e:w'.heap[p]?=w.heap[p]?):BIs w' p j t:=by unfold BIs;rw[e];exact h
theorem BIs.ext{w w':World}{p:Nat}{j:Array Value}{t:TypeId}(h:BIs w p j t)(e:V w w'):BIs w' p j t:=h.same (e.block p h.lt)
theorem BIs.e{w w':World}{p:Nat}{j:Array Value}{t:TypeId}(h:BIs w p j t)(e:V w w'):O (BIs w' p j t):=J (h.ext e)
theorem BIs.new(w:World)(h:Array Value)(t:TypeId):BIs (w.alloc (.cells h t)) w.heap.size h t:=by
 show (w.heap.push _)[w.heap.size]?=_;simp
structure Off(col:Nat->Nat)(c:Nat)(w w':World):Prop where
 size:w.heap.size<=w'.heap.size
 block:∀k,k<w.heap.size->col k≠c->w'.heap[k]?=w.heap[k]?
theorem Off.ext{col:Nat->Nat}(c:Nat){w w':World}(e:V w w'):Off col c w w':=⟨e.size,λk h _=>e.block k h⟩
theorem Off.row{col:Nat->Nat}{c k:Nat}{w w':World}{A:Option Addr}{xs:List Value}(o:Off col c w w')(h:Row w A xs)(K:ColR col k A xs)(R:k≠c):Row w' A xs:=by
 intro D;obtain⟨b,q,y,z,F⟩:=h D;refine⟨b,q,y,Nat.lt_of_lt_of_le z o.size,λj u Q=>?_⟩;have G:w'.heap[b]?=w.heap[b]?:=o.block b z (by rw[K _ D y];exact R);exact(World.cell?_of_block (a:=⟨b,q+j,none⟩) G).trans (F j u Q)
theorem Off.own{α:Type}{E:Elem α}{col:Nat->Nat}{c k B:Nat}{w w':World}{v:Value}{l:List α}(o:Off col c w w')(h:E.Own w B v l)(u:ColV col k v)(y:k≠c):E.Own w' B v l:=
 h.keep λq z j=>o.block q j (by rw[u q z];exact y)
theorem Off.box{α:Type}{E:Elem α}{col:Nat->Nat}{c:Nat}{w w':World}{A:Option Addr}{l:List α}(o:Off col c w w')(h:E.Box w A l)(y:ColR col 0 A (E.cells l))(z:∀a∈l,∀r∈E.inn a,ColR col 0 r.1 r.2)(q:0≠c):E.Box w' A l:=
 ⟨o.row h.1 y q,λa j=>⟨(h.2 a j).1,λr u=>o.row ((h.2 a j).2 r u) (z a j r u) q⟩⟩
def As(col:Nat->Nat)(n c:Nat):Nat->Nat:=λk=>if k<n then col k else c
theorem AV{col:Nat->Nat}{n c k:Nat}(h:k<n):As col n c k=col k:=by unfold As;rw[if_pos h]
theorem Eh{col:Nat->Nat}{n c k:Nat}(h:n<=k):As col n c k=c:=by unfold As;rw[if_neg U]
theorem ColR.old{col j:Nat->Nat}{k:Nat}{w:World}{A:Option Addr}{xs:List Value}(h:ColR col k A xs)(D:Row w A xs)(z:∀q,q<w.heap.size->j q=col q):ColR j k A xs:=
 λp u y=>(z _ (Fz D u y)).trans (h p u y)
theorem ColV.old{α:Type}{E:Elem α}{B:Nat}{l:List α}{col j:Nat->Nat}{k:Nat}{w:World}{v:Value}(h:ColV col k v)(z:E.Own w B v l)(y:∀q,q<w.heap.size->j q=col q):ColV j k v:=
 λq u=>(y q (z.lt q u).2).trans (h q u)
structure BM.Lies(w:World)(B:Nat)(col:Nat->Nat)(b:BM):Prop where
 vs:AL.Box w b.Av b.vs
 vc:ColR col 0 b.Av (AL.cells b.vs)
 vi:∀v∈b.vs,ColR col 0 v.A (Ai v.xs)
 log:Aa.Own w B (.slice b.Al b.log.length b.cl) b.log
 lc:ColV col 2 (.slice b.Al b.log.length b.cl)
 pend:Row w b.Ap (AU.cells b.pend)
 pc:ColR col 6 b.Ap (AU.cells b.pend)
 marks:AA.Own w B (.slice b.Am b.marks.length b.cm) b.marks
 mc:ColV col 3 (.slice b.Am b.marks.length b.cm)
 fls:flE.Own w B (.slice b.Af b.fls.length b.cf) b.fls
 fc:ColV col 4 (.slice b.Af b.fls.length b.cf)
 fi:∀f∈b.fls,flE.ok f/\Row w f.A (Aa.cells f.log)/\ColR col 0 f.A (Aa.cells f.log)
theorem BM.Lies.reads{w:World}{B:Nat}{col:Nat->Nat}{b:BM}(h:b.Lies w B col):b.Reads w:=
 ⟨h.vs,h.log.row,h.pend,h.marks.row,h.fls.row,λa j=>⟨(h.fi a j).1,λr q=>by
  simp only[flE,zC,zN,or_false] at q;subst q;exact(h.fi a j).2.1⟩⟩
theorem BM.Lies.off{w w':World}{B c:Nat}{col q:Nat->Nat}{b:BM}(h:b.Lies w B col)(o:Off col c w w')(T:c≠0/\c≠2/\c≠3/\c≠4/\c≠6)(j:∀k,k<w.heap.size->q k=col k):b.Lies w' B q:=by
 obtain⟨y,F,G,K,Q⟩:=T;refine⟨o.box h.vs h.vc (λa R r z=>?_) (Ne.symm y),h.vc.old h.vs.1 j,λv D=>(h.vi v D).old ((h.vs.2 v D).2 (v.A,Ai v.xs) (by simp[AL])) j,o.own h.log h.lc (Ne.symm F),h.lc.old h.log j,o.row h.pend h.pc (Ne.symm Q),h.pc.old h.pend j,
  o.own h.marks h.mc (Ne.symm G),h.mc.old h.marks j,o.own h.fls h.fc (Ne.symm K),h.fc.old h.fls j,λf u=>⟨(h.fi f u).1,o.row (h.fi f u).2.1 (h.fi f u).2.2 (Ne.symm y),(h.fi f u).2.2.old (h.fi f u).2.1 j⟩⟩
 simp only[AL,zC,zN,or_false] at z;subst z;exact h.vi a R
theorem BM.Lies.ext{w w':World}{B:Nat}{col j:Nat->Nat}{b:BM}(h:b.Lies w B col)(e:V w w')(q:∀k,k<w.heap.size->j k=col k):b.Lies w' B j:=
 h.off (Off.ext 1 e) zd q
theorem BM.Lies.base{w:World}{B B':Nat}{col:Nat->Nat}{b:BM}(h:b.Lies w B col)(j:B'<=B):b.Lies w B' col:=
 ⟨h.vs,h.vc,h.vi,h.log.base j,h.lc,h.pend,h.pc,h.marks.base j,h.mc,h.fls.base j,h.fc,h.fi⟩
theorem BIs.nine'{w:World}{p:Nat}{b:BM}{t:TypeId}(h:BIs w p b.cells t) :
  w.cell? (Z p 0)=some (I b.self)/\w.cell? (Z p 1)=some (.slice b.Av b.vs.length b.cv)/\w.cell? (Z p 2)=some (I b.base)/\w.cell? (Z p 3)=some (.slice b.Al b.log.length b.cl)/\w.cell? (Z p 4)=some (I b.stable)/\w.cell? (Z p 5)=some (I b.sent)/\w.cell? (Z p 6)=some (.slice b.Ap b.pend.length b.cp)/\w.cell? (Z p 7)=some (.slice b.Am b.marks.length b.cm)/\w.cell? (Z p 8)=some (.slice b.Af b.fls.length b.cf):=by
 refine⟨?_,?_,?_,?_,?_,?_,?_,?_,?_⟩<;>(rw[h.cell];rfl)
theorem BIs.free9{w:World}{p:Nat}{j:Array Value}{t:TypeId}(h:BIs w p j t) :
  w.frozen? (Z p 0)=false/\w.frozen? (Z p 1)=false/\w.frozen? (Z p 2)=false/\w.frozen? (Z p 3)=false/\w.frozen? (Z p 4)=false/\w.frozen? (Z p 5)=false/\w.frozen? (Z p 6)=false/\w.frozen? (Z p 7)=false/\w.frozen? (Z p 8)=false:=
 ⟨h.free _,h.free _,h.free _,h.free _,h.free _,h.free _,h.free _,h.free _,h.free _⟩
end Go.Proofs.YtponbabbabnaeaaGreat
