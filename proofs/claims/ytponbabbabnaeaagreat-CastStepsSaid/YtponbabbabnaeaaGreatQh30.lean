/- Part 30: contracts of functions. Conditions: as each theorem says. -/
import Derived.Test.YtponbabbabnaeaaGreatQh29
set_option maxRecDepth 100000
set_option maxHeartbeats 40000000
set_option linter.unusedVariables false
namespace Go.Proofs.YtponbabbabnaeaaGreat
open Proofs.Tryz
open Go.RowKit
theorem GE{P:Prop}(h:P:=by
 go_wp2;(try simp only[Exit.inBlock,Exit.then]);refine bodyPost_ret (GL rfl _ _ _) rfl ?_
 exact Jr _ Q.o (V.refl _)):P:=h
theorem A_b(i d:Nat)(s x:Operand){z:Array Oper}{Q:Exit->Act->World->Prop}{md:Region.Mode}{S:World->Prop}{n y:Nat}{q:Array Bool}{a:Act}{f:Value->Act}{o:Oper}(ho:z[i]?=some o)
  (ae:o.op=.call {callee:=.builtin .append,args:=#[s,x],argTypes:=#[29,29]}) (aa:o.guard=none) (hd:o.dst=some d)
  (W:World) (B:Nat) (v:Value) (xs:List UInt8) (hs:a.eval s=v) (T:Addr) (m c:Nat) (ys:List UInt8) (hx:a.eval x=.slice (some T) m c) (hm:m=ys.length) (hr:Row W (some T) (Aj ys))
  (F:Own W B 5 v (Aj xs)) (hl:xs.length+m<=1000000000) (hB:B<=W.heap.size)
  (h:∀R w',Own w' B 5 R (Aj (xs++ys))->Grew W w' v->S w'/\(S w'->wpE prog md z Q S n y (q.setIfInBounds i true) (f R) w')) (ha:∀v,a.put (some d) v=f v:=by intro v;simp only[Act.put,Au,Aw,Ay]<;>rfl):Arm prog md z Q S n y q a W i:=by
 have X:AllE prog md z Q S n y q a W [i]:=by
  refine AllE.cons ho (λK hK=>?_) AllE.nil;have hw:Region.wanted o (yielded z a.tmps)=true:=by simp[Region.wanted,aa]
  rw[if_pos hw];obtain⟨i0,hi,af,G,ag⟩:=CG.info_parts;have D:W.ownsRow B 5 1 v xs.length (Aj xs):=by have:=F;unfold Own at this;rwa [Bo] at this
  refine wp_append_own W s x _ ae B _ i0 _ 1 1 CG.und hi af G ag CG.zk CG.pos v xs.length (Aj xs) hs D T m c (Aj ys) hx (by rw[Bo,hm,Nat.mul_one]) ?_ (FN _) (by unfold maxLen;omega) U hB ?_
  .intro j u hj;have ab:Aj ys≠[]:=by intro e;rw[e] at hj;simp at hj
   obtain⟨b,ah,hh,_,h3⟩:=hr ab;cases hh;have:=h3 j u hj;unfold Addr.add;split
   .next X=>subst X;simpa using this
   .exact this
  .intro R w' h1 h2 _;have ac:Own w' B 5 R (Aj (xs++ys)):=by unfold Own;rw[Bo,zA,<-hm,Ew];exact h1
   obtain⟨hS,h4⟩:=h R w' ac h2;rw[hd,ha];exact hK.out _ _ hS h4
 exact X i zj
theorem SS(A:Option Addr)(c k:Nat)(bs:List UInt8)(r:Nat)(w:World)(h:Row w A (Aj bs))(q:bs.length<=1000000000)(j:k=bs.length)(u:r=Ch bs) :
  Calls prog 189 #[.slice A k c] w λe w'=>e=.returned (.int .u32 (r:Int))/\w=w':=by subst j;subst u;exact MH A c bs w h q
theorem Ux(A:Option Addr)(c:Nat)(bs:List UInt8)(w:World)(h:Row w A (Aj bs))(hc:bs.length<=c)(hl:bs.length<=1000000) :
  Calls prog 147 #[.slice A bs.length c] w (LP w (Bj bs)):=by
 have H:=J h;clear h;by_cases h3:bs.length<3
 .have Q:O (Bj bs=(0,[],0,2)):=J (by unfold Bj;rw[if_pos h3]);go_enter func147,ntmps147;exact GE
 obtain⟨b,u,x0,rfl,k0,af⟩:=H.o.byte (k:=0) U;obtain⟨b',bj,x1,bc,k1,ag⟩:=H.o.byte (k:=1) U;obtain⟨b2,bk,x2,bd,k2,T⟩:=H.o.byte (k:=2) U;cases bc;cases bd;rw[Nat.add_zero] at k0;by_cases g:x0≠65\/x1≠71\/x2=0
 .have Q:O (Bj bs=(0,[],0,3)):=J (by
   unfold Bj;rw[if_neg h3,if_pos];rw[af.o,ag.o,T.o];simpa using g)
  by_cases g0:x0=65
  .subst g0;have bh:w.cell? (Z b u)=some (.int .u8 65):=k0;by_cases g1:x1=71
   .subst g1;have bi:w.cell? (Z b (u+1))=some (.int .u8 71):=k1;have g2:x2=0:=by simpa using g
    subst g2;have bw:w.cell? (Z b (u+2))=some (.int .u8 0):=k2;clear k0 k1 k2 g;go_enter func147,ntmps147;exact GE
   .have hb:((x1.toNat:Int) != 71)=true:=He (n:=71) g1;clear k0 k2 g;go_enter func147,ntmps147;exact GE
  .have hb:((x0.toNat:Int) != 65)=true:=He (n:=65) g0;clear k1 k2 g;go_enter func147,ntmps147;exact GE
 simp only[ne_eq,not_or,Classical.not_not] at g;obtain⟨g0,g1,g2⟩:=g;subst g0 g1;have bh:w.cell? (Z b u)=some (.int .u8 65):=k0;have bi:w.cell? (Z b (u+1))=some (.int .u8 71):=k1;have bp:((x2.toNat:Int) == 0)=false:=by
  have:=He (n:=0) g2;simpa using this
 clear k0 k1;have aw:∀W,(Instr.slice 29 (.slice (some (Z b u)) bs.length c) (some (I 3)) none none).run prog W=.ok (.slice (AO (some (Z b u)) 3 c 1) (bs.length - 3) (c - 3)) W:=λW=>CG.slice_l (some (Z b u)) bs.length c 3 3 rfl U W;have R:O (Row w (AO (some (Z b u)) 3 c 1) (Aj (bs.drop 3))):=J (D3 (Elem.row_from (DZ H.o) hc 3));have z:(bs.drop 3).length=bs.length - 3:=zD;have ak:=Ek (bs.drop 3);have al:O (∀d,Az (bs.drop 3)=d->Bj bs=if d.2.2≠0 then (0,[],0,d.2.2) else if 16777216<d.1 then (0,[],0,5) else if bs.length - (3+d.2.1)<d.1+4 then (0,[],0,2) else if le4 (Ch (bs.take (3+d.2.1+d.1)))≠(bs.drop (3+d.2.1+d.1)).take 4 then (0,[],0,4) else ((x2.toNat:Int),(bs.take (3+d.2.1+d.1)).drop (3+d.2.1),3+d.2.1+d.1+4,0)):=J (by
  intro d hd;subst hd;unfold Bj A0;rw[if_neg h3,if_neg (by rw[af.o,ag.o,T.o];simpa using g2),T.o];by_cases h1:(Az (bs.drop 3)).2.2=0
  .by_cases h2:16777216<(Az (bs.drop 3)).1
   .simp[h1,h2]
   .simp only[h1,h2,ne_eq,not_true_eq_false,if_false,Option.getD_some]
  .simp[h1])
 obtain⟨⟨j,n,er⟩,hd⟩:∃r,Az (bs.drop 3)=r:=⟨_,rfl⟩;have HD:=J hd;have y:=J (al.o _ hd);rw[hd,z] at ak;clear hd al g2 af ag;simp only at ak y;obtain⟨_,br,_⟩:=ak;by_cases he:er=0;rotate_left
 .have Q:O (Bj bs=(0,[],0,er)):=J (by rw[y.o,if_pos he]);have hb:(er != 0)=true:=by simpa using he
  clear y;go_enter func147,ntmps147;go_wp2_with fail;refine(Hw _ _ _ (bs.drop 3) w R.o U z.symm).mono ?_;rintro e w' ⟨rfl,rfl⟩;rw[HD.o];unfold Ce;exact GE
 subst he;replace y:=J (y.o.trans (if_neg zj));by_cases hu:16777216<j
 .have Q:O (Bj bs=(0,[],0,5)):=J (by rw[y.o,if_pos hu]);have ao:decide ((16777216:Int)<(j:Int))=true:=decide_eq_true U;clear y;go_enter func147,ntmps147;go_wp2_with fail;refine(Hw _ _ _ (bs.drop 3) w R.o U z.symm).mono ?_;rintro e w' ⟨rfl,rfl⟩;rw[HD.o];unfold Ce;exact GE
 have bq:decide ((16777216:Int)<(j:Int))=false:=decide_eq_false U;replace y:=J (y.o.trans (if_neg hu));have bv:IntKind.i64.wrap (j:Int)=(j:Int):=IntWalk.i64_in _ U;by_cases hs:bs.length - (3+n)<j+4
 .have Q:O (Bj bs=(0,[],0,2)):=J (by rw[y.o,if_pos hs]);have ao:decide ((bs.length:Int) - (3+(n:Int))<(j:Int)+4)=true:=zm;clear y;go_enter func147,ntmps147;go_wp2_with fail;refine(Hw _ _ _ (bs.drop 3) w R.o U z.symm).mono ?_;rintro e w' ⟨rfl,rfl⟩;rw[HD.o];unfold Ce;exact GE
 have ao:decide ((bs.length:Int) - (3+(n:Int))<(j:Int)+4)=false:=zm;have au:∀W,(Instr.slice 29 (.slice (some (Z b u)) bs.length c) none (some (I (3+(n:Int)+(j:Int)))) none).run prog W=.ok (.slice (some (Z b u)) (3+n+j) c) W:=λW=>CG.slice_h (some (Z b u)) bs.length c (3+n+j) _ U U W;have av:∀W,(Instr.slice 29 (.slice (some (Z b u)) bs.length c) (some (I (3+(n:Int)+(j:Int)))) (some (I (3+(n:Int)+(j:Int)+4))) none).run prog W=.ok (.slice (AO (some (Z b u)) (3+n+j) c 1) 4 (c - (3+n+j))) W:=λW=>by
  have:=CG.slice_lh (some (Z b u)) bs.length c (3+n+j) (3+n+j+4) (3+(n:Int)+(j:Int)) (3+(n:Int)+(j:Int)+4) U U U U W;rw[show 3+n+j+4 - (3+n+j)=4 by omega] at this;exact this
 have ab:∀W,V w W->(convert 29 9 (.slice (AO (some (Z b u)) (3+n+j) c 1) 4 (c - (3+n+j)))).run prog W=.ok (.string (Ah ((bs.drop (3+n+j)).take 4))) W:=λW hW=>
  EZ _ _ (D3 (by have:=Elem.row_sub (DZ (H.o.ext hW)) hc (3+n+j) (3+n+j+4);rw[List.drop_take,show 3+n+j+4 - (3+n+j)=4 by omega] at this;exact this)) (by rw[zT,zD];omega)
 have bt:IntKind.i64.wrap (3+(n:Int)+(j:Int)+4)=3+(n:Int)+(j:Int)+4:=IntWalk.i64_in _ U;have bg:∀W,V w W->W.cell? (Z b (u+2))=some (.int .u8 (x2.toNat:Int)):=λW hW=>by
  obtain⟨b3,bl,x3,be,k3,ba⟩:=(H.o.ext hW).byte (k:=2) U;cases be;have:=ba.o.symm.trans T.o;cases this;exact k3
 have ai:O (Row w (AO (some (Z b u)) (3+n) c 1) (Aj ((bs.take (3+n+j)).drop (3+n)))):=J (D3 (Elem.row_sub (DZ H.o) hc (3+n) (3+n+j)));have ax:∀W,(Instr.slice 29 (.slice (some (Z b u)) bs.length c) (some (I (3+(n:Int)))) (some (I (3+(n:Int)+(j:Int)))) none).run prog W=.ok (.slice (AO (some (Z b u)) (3+n) c 1) j (c - (3+n))) W:=λW=>by
  have:=CG.slice_lh (some (Z b u)) bs.length c (3+n) (3+n+j) (3+(n:Int)) (3+(n:Int)+(j:Int)) U U U U W;rw[show 3+n+j - (3+n)=j by omega] at this;exact this
 have bf:O (Row w (some (Z b u)) (Aj (bs.take (3+n+j)))):=J (D3 (Elem.row_upto (DZ H.o) _));obtain⟨X,aj⟩:∃k,k=Ch (bs.take (3+n+j)):=⟨_,rfl⟩;have az:=J aj;rw[<-aj] at y;clear aj;go_enter func147,ntmps147;go_wp2_with fail;refine(Hw _ _ _ (bs.drop 3) w R.o U z.symm).mono ?_;rintro e w' ⟨rfl,rfl⟩;rw[HD.o];unfold Ce;go_upto_region 14 with fail;refine eD 13 (V.refl _) λD=>?_;refine eb 0 ?_;refine ea 2 ?_;refine ec 6 ?_;refine ea 10 ?_;refine ea 11 ?_ (hy:=λw9 hS=>by have G:=ab w9 hS;go_simp<;>with_reducible rfl);refine eI 3 (SS (some (Z b u)) c (3+n+j) (bs.take (3+n+j)) X _ (bf.o.ext D) (by rw[zT];omega) (by rw[zT];omega) az.o) ?_;refine eE 4 (OH X _) ?_;rintro _ w2 ⟨A2,c2,rfl,bm,bn,aq,hx⟩;have am:=J aq.row;refine⟨_,rfl,D.trans hx,λD=>?_⟩;have XE:=J D;have ac:∀W,V w2 W->(convert 29 9 (.slice A2 (le4 X).length c2)).run prog W=.ok (.string (Ah (le4 X))) W:=λW x=>EZ _ _ (am.o.ext x) rfl;clear hx aq D;refine E_strong (V w2) (λW x=>XE.o.trans x) (V.refl _) (λD=>?_);refine ea 5 ?_ (hy:=λw9 hS=>by have G:=ac w9 hS;go_simp<;>with_reducible rfl);refine ea 12 ?_;refine eA ?_;clear D ab ac am au av aw;by_cases F:le4 X=(bs.drop (3+n+j)).take 4
 .have G:Ah (le4 X)=Ah ((bs.drop (3+n+j)).take 4):=by rw[F]
  have K:(!((Ah (le4 X)).toList == (Ah ((bs.drop (3+n+j)).take 4)).toList))=false:=by rw[E8,E8];rw[Hd] at G;simpa using G
  clear G;rw[K];clear K;have Q:O (Bj bs=((x2.toNat:Int),(bs.take (3+n+j)).drop (3+n),3+n+j+4,0)):=J (by rw[y.o,if_neg hs,if_neg (by simpa using F)]);clear y F;have bo:(2:Int)<(bs.length:Int):=U;have bu:IntKind.i64.wrap (x2.toNat:Int)=(x2.toNat:Int):=IntWalk.i64_in _ (by have:=x2.toNat_lt;omega);obtain⟨BD,ah⟩:∃l,l=(bs.take (3+n+j)).drop (3+n):=⟨_,rfl⟩;have ay:O (j=BD.length):=J (by rw[ah,zD,zT];omega);rw[<-ah] at ai Q;clear ah;obtain⟨ad,ar⟩:∃ad,AO (some (Z b u)) (3+n) c 1=some ad:=by unfold AO;split;exact⟨_,rfl⟩;exact⟨_,rfl⟩
  rw[ar] at ax ai;clear ar;go_upto_region 16 with fail;refine eD 15 XE.o λD=>?_;refine eb 0 ?_;refine ea 2 ?_ (hy:=λw9 hS=>by have G:=bg w9 hS;go_simp<;>with_reducible rfl);refine ea 3 ?_;refine ec 5 ?_;refine eb 10 ?_;refine eF 4 ?_;refine eJ 4 (d:=some 73) (w':=(w2.drew.alloc (.cells #[] 5))) (D.trans (V.new _ _)) λD=>?_;have ae:O (Own (w2.drew.alloc (.cells #[] 5)) w.heap.size 5 (.slice (some (Z w2.drew.heap.size 0)) 0 0) (Aj [])):=J ⟨rfl,.inr ⟨w2.drew.heap.size,0,#[],rfl,XE.o.size,BIs.new _ _ _,zR _,zO _,rfl,rfl⟩⟩;generalize (w2.drew.alloc (.cells #[] 5))=v3 at *;refine eF 9 ?_;refine A_b 9 78 (.tmp 73) (.tmp 77) rfl rfl rfl rfl v3 w.heap.size _ [] zi ad j (c - (3+n)) BD zi ay.o (ai.o.ext D) ae.o (by simp only[List.length_nil];omega) D.size ?_;intro v4 w4 aa ap;rw[List.nil_append] at aa;have XA:V w w4:=ap.below D D.size (λq G=>(ae.o.lt q G).1);obtain⟨A4,c4,e4,an,bb,_⟩:=aa.slice;rw[Bo] at e4 an;subst e4;have a9:=J aa;clear D ae ap aa;refine⟨XA,λD=>?_⟩;clear XA;refine eb 12 ?_;refine ea 14 ?_;refine eH ?_;have X4:=J D;clear D;go_wp2;(try simp only[Exit.inBlock,Exit.then]);refine bodyPost_ret (GL rfl _ _ _) rfl ?_
  rw[Q.o];exact⟨A4,c4,zj,an,bb,a9.o,X4.o⟩
 have G:¬Ah (le4 X)=Ah ((bs.drop (3+n+j)).take 4):=by rw[Hd];exact F
 have K:(!((Ah (le4 X)).toList == (Ah ((bs.drop (3+n+j)).take 4)).toList))=true:=by rw[E8,E8];rw[Hd] at G;simpa using G
 clear G;rw[K];clear K;have Q:O (Bj bs=(0,[],0,4)):=J (by rw[y.o,if_neg hs,if_pos F]);clear y F;go_wp2;(try simp only[Exit.inBlock,Exit.then]);refine bodyPost_ret (GL rfl _ _ _) rfl ?_
 exact Jr _ Q.o XE.o
theorem Dz{bs:List UInt8}{p:Int}(h:p<=bs.length):(AT bs p).2<=bs.length/\0<=(AT bs p).1:=by
 have j:=(Ek (bs.drop p.toNat)).2.1;rw[zD] at j;unfold AT;split
 .exact⟨by simp only;omega,Int.le_refl _⟩
 .split
  .exact⟨by simp only;omega,Int.le_refl _⟩
  .exact⟨by simp only;omega,by simp only;omega⟩
theorem PB{bs:List UInt8}{p:Int}(h:p<=bs.length):(CO bs p).2<=bs.length/\(CO bs p).1.length<=6000:=by
 have j:=JC (bs.drop p.toNat) 6000;have q:=XK (bs.drop p.toNat) 6000;rw[zD] at j;unfold CO;split
 .exact⟨by simp only;omega,zj⟩
 .split
  .exact⟨by simp only;omega,zj⟩
  .exact⟨by simp only;omega,q⟩
theorem DS(A:Option Addr)(c:Nat)(bs:List UInt8)(p a q:Int)(w:World)(h:Row w A (Aj bs))(j:bs.length<=c)(z:bs.length<=1000000)(u:p<=bs.length)(y:AT bs p=(a,q)) :
  Calls prog 148 #[.slice A bs.length c,I p] w λe w'=>e=.returned (.tuple #[I a,I q])/\w=w':=by
 have:=SX A c bs p w h j U u;rw[y] at this;exact this
theorem Qp(A:Option Addr)(c:Nat)(bs:List UInt8)(p q:Int)(a:List UInt8)(w:World)(h:Row w A (Aj bs))(j:bs.length<=c)(z:bs.length<=1000000)(u:p<=bs.length)(y:CO bs p=(a,q)) :
  Calls prog 149 #[.slice A bs.length c,I p] w λe w'=>e=.returned (.tuple #[.string (Ah a),I q])/\w=w':=by
 have:=TC A c bs p w h j U u;rw[y] at this;exact this
def Lw(w:World)(r:List Ent×Int)(en:Ending)(w':World):Prop:=
 ∃(A:Option Addr) (c:Nat),en=.returned (.tuple #[.slice A r.1.length c,I r.2])/\r.1.length<=c/\c<=maxLen/\Row w' A (Aa.cells r.1)/\NewAt w.heap.size A (Aa.cells r.1)/\V w w'
theorem Jy{w w':World}{r:List Ent×Int}{B:Nat}{A:Option Addr}{c:Nat}{l:List Ent}{q:Int}(F:r=(l,q))(h:Aa.OB w' B (.slice A l.length c) l)(z:w.heap.size<=B)(x:V w w'):Lw w r (.returned (.tuple #[.slice A l.length c,I q])) w':=by
 subst F;obtain⟨G,K,D,j,u,y⟩:=h.1.slice;cases D;exact⟨A,c,rfl,j,u,y,h.1.newAt z,x⟩
theorem UK(A:Option Addr)(c:Nat)(bs:List UInt8)(p:Int)(w:World)(h:Row w A (Aj bs))(hc:bs.length<=c)(hl:bs.length<=1000000)(hp:p<=bs.length) :
  Calls prog 150 #[.slice A bs.length c,I p] w (Lw w (Dr bs p)):=by
 have H:=J h;clear h;obtain⟨R,hR⟩:∃r,r=Dr bs p:=⟨_,rfl⟩;have HR:=J hR;rw[<-hR];clear hR;obtain⟨⟨n1,p1⟩,hn⟩:∃r,AT bs p=r:=⟨_,rfl⟩;have HN:=J hn;have ad:=Dz hp;rw[hn] at ad;simp only at ad;clear hn;by_cases G:p1<0
 .have hd:decide (p1<0)=true:=decide_eq_true G;go_enter func150,ntmps150;go_wp2_with (first
   | (go_at_call 148
      refine(DS A c bs p n1 p1 _ H.o hc hl hp HN.o).mono ?_;rintro e w2 ⟨rfl,rfl⟩))
  go_ret2
  exact Jy (by rw[HR.o];unfold Dr;rw[HN.o,if_pos (.inl G)]) (Elem.OB.nil w w.heap.size) (zR _) (V.refl _)
 have hd:decide (p1<0)=false:=decide_eq_false G;by_cases F:2000<n1
 .have ai:decide ((2000:Int)<n1)=true:=decide_eq_true F;go_enter func150,ntmps150;go_wp2_with (first
   | (go_at_call 148
      refine(DS A c bs p n1 p1 _ H.o hc hl hp HN.o).mono ?_;rintro e w2 ⟨rfl,rfl⟩))
  go_ret2
  exact Jy (by rw[HR.o];unfold Dr;rw[HN.o,if_pos (.inr F)]) (Elem.OB.nil w w.heap.size) (zR _) (V.refl _)
 have ai:decide ((2000:Int)<n1)=false:=decide_eq_false F;obtain⟨n,rfl⟩:∃n:Nat,n1=(n:Int):=⟨n1.toNat,U⟩;have az:n<=2000:=U;have ao:=ad.1;have ar:O (FZ bs n p1 []=R):=J (by rw[HR.o];unfold Dr;rw[HN.o,if_neg (by simp only[not_or];exact⟨G,F⟩)];rfl);clear G F ad;go_enter func150,ntmps150;go_wp2_with (first
  | (go_at_call 148
     refine(DS A c bs p (n:Int) p1 _ H.o hc hl hp HN.o).mono ?_;rintro e w2 ⟨rfl,rfl⟩))
 clear hd ai;go_loopw [1,7,8] (λt s i wr=>∃(k:Nat) (q:Int) (A':Option Addr) (c':Nat) (out:List Ent),k<=n/\t=I q/\s=.slice A' out.length c'/\i=I k/\out.length<=k/\q<=(bs.length:Int)/\O (FZ bs (n - k) q out=R)/\O (Aa.OB wr w.heap.size (.slice A' out.length c') out)/\O (V w wr)) (λ_ _ i _=>n - (intOf i).toNat)
 case atStart=>exact⟨0,p1,none,0,[],zO _,rfl,rfl,rfl,zR _,ao,ar,J (Elem.OB.nil _ _),J (V.refl _)⟩
 case round=>
  obtain⟨k,q,A1,c1,out,hk,rfl,rfl,rfl,a9,hq,HE,HO,W⟩:=hrel;obtain⟨j,rfl⟩:∃x,x=wr:=⟨wr,rfl⟩;by_cases ay:k<n;rotate_left
  .have aw:n - k=0:=U;have au:decide ((k:Int)<(n:Int))=false:=decide_eq_false U;rw[aw] at HE;go_wp2;go_ret2
   exact Jy HE.o.symm HO.o (zR _) W.o
  have au:decide ((k:Int)<(n:Int))=true:=decide_eq_true U;obtain⟨m,hm⟩:∃m,n - k=m+1:=⟨n - k - 1,U⟩;have HM:=J hm;rw[hm] at HE;clear hm;by_cases af:q<0
  .have av:decide ((0:Int)<=q)=false:=decide_eq_false U;go_wp2;go_ret2
   exact Jy (by rw[<-HE.o];show (if q<0 then _ else _)=_;rw[if_pos af]) HO.o (zR _) W.o
  have av:decide ((0:Int)<=q)=true:=decide_eq_true U;obtain⟨⟨a1,q1⟩,X⟩:∃r,AT bs q=r:=⟨_,rfl⟩;have E1:=J X;have K:=(Dz hq).1;have ak:=(Dz hq).2;rw[X] at K ak;simp only at K ak;obtain⟨⟨a2,q2⟩,aa⟩:∃r,AT bs q1=r:=⟨_,rfl⟩;have E2:=J aa;have Q:=(Dz K).1;have al:=(Dz K).2;rw[aa] at Q al;simp only at Q al;obtain⟨⟨a3,q3⟩,ab⟩:∃r,AT bs q2=r:=⟨_,rfl⟩;have E3:=J ab;have T:=(Dz Q).1;have am:=(Dz Q).2;rw[ab] at T am;simp only at T am;obtain⟨⟨D,q4⟩,ac⟩:∃r,CO bs q3=r:=⟨_,rfl⟩;have E4:=J ac;have ag:=(PB T).1;have an:=(PB T).2;rw[ac] at ag an;simp only at ag an;have ap:O (FZ bs m q4 (out++[⟨a1,a2,a3,D⟩])=R):=J (by rw[<-HE.o];show _=(if q<0 then _ else _);rw[if_neg af];unfold GF;simp only[X,aa,ab,ac]);clear X aa ab ac af HE;go_upto_region 9 with fail;have z:O (V j (j.alloc (.cells #[I 0,I 0,I 0,.string ⟨#[]⟩] 66))):=J (V.new _ _);have y:O (BIs (j.alloc (.cells #[I 0,I 0,I 0,.string ⟨#[]⟩] 66)) j.heap.size #[I 0,I 0,I 0,.string ⟨#[]⟩] 66):=J (BIs.new _ _ _);generalize (j.alloc (.cells #[I 0,I 0,I 0,.string ⟨#[]⟩] 66))=v0 at *;have hf:=y.o.free 0;obtain⟨r0,r1,r2,r3⟩:=y.o.n4 _ (V.refl _);go_upto_region 10 with (first
   | (go_at_call 148
      refine(DS A c bs q a1 q1 _ (H.o.ext (W.o.trans z.o)) hc hl hq E1.o).mono ?_;rintro e w9 ⟨rfl,rfl⟩))
  have u:O (BIs (v0.setCell (Y j 0) (I a1)) j.heap.size #[I a1,I 0,I 0,.string ⟨#[]⟩] 66):=J (y.o.set 0 _);replace z:O (V j (v0.setCell (Y j 0) (I a1))):=J (z.o.set (p:=(Y j 0)) (zR _) (I a1));clear y hf r0 r1 r2 r3;have y:=u;clear u;generalize (v0.setCell (Y j 0) (I a1))=v1 at *;have hf:=y.o.free 1;obtain⟨r0,r1,r2,r3⟩:=y.o.n4 _ (V.refl _);go_upto_region 11 with (first
   | (go_at_call 148
      refine(DS A c bs q1 a2 q2 _ (H.o.ext (W.o.trans z.o)) hc hl K E2.o).mono ?_;rintro e w9 ⟨rfl,rfl⟩))
  have u:O (BIs (v1.setCell (Y j 1) (I a2)) j.heap.size #[I a1,I a2,I 0,.string ⟨#[]⟩] 66):=J (y.o.set 1 _);replace z:O (V j (v1.setCell (Y j 1) (I a2))):=J (z.o.set (p:=(Y j 1)) (zR _) (I a2));clear y hf r0 r1 r2 r3;have y:=u;clear u;generalize (v1.setCell (Y j 1) (I a2))=v2 at *;have hf:=y.o.free 2;obtain⟨r0,r1,r2,r3⟩:=y.o.n4 _ (V.refl _);go_upto_region 12 with (first
   | (go_at_call 148
      refine(DS A c bs q2 a3 q3 _ (H.o.ext (W.o.trans z.o)) hc hl Q E3.o).mono ?_;rintro e w9 ⟨rfl,rfl⟩))
  have u:O (BIs (v2.setCell (Y j 2) (I a3)) j.heap.size #[I a1,I a2,I a3,.string ⟨#[]⟩] 66):=J (y.o.set 2 _);replace z:O (V j (v2.setCell (Y j 2) (I a3))):=J (z.o.set (p:=(Y j 2)) (zR _) (I a3));clear y hf r0 r1 r2 r3;have y:=u;clear u;generalize (v2.setCell (Y j 2) (I a3))=v3 at *;have hf:=y.o.free 3;obtain⟨r0,r1,r2,r3⟩:=y.o.n4 _ (V.refl _);go_upto_region 13 with (first
   | (go_at_call 149
      refine(Qp A c bs q3 q4 D _ (H.o.ext (W.o.trans z.o)) hc hl T E4.o).mono ?_;rintro e w9 ⟨rfl,rfl⟩))
  have u:O (BIs (v3.setCell (Y j 3) (.string (Ah D))) j.heap.size #[I a1,I a2,I a3,.string (Ah D)] 66):=J (y.o.set 3 _);replace z:O (V j (v3.setCell (Y j 3) (.string (Ah D)))):=J (z.o.set (p:=(Y j 3)) (zR _) (.string (Ah D)));clear y hf r0 r1 r2 r3;have y:=u;clear u;generalize (v3.setCell (Y j 3) (.string (Ah D)))=v4 at *;obtain⟨r0,r1,r2,r3⟩:=y.o.n4 _ (V.refl _);go_wp2_with (first
   | (at_builtin
      have ah:O (Row (v4.alloc (.cells #[I a1,I a2,I a3,.string (Ah D)] 66)) (some (Y v4 0)) (Aa.cells [⟨a1,a2,a3,D⟩])):=J (DL ⟨a1,a2,a3,D⟩ v4);refine By Aa rfl (.tmp 59) (.tmp 61) rfl _ w.heap.size _ out zi _ 1 1 [⟨a1,a2,a3,D⟩] zi rfl ah.o (HO.o.ext (z.o.trans (V.new _ _))) D1 U (W.o.trans (z.o.trans (V.new _ _))).size ?_;intro v6 w6 ae aj ax;have X6:O (V w w6):=J (aj.below (W.o.trans (z.o.trans (V.new _ _))) (W.o.trans (z.o.trans (V.new _ _))).size (λx hx=>(HO.o.1.lt x hx).1));obtain⟨A6,c6,rfl,_,_,_⟩:=ae.slice;have aq:=J ae;clear ae aj ax ah))
  go_roundw
  case rel=>exact⟨k+1,q4,A6,c6,out++[⟨a1,a2,a3,D⟩],U,rfl,zj,by go_num,by simp only[zA,zK,List.length_nil];omega,ag,J (by rw[<-ap.o,show n - (k+1)=m by have:=HM.o;omega]),aq,X6⟩
  case measure=>simp[intOf];omega
end Go.Proofs.YtponbabbabnaeaaGreat
