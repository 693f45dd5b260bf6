/- Part 10: contracts of functions. Conditions: as each theorem says. -/
import Derived.Test.YtponbabbabnaeaaGreatQh09
set_option maxRecDepth 100000
set_option maxHeartbeats 40000000
set_option linter.unusedVariables false
namespace Go.Proofs.YtponbabbabnaeaaGreat
open Tryz
open Go.RowKit
theorem Qw{P:Prop}(h:P:=by
 have br:j=Bp G:=by have:=am.o;omega
 subst br;go_wp2;go_end0;first|exact⟨A,c,rfl,Q.o,ac.o,X.o,ad.o⟩|exact⟨rfl,A,c,Q.o,ac.o,X.o,ad.o⟩):P:=h
theorem Fr(s:St)(j:Nat):(AI s j).length=s.log.length+j:=by unfold AI;simp
theorem Np(s:St)(j:Nat):AI s (j+1)=AI s j++[⟨s.base,s.self,Aq s.log s.self+1+j,Do s (Aq s.log s.self+1+j)⟩]:=by
 unfold AI;rw[List.range_succ,List.map_append,List.append_assoc];rfl
theorem Vg(b:BM)(ex:Array Value)(A:Option Addr)(c:Nat)(l:List Ent):(b.cells++ex).setIfInBounds 3 (.slice A l.length c)=({b with Al:=A,cl:=c,log:=l}:BM).cells++ex:=by
 apply Array.ext';simp
theorem BIs.app{w:World}{p:Nat}{b:BM}{ex:Array Value}{t:TypeId}(h:BIs w p (b.cells++ex) t)(i:Nat)(j:i<9):w.cell? (Z p i)=b.cells[i]?:=by
 rw[h.cell,Array.getElem?_append_left (by simpa using j)]
theorem OZ(b:BM)(ex:Array Value)(t:TypeId)(p B:Nat)(col:Nat->Nat)(w:World)(hb:BIs w p (b.cells++ex) t)(bv:col p=1)(bo:B<=p)(hl:b.Lies w B col)(hf:b.Fits)
  (ho:(Aq b.log b.self:Int)<=b.sent) (hs:b.sent<=1099511627776) (bw:b.sent - Aq b.log b.self<=b.pend.length) (bt:b.log.length<=2000) :
  Calls prog 42 #[.pointer (some (Z p 0))] w λen w'=>∃A c,en=.returned (.tuple #[])/\BIs w' p (({b with Al:=A,cl:=c,log:=AI b.st (Bp b.st)}:BM).cells++ex) t/\
   Aa.Own w' B (.slice A (AI b.st (Bp b.st)).length c) (AI b.st (Bp b.st))/\ColV (As col w.heap.size 2) 2 (.slice A (AI b.st (Bp b.st)).length c)/\Stp B [1,2] col w (As col w.heap.size 2) w':=by
 obtain⟨G,ab⟩:∃s,s=b.st:=⟨_,rfl⟩;rw[<-ab];have ap:G.log=b.log:=by rw[ab];rfl
 have aq:G.sent=b.sent:=by rw[ab];rfl
 have ao:G.self=b.self:=by rw[ab];rfl
 have an:G.base=b.base:=by rw[ab];rfl
 have ar:G.pend=b.pend:=by rw[ab];rfl
 have bx:=hf.pend;have q0:=hb.app 0 zd;have q3:=hb.app 3 zd;have ax:p<w.heap.size:=hb.lt;have bg:=J hb;have HL:=J hl;clear hb hl hf ab;obtain⟨self,base,y,u,Av,cv,vs,Al,cl,log,Ap,cp,F,Am,cm,D,Af,cf,T⟩:=b;simp only at ho hs bw bt ap aq ao an ar bx;have af:=J ap;have a9:=J aq;have az:=J ao;have bl:=J an;have bm:=J ar;replace q0:w.cell? (Z p 0)=some (I self):=q0;replace q3:w.cell? (Z p 3)=some (.slice Al log.length cl):=q3;clear ap aq ao an ar;have bz:IntKind.i64.wrap ((Aq log self:Int)+1)=(Aq log self:Int)+1:=IntWalk.i64_in _ U;go_enter func42,ntmps42;go_wp2;refine eC 11 (λw'=>w'.cell? (Z p 0)=some (I self)/\w'.cell? (Z p 3)=some (.slice Al log.length cl)) ⟨by simpa using q0,by simpa using q3⟩ (λyH=>?_);refine ec 0 ?_;refine ec 4 ?_;refine eB 8 λK hK=>?_;go_simp;go_at_call 91;refine(Em Al cl log self _ (HL.o.log.row.ext zW) U).mono ?_;rintro en W ⟨rfl,ae⟩;have X1:O (V w W):=J (zW.trans ae);clear ae;have k0:W.cell? (Z p 0)=some (I self):=by rw[X1.o.cell (by exact ax)];exact q0
 have k3:W.cell? (Z p 3)=some (.slice Al log.length cl):=by rw[X1.o.cell (by exact ax)];exact q3
 clear yH;refine hK.out _ _ ⟨k0,k3⟩ (λyH=>?_);clear hK K;try simp only[Act.put,Au,Aw,Ay]
 refine eb 9 ?_;refine eA ?_;go_wp2;clear yH k0 k3 q0 q3 bz;go_loopw [2] (λsq wr=>∃(j:Nat) (A:Option Addr) (c:Nat),sq=I ((Aq log self:Int)+1+(j:Int))/\j<=Bp G/\O (BIs wr p ((⟨self,base,y,u,Av,cv,vs,A,c,AI G j,Ap,cp,F,Am,cm,D,Af,cf,T⟩:BM).cells++ex) t)/\
   O (Aa.Own wr B (.slice A (AI G j).length c) (AI G j))/\O (ColV (As col w.heap.size 2) 2 (.slice A (AI G j).length c))/\O (Stp B [1,2] col w (As col w.heap.size 2) wr)) (λsq _=>(u+1 - intOf sq).toNat)
 case atStart=>
  have au:AI G 0=log:=by unfold AI;rw[af.o];simp
  have be:Stp B [1,2] col w (As col w.heap.size 2) W:=Stp.ext U X1.o (λk hk=>AV hk);refine⟨0,Al,cl,zj,zO _,J ?_,J ?_,J ?_,J be⟩
  .rw[au];exact bg.o.ext X1.o
  .rw[au];exact HL.o.log.ext X1.o
  .rw[au];exact be.colV HL.o.log HL.o.lc
 case round=>
  obtain⟨j,A,c,rfl,hj,Q,ac,X,ad⟩:=hrel;have al:O ((AI G j).length=log.length+j):=J (by rw[Fr,af.o]);have am:O (Bp G=min (u - Aq log self).toNat (2000 - log.length)):=J (by unfold Bp;rw[af.o,a9.o,az.o]);have q0:wr.cell? (Z p 0)=some (I self):=Q.o.app 0 zd;have q1:wr.cell? (Z p 1)=some (.slice Av vs.length cv):=Q.o.app 1 zd;have q2:wr.cell? (Z p 2)=some (I base):=Q.o.app 2 zd;have q3:wr.cell? (Z p 3)=some (.slice A (AI G j).length c):=Q.o.app 3 zd;have q4:wr.cell? (Z p 4)=some (I y):=Q.o.app 4 zd;have q5:wr.cell? (Z p 5)=some (I u):=Q.o.app 5 zd;have q6:wr.cell? (Z p 6)=some (.slice Ap F.length cp):=Q.o.app 6 zd;have q7:wr.cell? (Z p 7)=some (.slice Am D.length cm):=Q.o.app 7 zd;have q8:wr.cell? (Z p 8)=some (.slice Af T.length cf):=Q.o.app 8 zd;have z:p<wr.heap.size:=Q.o.lt;have b4:(j:Int)<=u - Aq log self:=by have:=am.o;omega
  by_cases av:(Aq log self:Int)+1+(j:Int)<=u
  .by_cases b3:log.length+j<2000
   .have bb:decide ((Aq log self:Int)+1+(j:Int)<=u)=true:=by simpa using av
    have bp:decide (((AI G j).length:Int)<2000)=true:=by have:=al.o;simp;omega
    have ag:O (B<=wr.heap.size):=J U;have aa:O (As col w.heap.size 2 p=1):=J (by rw[AV ax];exact bv);have bh:O ((⟨self,base,y,u,Av,cv,vs,A,c,AI G j,Ap,cp,F,Am,cm,D,Af,cf,T⟩:BM).Lies wr B (As col w.heap.size 2)):=J (HL.o.relog ad.o zj zj zj zj ac.o X.o);obtain⟨ix,bq⟩:∃ix:Nat,(F.length:Int) - 1 - (u - ((Aq log self:Int)+1+(j:Int)))=(ix:Int):=⟨((F.length:Int) - 1 - (u - ((Aq log self:Int)+1+(j:Int)))).toNat,U⟩;obtain⟨pl,ah⟩:∃pl,F[ix]?=some pl:=⟨_,zY U⟩;have ay:=J ah;have bi:O (AI G (j+1)=AI G j++[⟨base,self,(Aq log self:Int)+1+(j:Int),pl⟩]):=J (by
     rw[Np,bl.o,az.o,af.o];congr 3;unfold Do;rw[bm.o,a9.o,bq];simp[ay.o])
    have b5:IntKind.i64.wrap ((Aq log self:Int)+1+(j:Int)+1)=(Aq log self:Int)+1+(j:Int)+1:=IntWalk.i64_in _ U;have bn:=Q.o.free 3;clear ah;go_wp2;refine eC 22 (λw'=>w'.cell? (Z p 0)=some (I self)/\w'.cell? (Z p 1)=some (.slice Av vs.length cv)/\w'.cell? (Z p 2)=some (I base)/\w'.cell? (Z p 3)=some (.slice A (AI G j).length c)/\w'.cell? (Z p 4)=some (I y)/\w'.cell? (Z p 5)=some (I u)/\w'.cell? (Z p 6)=some (.slice Ap F.length cp)/\w'.cell? (Z p 7)=some (.slice Am D.length cm)/\w'.cell? (Z p 8)=some (.slice Af T.length cf)) ⟨by simpa using q0,by simpa using q1,by simpa using q2,by simpa using q3,by simpa using q4,by simpa using q5,by simpa using q6,by simpa using q7,by simpa using q8⟩ (λyH=>?_);refine ec 0 ?_;refine ec 4 ?_;refine ec 8 ?_;refine ec 12 ?_;refine eb 16 ?_;refine eB 18 λK hK=>?_;go_simp;go_at_call 112;refine(Nw ⟨self,base,y,u,Av,cv,vs,A,c,AI G j,Ap,cp,F,Am,cm,D,Af,cf,T⟩ y Ap ((Aq log self:Int)+1+(j:Int)) ix pl _ rfl (bh.o.reads.ext zW) (by simp only;omega) ⟨by simp only;omega,by simp only;omega⟩ ⟨U,U⟩ (by simp only;omega) (by exact ay.o)).mono ?_;rintro en W ⟨rfl,ae⟩;have X1:O (V wr W):=J (zW.trans ae);clear ae;have r0:W.cell? (Z p 0)=some (I self):=by rw[X1.o.cell (by exact z)];exact q0
    have r1:W.cell? (Z p 1)=some (.slice Av vs.length cv):=by rw[X1.o.cell (by exact z)];exact q1
    have r2:W.cell? (Z p 2)=some (I base):=by rw[X1.o.cell (by exact z)];exact q2
    have r3:W.cell? (Z p 3)=some (.slice A (AI G j).length c):=by rw[X1.o.cell (by exact z)];exact q3
    have r4:W.cell? (Z p 4)=some (I y):=by rw[X1.o.cell (by exact z)];exact q4
    have r5:W.cell? (Z p 5)=some (I u):=by rw[X1.o.cell (by exact z)];exact q5
    have r6:W.cell? (Z p 6)=some (.slice Ap F.length cp):=by rw[X1.o.cell (by exact z)];exact q6
    have r7:W.cell? (Z p 7)=some (.slice Am D.length cm):=by rw[X1.o.cell (by exact z)];exact q7
    have r8:W.cell? (Z p 8)=some (.slice Af T.length cf):=by rw[X1.o.cell (by exact z)];exact q8
    clear yH;refine hK.out _ _ ⟨r0,r1,r2,r3,r4,r5,r6,r7,r8⟩ (λyH=>?_);clear hK K;try simp only[Act.put,Au,Aw,Ay]
    refine ea 19 ?_;refine eB 20 λK hK=>?_;go_simp;generalize hQ:W.alloc (.cells #[I base,I self,I ((Aq log self:Int)+1+(j:Int)),.string (Ah pl)] 66)=w2 at *;have R:O (V wr w2):=(by subst hQ;exact X1.o.t (V.new _ _));have bj:O (Row w2 (some (Y W 0)) (Aa.cells [⟨base,self,(Aq log self:Int)+1+(j:Int),pl⟩])):=(by subst hQ;exact J (DL ⟨base,self,(Aq log self:Int)+1+(j:Int),pl⟩ W));clear hQ;have s0:w2.cell? (Z p 0)=some (I self):=by rw[R.o.cell (by exact z)];exact q0
    have s1:w2.cell? (Z p 1)=some (.slice Av vs.length cv):=by rw[R.o.cell (by exact z)];exact q1
    have s2:w2.cell? (Z p 2)=some (I base):=by rw[R.o.cell (by exact z)];exact q2
    have s3:w2.cell? (Z p 3)=some (.slice A (AI G j).length c):=by rw[R.o.cell (by exact z)];exact q3
    have s4:w2.cell? (Z p 4)=some (I y):=by rw[R.o.cell (by exact z)];exact q4
    have s5:w2.cell? (Z p 5)=some (I u):=by rw[R.o.cell (by exact z)];exact q5
    have s6:w2.cell? (Z p 6)=some (.slice Ap F.length cp):=by rw[R.o.cell (by exact z)];exact q6
    have s7:w2.cell? (Z p 7)=some (.slice Am D.length cm):=by rw[R.o.cell (by exact z)];exact q7
    have s8:w2.cell? (Z p 8)=some (.slice Af T.length cf):=by rw[R.o.cell (by exact z)];exact q8
    clear yH;refine hK.out _ _ ⟨s0,s1,s2,s3,s4,s5,s6,s7,s8⟩ (λyH=>?_);clear hK K;try simp only[Act.put,Au,Aw,Ay]
    refine eB 21 λK hK=>?_;refine Ia Aa rfl (.tmp 33) (.tmp 49) rfl w2 B _ (AI G j) zi _ 1 1 [⟨base,self,(Aq log self:Int)+1+(j:Int),pl⟩] zi rfl bj.o zd ⟨ac.o.ext R.o,λ_ _=>⟨trivial,λr hr=>by simp[Aa] at hr⟩⟩ Ir (by have:=al.o;omega) (by have:=R.o.size;have:=ag.o;omega) ?_;intro v3 w3 bc aw bd;have ak:=J bc.1;have aj:=J aw;have bk:=J bd;have Y3:O (∀i,w3.cell? (Z p i)=w2.cell? (Z p i)):=J (λi=>G8 aw (by have:=R.o.size;omega) (λk hk=>by have:=X.o k hk;intro e;subst e;rw[aa.o] at this;cases this));clear bc aw bd;have u0:w3.cell? (Z p 0)=some (I self):=(Y3.o _).trans s0;have u1:w3.cell? (Z p 1)=some (.slice Av vs.length cv):=(Y3.o _).trans s1;have u2:w3.cell? (Z p 2)=some (I base):=(Y3.o _).trans s2;have u3:w3.cell? (Z p 3)=some (.slice A (AI G j).length c):=(Y3.o _).trans s3;have u4:w3.cell? (Z p 4)=some (I y):=(Y3.o _).trans s4;have u5:w3.cell? (Z p 5)=some (I u):=(Y3.o _).trans s5;have u6:w3.cell? (Z p 6)=some (.slice Ap F.length cp):=(Y3.o _).trans s6;have u7:w3.cell? (Z p 7)=some (.slice Am D.length cm):=(Y3.o _).trans s7;have u8:w3.cell? (Z p 8)=some (.slice Af T.length cf):=(Y3.o _).trans s8;clear yH;refine hK.out _ _ ⟨u0,u1,u2,u3,u4,u5,u6,u7,u8⟩ (λyH=>?_);clear hK K;try simp only[Act.put,Au,Aw,Ay]
    refine eH ?_;rw[<-bi.o] at ak;obtain⟨A3,c3,rfl,b1,b2,_⟩:=ak.o.slice;have b0:w3.frozen? (Z p 3)=false:=by
     have h1:w2.frozen? (Z p 3)=false:=by rw[R.o.frozen (by exact z)];exact bn
     rw[<-h1];exact World.frozen?_of_block (a:=⟨p,3,none⟩) (aj.o.block p (by have:=R.o.size;omega) (λe=>by have:=X.o p e.symm;rw[aa.o] at this;cases this))
    go_wp2;go_roundw
    case rel=>
     have ai:Stp B [1,2] (As col w.heap.size 2) wr (As col w.heap.size 2) w3:=(Stp.ext' ag.o R.o).trans (Stp.grew aj.o (by have:=R.o.size;have:=ag.o;omega) (λk hk=>(ac.o.lt k hk).1) X.o zj);have bf:Stp B [1,2] (As col w.heap.size 2) w3 (As col w.heap.size 2) (w3.setCell (Z p 3) (.slice A3 (AI G (j+1)).length c3)):=Stp.wrote (Wrote.set _ _ _ _) bo (by have:=ai.size;have:=ag.o;omega) (by rw[aa.o];simp);have ba:ColV (As col w.heap.size 2) 2 (.slice A3 (AI G (j+1)).length c3):=by
      intro q hq;rcases bk.o with h|⟨k,hk,hle⟩
      .rw[h] at hq;exact X.o q hq
      .rw[hk] at hq;cases hq;exact Eh (by have:=R.o.size;have:=ad.o.size;omega)
     refine⟨j+1,A3,c3,by go_num,by have:=am.o;omega,J ?_,J ?_,J ba,ad.o.t (ai.trans bf)⟩
     .have h1:BIs w3 p ((⟨self,base,y,u,Av,cv,vs,A,c,AI G j,Ap,cp,F,Am,cm,D,Af,cf,T⟩:BM).cells++ex) t:=(Q.o.ext R.o).same (aj.o.block p (by have:=R.o.size;omega) (λe=>by have:=X.o p e.symm;rw[aa.o] at this;cases this));have h2:=h1.set 3 (.slice A3 (AI G (j+1)).length c3);rw[Vg] at h2;exact h2
     .exact ak.o.keep λk hk bu=>(Wrote.set p 3 w3 _).blk bu (λe=>by subst e;have:=ba k hk;rw[aa.o] at this;cases this)
    case measure=>simp[intOf];omega
   .have bb:decide ((Aq log self:Int)+1+(j:Int)<=u)=true:=by simpa using av
    have bp:decide (((AI G j).length:Int)<2000)=false:=by have:=al.o;simp;omega
    exact Qw
  .have bb:decide ((Aq log self:Int)+1+(j:Int)<=u)=false:=by simpa using av
   exact Qw
def CY(B:Nat)(col:Nat->Nat)(p:Nat)(w:World)(r:Cs)(en:Ending)(w':World):Prop:=
 ∃(m':CM) (col':Nat->Nat),en=.returned (.tuple #[])/\CS w' B col' p m'/\m'.cs=r/\Stp B [1,2,3,4,5,7] col w col' w'
theorem CS.cell{w:World}{B:Nat}{col:Nat->Nat}{p:Nat}{m:CM}(h:CS w B col p m)(i:Nat):w.cell? (Z p i)=m.cells[i]?:=h.box.cell i
theorem CS.free{w:World}{B:Nat}{col:Nat->Nat}{p:Nat}{m:CM}(h:CS w B col p m)(i:Nat):w.frozen? (Z p i)=false:=h.box.free i
section
variable {B p:Nat} {cs:List Nat} {col col':Nat->Nat} {w w':World} {m:CM}
theorem CS.kiK(h:CS w B col p m)(s:Stp B cs col w col' w')(q:0∉cs):∀k∈m.pk,pkE.ok k/\Row w' k.A (Aj k.bs)/\ColR col' 0 k.A (Aj k.bs):=
 λk j=>⟨(h.ki k j).1,s.row (h.ki k j).2.1 (h.ki k j).2.2 q,s.colR (h.ki k j).2.1 (h.ki k j).2.2⟩
theorem CS.repk(h:CS w B col p m)(s:Stp B [1,5] col w col' w'){A:Option Addr}{c:Nat}{l:List PkM}(j:BIs w' p ({m with Ak:=A,ck:=c,pk:=l}:CM).cells 86)(y:pkE.Own w' B (.slice A l.length c) l)(q:ColV col' 5 (.slice A l.length c))(u:∀k∈l,pkE.ok k/\Row w' k.A (Aj k.bs)/\ColR col' 0 k.A (Aj k.bs)) :
  CS w' B col' p {m with Ak:=A,ck:=c,pk:=l}:=
 ⟨j,(s.hue p h.lt).trans h.pc,h.bp,h.lies.keep s zj zj zj zj zj,y,q,u,s.own h.dl h.dc zj,s.colV h.dl h.dc,h.fits,h.cp⟩
end
theorem Zx(t:Int)(A:Option Addr)(c:Nat)(bs:List UInt8)(w:World):Row (w.alloc (.cells #[I t,.slice A bs.length c] 102)) (some (Z w.heap.size 0)) (pkE.cells [⟨t,A,c,bs⟩]):=by
 intro _;refine⟨w.heap.size,0,rfl,zj,λj q h=>?_⟩;simp only[Elem.cells,pkE,List.flatMap_cons,List.flatMap_nil,List.append_nil] at h
 match j,h with
 | 0,h=>simpa using h
 | 1,h=>simpa using h
theorem Iv(m:CM)(B:Nat)(col:Nat->Nat)(p:Nat)(u:Int)(k:Nat)(A:Option Addr)(c:Nat)(j:List UInt8)(w:World)(h:CS w B col p m)(W:Row w A (Aj j))(hl:j.length<=100000000)(hk:1<=k/\k<=255)(ap:m.pk.length<=100000) :
  Calls prog 50 #[.pointer (some (Z p 0)),I u,I (k:Int),.slice A j.length c] w (CY B col p w (Db m.cs u k j)):=by
 have H:=J h;have HR:=J W;have aq:=h.lt;clear h W;go_enter func50,ntmps50;go_wp2_with fail;refine(WM k A c j w HR.o hl hk).mono ?_;rintro en R ⟨ar,D,F,rfl,ag,ah,aj,ae⟩;have X1:=J ae;have af:=J aj;have q9:R.cell? (Z p 9)=some (.slice m.Ak m.pk.length m.ck):=by rw[ae.cell (by exact aq)];exact H.o.cell 9
 clear ae aj;have y:O (CS (R.alloc (.cells #[I u,.slice D (AX k j).length F] 102)) B (As col w.heap.size 0) p m):=J (H.o.keep (cs:=[]) (Stp.ext H.o.Bsz (X1.o.trans (V.new _ _)) (λk hk=>AV hk)) zj);have am:O (Row (R.alloc (.cells #[I u,.slice D (AX k j).length F] 102)) (some (Y R 0)) (pkE.cells [⟨u,D,F,AX k j⟩])):=J (Zx u D F (AX k j) R);have G:O (Row (R.alloc (.cells #[I u,.slice D (AX k j).length F] 102)) D (Aj (AX k j))/\ColR (As col w.heap.size 0) 0 D (Aj (AX k j))):=J ⟨af.o.row.ext (V.new _ _),λq _ z=>by subst z;exact Eh (af.o.lt q.block rfl).1⟩;have E2:O (V w (R.alloc (.cells #[I u,.slice D (AX k j).length F] 102))):=X1.o.t (V.new _ _);obtain⟨b,Ak,ck,Q,Ad,cd,dl⟩:=m;simp only at ap q9;have ab:O (∀q∈[(⟨u,D,F,AX k j⟩:PkM)],pkE.ok q/\∀r∈pkE.inn q,Row (R.alloc (.cells #[I u,.slice D (AX k j).length F] 102)) r.1 r.2/\Apt (.slice Ak Q.length ck) r):=J (by
  intro q z;simp only[zC,zN,or_false] at z;subst z;refine⟨⟨ag,ah⟩,λr W=>?_⟩;simp only[pkE,zC,zN,or_false] at W;subst W;exact⟨G.o.1,λp' q ac hp z e=>by have h1:=G.o.2 p' ac hp;have h2:=y.o.kc q z;rw[e,h1] at h2;cases h2⟩)
 have ao:O (pkE.OB (R.alloc (.cells #[I u,.slice D (AX k j).length F] 102)) B (.slice Ak Q.length ck) Q):=J ⟨y.o.pk,λa ha=>⟨(y.o.ki a ha).1,λr W=>by
  simp only[pkE,zC,zN,or_false] at W;subst W;exact⟨(y.o.ki a ha).2.1,λp' q ac hp z e=>by have h1:=(y.o.ki a ha).2.2 p' ac hp;have h2:=y.o.kc q z;rw[e,h1] at h2;cases h2⟩⟩⟩
 go_wp2_with (first
  | (at_builtin;refine By pkE rfl (.tmp 20) (.tmp 24) rfl _ B _ Q zi _ 1 1 [⟨u,D,F,AX k j⟩] zi rfl am.o ao.o ab.o U y.o.Bsz ?_;intro v3 w3 ad aa ak;obtain⟨A3,c3,rfl,au,av,_⟩:=ad.slice;have X:O (BIs w3 p (⟨b,Ak,ck,Q,Ad,cd,dl⟩:CM).cells 86):=J (y.o.box.same (aa.block p y.o.lt (λe=>by have:=y.o.kc p e.symm;rw[y.o.pc] at this;cases this)));have u9:w3.cell? ⟨p,9,none⟩=some (.slice Ak Q.length ck):=X.o.cell 9;have f9:=X.o.free 9))
 generalize R.alloc (.cells #[I u,.slice D (AX k j).length F] 102)=w2 at *;have S2:O (Stp B [5] (As col w.heap.size 0) w2 (As (As col w.heap.size 0) w2.heap.size 5) w3):=J ((Stp.grew aa y.o.Bsz (λq z=>(y.o.pk.lt q z).1) y.o.kc zj).recol (λk hk=>AV hk));have ai:O (ColV (As (As col w.heap.size 0) w2.heap.size 5) 5 (.slice A3 (Q++[(⟨u,D,F,AX k j⟩:PkM)]).length c3)):=J (Ga ak y.o.kc (zR _) (λq z=>(y.o.pk.lt q z).2));have al:=J ad;clear aa ak ad q9;go_end0;rw[show Q.length+1=(Q++[(⟨u,D,F,AX k j⟩:PkM)]).length from by simp]
 have T:(As (As col w.heap.size 0) w2.heap.size 5) p=1:=(S2.o.hue p y.o.lt).trans y.o.pc;have S3:Stp B [1,5] (As (As col w.heap.size 0) w2.heap.size 5) w3 (As (As col w.heap.size 0) w2.heap.size 5) (w3.setCell (Z p 9) (.slice A3 (Q++[(⟨u,D,F,AX k j⟩:PkM)]).length c3)):=Stp.wrote (Wrote.set _ _ _ _) H.o.bp (zL y.o.Bsz S2.o.size) (by rw[T];simp);have K:=(S2.o.mono (cs':=[1,5]) zj).trans S3;refine⟨⟨b,A3,c3,Q++[⟨u,D,F,AX k j⟩],Ad,cd,dl⟩,As (As col w.heap.size 0) w2.heap.size 5,rfl,?_,?_,?_⟩
 .refine y.o.repk K (X.o.set 9 _) (al.o.1.keep λq z an=>(Wrote.set p 9 w3 _).blk an (λe=>by subst e;have:=ai.o q z;rw[T] at this;cases this)) ai.o (λq z=>?_);rcases List.mem_append.1 z with z|z
  .exact y.o.kiK K zj q z
  .simp only[zC,zN,or_false] at z;subst z;exact⟨⟨ag,ah⟩,K.row G.o.1 G.o.2 zj,K.colR G.o.1 G.o.2⟩
 .simp[CM.cs,Db,PkM.v]
 .exact((Stp.ext (cs:=[1,5]) H.o.Bsz E2.o (λk hk=>AV hk)).trans K).mono (cs':=[1,2,3,4,5,7]) zj
theorem J6{l:List (Int×Int)}{k:Nat}{x:Int×Int}{mb:Int}(h:l[k]?=some x)(u:∀i y,i<k->l[i]?=some y->y.1≠mb)(z:x.1=mb):B9 l mb=some x.2:=by
 unfold B9;rw[List.find?_eq_some_iff_getElem.2 ⟨by simpa using z,k,(zZ h).1,(zZ h).2,λj q=>by have:=u j _ q (zY (by have:=(zZ h).1;omega));simpa using this⟩];rfl
theorem Kb{l:List (Int×Int)}{mb:Int}(j:∀i y,i<l.length->l[i]?=some y->y.1≠mb):B9 l mb=none:=by
 unfold B9;rw[List.find?_eq_none.2 (λx q=>?_)];rfl;obtain⟨i,h,rfl⟩:=List.mem_iff_getElem.1 q;have:=j i _ h (zY h);simpa using this
theorem XL(m:CM)(B:Nat)(col:Nat->Nat)(p:Nat)(mb:Int)(w:World)(h:CS w B col p m) :
  Calls prog 119 #[.pointer (some (Z p 0)),I mb] w λen w'=>en=.returned (.tuple #[I ((B9 m.b.marks mb).getD 0),.bool (B9 m.b.marks mb).isSome])/\V w w':=by
 have W:=J h.lies.marks.row;have q7:=h.cell 7;have Q:=h.fits.marks;obtain⟨⟨self,base,u,ab,Av,cv,vs,Al,cl,ad,Ap,cp,aa,Am,cm,j,Af,cf,ac⟩,Ak,ck,pk,Ad,cd,dl⟩:=m;simp only at Q W|-;replace q7:w.cell? (Z p 7)=some (.slice Am j.length cm):=q7;clear h;go_enter func119,ntmps119;go_wp2;go_loopw [14] (λi wr=>∃(k:Nat),k<=j.length/\i=I k/\O (∀i y,i<k->j[i]?=some y->y.1≠mb)/\O (V w wr)) (λi _=>j.length - (intOf i).toNat)
 case atStart=>exact⟨0,zO _,rfl,J (λi y K=>absurd K (Nat.not_lt_zero _)),J (V.refl _)⟩
 case round=>
  obtain⟨k,hk,rfl,D,G⟩:=hrel;by_cases R:k<j.length
  .obtain⟨bb,ae,x,rfl,hb,c0,c1,T⟩:=Fs (W.o.ext G.o) R;have X:O (V w (wr.alloc (.cells #[I x.1,I x.2] 123))):=G.o.t (V.new _ _);by_cases q:x.1=mb
   .have z:=J (J6 T.o D.o q);have hd:(x.1 == mb)=true:=by simpa using q
    clear q;go_wp2;go_ret2
    rw[z.o];exact⟨rfl,X.o⟩
   .have F:O (∀i y,i<k+1->j[i]?=some y->y.1≠mb):=J (λi y K hy=>by
     rcases Nat.lt_or_ge i k with h1|h1
     .exact D.o i y h1 hy
     .have:i=k:=U;subst this;rw[T.o] at hy;cases hy;exact q)
    have hd:(x.1 == mb)=false:=by simpa using q
    clear q;go_wp2;go_roundw
    case rel=>exact⟨k+1,U,by go_num,F,X⟩
    case measure=>simp[intOf];omega
  .have z:=J (Kb (l:=j) (mb:=mb) (λi y K hy=>D.o i y U hy));go_wp2;go_ret2
   rw[z.o];exact⟨rfl,G.o⟩
theorem Za(A:Option Addr)(k c:Nat)(l:List Ent)(o:Int)(w:World)(h:Row w A (Aa.cells l))(q:l.length<=1000000000)(j:k=l.length) :
  Calls prog 91 #[.slice A k c,I o] w λe w'=>e=.returned (I (Aq l o))/\V w w':=by subst j;exact Em A c l o w h q
theorem UM{A:Option Addr}{l c k:Nat}{q:Addr}(h:AO A l c k=some q):∃a,A=some a/\a.block=q.block:=by
 unfold AO at h;split at h
 .exact⟨q,h,rfl⟩
 .rcases A with _|a
  .cases h
  .simp only[Option.map_some,zJ] at h;refine⟨a,rfl,?_⟩;rw[<-h];unfold Addr.add;split<;>rfl
theorem ColR.sub{col:Nat->Nat}{k:Nat}{A:Option Addr}{xs ys:List Value}{l c D:Nat}(h:ColR col k A xs)(j:ys≠[]->xs≠[]):ColR col k (AO A l c D) ys:=by
 intro q hy z;obtain⟨a,u,y⟩:=UM z;rw[<-y];exact h a (j hy) u
theorem U5{c:Cs}{n:Int}(h:n<=c.s.stable):Be c n=c:=by unfold Be;rw[if_pos h]
theorem CS.redl{B p:Nat}{col j:Nat->Nat}{w w':World}{m:CM}{q:BM}(h:CS w B col p m)(s:Stp B [1,7] col w j w'){A:Option Addr}{c:Nat}{l:List Ent}(y:BIs w' p ({m with b:=q,Ad:=A,cd:=c,dl:=l}:CM).cells 86)(F:q.Lies w' B j)(D:q.Fits)(u:q.pend.length<=q.cp)(G:Aa.Own w' B (.slice A l.length c) l)(z:ColV j 7 (.slice A l.length c)) :
  CS w' B j p {m with b:=q,Ad:=A,cd:=c,dl:=l}:=
 ⟨y,(s.hue p h.lt).trans h.pc,h.bp,F,s.own h.pk h.kc zj,s.colV h.pk h.kc,h.kiK s zj,G,z,D,u⟩
theorem Ob(m:CM)(B:Nat)(col:Nat->Nat)(p:Nat)(nI:Int)(w:World)(h:CS w B col p m)(hs:0<=m.b.stable)(hn:nI<=m.b.log.length)(bb:m.dl.length<=100000)
  (ak:Aq (Bm m.b.log m.b.stable nI) m.b.self<=m.b.pend.length) :
  Calls prog 171 #[.pointer (some (Z p 0)),I nI] w (CY B col p w (Be m.cs nI)):=by
 have H:=J h;have au:=h.lt;have q0:=h.cell 0;have q3:=h.cell 3;have q4:=h.cell 4;have q6:=h.cell 6;have al:=h.cell 10;have bk:=h.free 10;have bd:=h.fits.log;have bc:=h.fits.cl;have aq:=h.cp;clear h;by_cases ac:nI<=m.b.stable
 .have HF:=J (U5 (c:=m.cs) ac);obtain⟨⟨self,base,stable,D,Av,cv,vs,F,cl,j,z,u,pend,Am,cm,y,Af,cf,R⟩,Ak,ck,pk,Ad,cd,dl⟩:=m;simp only at ac;replace q4:w.cell? (Z p 4)=some (I stable):=q4;clear q0 q3 q6 al ak;go_enter func171,ntmps171;go_wp2;(try simp only[Exit.inBlock,Exit.then]);refine bodyPost_ret (results_none rfl _ _ _) rfl ?_
  rw[HF.o];exact⟨_,col,rfl,H.o,rfl,Stp.refl _ _ _ _⟩
 .obtain⟨st,af⟩:∃st:Nat,m.b.stable=(st:Int):=⟨m.b.stable.toNat,U⟩;obtain⟨n,rfl⟩:∃n:Nat,nI=(n:Int):=⟨nI.toNat,U⟩;have HF:O (Be m.cs (n:Int)=⟨{m.b.st with pend:=m.b.pend.drop (Aq ((m.b.log.take n).drop st) m.b.self),stable:=n},m.pk.map PkM.v,m.dl++(m.b.log.take n).drop st⟩):=J (by
   unfold Be;rw[if_neg (by simpa[CM.cs,BM.st] using ac)];simp[CM.cs,BM.st,Bm,af])
  have Q:Aq ((m.b.log.take n).drop st) m.b.self<=m.b.pend.length:=by simpa[Bm,af] using ak
  have ad:st<n:=U;obtain⟨⟨self,base,stable,D,Av,cv,vs,F,cl,j,z,u,pend,Am,cm,y,Af,cf,R⟩,Ak,ck,pk,Ad,cd,dl⟩:=m;simp only at af hn bb Q bd bc aq HF;subst af;replace q0:w.cell? (Z p 0)=some (I self):=q0;replace q3:w.cell? (Z p 3)=some (.slice F j.length cl):=q3;replace q4:w.cell? (Z p 4)=some (I (st:Int)):=q4;replace q6:w.cell? (Z p 6)=some (.slice z pend.length u):=q6;replace al:w.cell? (Z p 10)=some (.slice Ad dl.length cd):=al;have bn:n<=j.length:=U;have ag:O (n - st=((j.take n).drop st).length):=J (by rw[zD,zT];omega);have bj:=J Q;obtain⟨k,hk⟩:∃k,k=Aq ((j.take n).drop st) self:=⟨_,rfl⟩;have HK:=J hk;have be:k<=pend.length:=by rw[hk];exact Q
  clear ak Q ac hn hs;have bh:∀W,(Instr.slice 23 (.slice F j.length cl) (some (I (st:Int))) (some (I (n:Int))) (some (I (n:Int)))).run prog W=.ok (.slice (AO F st n 4) (n - st) (n - st)) W:=λW=>Aa.slice_lhm F j.length cl st n n _ _ _ rfl rfl rfl U (zR _) U W;have am:O (Row w (AO F st n 4) (Aa.cells ((j.take n).drop st))):=J (by
   have h1:Row w F (Aa.cells (j.take n)):=Elem.row_upto H.o.lies.log.row n;exact Elem.row_from (c:=n) h1 (by rw[zT];omega) st)
  have hd:decide ((n:Int)<=(st:Int))=false:=zm;clear hk;go_enter func171,ntmps171;go_wp2;refine eC 14 (λw'=>w'.cell? (Z p 3)=some (.slice F j.length cl)/\w'.cell? (Z p 4)=some (I (st:Int))) ⟨by simpa using q3,by simpa using q4⟩ (λyH=>?_);refine ec 0 ?_;refine ec 4 ?_;refine ec 8 ?_;refine eb 12 ?_;refine eA ?_;have ba:O (Aa.OB w.drew B (.slice Ad dl.length cd) dl):=J ⟨H.o.dl.ext zW,λ_ _=>⟨trivial,λr hr=>by simp[Aa] at hr⟩⟩;go_wp2_with (first
   | (at_builtin;refine By Aa rfl (.tmp 29) (.tmp 30) rfl _ B _ dl zi _ _ _ ((j.take n).drop st) zi ag.o (by exact am.o.ext zW) ba.o Ir U (by exact H.o.Bsz) ?_;intro v2 w2 ae ai av;obtain⟨ND,aj⟩:∃l,l=dl++((j.take n).drop st):=⟨_,rfl⟩;rw[<-aj] at ae;have ay:=J aj;clear aj;obtain⟨A2,c2,rfl,bl,bm,_⟩:=ae.slice;have X:O (BIs w2 p (⟨⟨self,base,(st:Int),D,Av,cv,vs,F,cl,j,z,u,pend,Am,cm,y,Af,cf,R⟩,Ak,ck,pk,Ad,cd,dl⟩:CM).cells 86):=J ((H.o.box.ext zW).same (ai.block p (by exact au) (λe=>by have:=H.o.dc p e.symm;rw[H.o.pc] at this;cases this)));have bf:w2.cell? ⟨p,10,none⟩=some (.slice Ad dl.length cd):=X.o.cell 10;have bg:=X.o.free 10))
  have S1:O (Stp B [1,7] col w (As col w.heap.size 7) w2):=J ((((Stp.ext' (cs:=[1,7]) H.o.Bsz zW).trans (Stp.grew ai H.o.Bsz (λq hq=>(H.o.dl.lt q hq).1) H.o.dc zj)).recol (λk hk=>AV hk)));have ah:O (ColV (As col w.heap.size 7) 7 (.slice A2 ND.length c2)):=J (Ga av H.o.dc (zR _) (λq hq=>(H.o.dl.lt q hq).2));have az:=J ae;have G:O ((As col w.heap.size 7) p=1):=J ((S1.o.hue p au).trans H.o.pc);have ao:O (Wrote p w2 (w2.setCell (Z p 10) (.slice A2 ND.length c2))):=J (Wrote.set _ _ _ _);have aa:O (BIs (w2.setCell (Z p 10) (.slice A2 ND.length c2)) p (⟨⟨self,base,(st:Int),D,Av,cv,vs,F,cl,j,z,u,pend,Am,cm,y,Af,cf,R⟩,Ak,ck,pk,A2,c2,ND⟩:CM).cells 86):=J (X.o.set 10 _);clear ae ai av bf bg X;generalize w2.setCell (Z p 10) (.slice A2 ND.length c2)=w3 at *;have S3:O (Stp B [1,7] col w (As col w.heap.size 7) w3):=S1.o.t (Stp.wrote ao.o H.o.bp (zL H.o.Bsz S1.o.size) (by rw[G.o];simp));have a9:O (Aa.Own w3 B (.slice A2 ND.length c2) ND):=J (az.o.1.keep λq hq ad=>ao.o.blk ad (λe=>by subst e;have:=ah.o q hq;rw[G.o] at this;cases this));have an:O (Row w3 (AO F st n 4) (Aa.cells ((j.take n).drop st))):=J (S3.o.row am.o ((H.o.lies.lc.row (xs:=Aa.cells ((j.take n).drop st)) H.o.lies.log).sub (λh=>h)) zj);have u0:w3.cell? (Z p 0)=some (I self):=aa.o.cell 0;have u6:w3.cell? (Z p 6)=some (.slice z pend.length u):=aa.o.cell 6;have ar:p<w3.heap.size:=aa.o.lt;have bi:∀W,(Instr.slice 24 (.slice z pend.length u) (some (I (k:Int))) none none).run prog W=.ok (.slice (AO z k u 1) (pend.length - k) (u - k)) W:=λW=>AU.slice_l z pend.length u k _ rfl be W;refine eC 14 (λw'=>w'.cell? (Z p 6)=some (.slice z pend.length u)/\w'.cell? (Z p 0)=some (I self)) ⟨by simpa using u6,by simpa using u0⟩ (λyH=>?_);refine ec 0 ?_;refine ec 4 ?_;refine ec 8 ?_;refine eB 12 λK hK=>?_;go_simp;go_at_call 91;refine(Za (AO F st n 4) (n - st) (n - st) ((j.take n).drop st) self _ (by exact an.o.ext zW) (by have:=ag.o;omega) ag.o).mono ?_;rintro en w4 ⟨rfl,aw⟩;rw[<-HK.o];have X4:O (V w3 w4):=J (zW.trans aw);clear aw;have r6:w4.cell? (Z p 6)=some (.slice z pend.length u):=by rw[X4.o.cell (by exact ar)];exact u6
  have r0:w4.cell? (Z p 0)=some (I self):=by rw[X4.o.cell (by exact ar)];exact u0
  clear yH;refine hK.out _ _ ⟨r6,r0⟩ (λyH=>?_);clear hK K;try simp only[Act.put,Au,Aw,Ay]
  refine ea 13 ?_;refine eH ?_;have ab:=aa.o.e X4.o;have g6:=ab.o.free 6;have g4:=ab.o.free 4;have r4:w4.cell? (Z p 4)=some (I (st:Int)):=ab.o.cell 4;go_wp2;go_end0;rw[HF.o]
  have ap:Wrote p w4 ((w4.setCell (Z p 6) (.slice (AO z k u 1) (pend.length - k) (u - k))).setCell (Z p 4) (I (n:Int))):=(Wrote.set _ _ _ _).trans (Wrote.set _ _ _ _);have ax:BIs ((w4.setCell (Z p 6) (.slice (AO z k u 1) (pend.length - k) (u - k))).setCell (Z p 4) (I (n:Int))) p (⟨⟨self,base,(n:Int),D,Av,cv,vs,F,cl,j,AO z k u 1,u - k,pend.drop k,Am,cm,y,Af,cf,R⟩,Ak,ck,pk,A2,c2,ND⟩:CM).cells 86:=by
   have:=(ab.o.set 6 (.slice (AO z k u 1) (pend.length - k) (u - k))).set 4 (I (n:Int));simp only[CM.cells,zD];exact this
  have SF:Stp B [1,7] col w (As col w.heap.size 7) ((w4.setCell (Z p 6) (.slice (AO z k u 1) (pend.length - k) (u - k))).setCell (Z p 4) (I (n:Int))):=S3.o.trans ((Stp.ext' (zL H.o.Bsz S3.o.size) X4.o).trans (Stp.wrote ap H.o.bp (zL H.o.Bsz (zL S3.o.size X4.o.size)) (by rw[G.o];simp)));have L1:=H.o.lies.keep SF zj zj zj zj zj;refine⟨⟨⟨self,base,(n:Int),D,Av,cv,vs,F,cl,j,AO z k u 1,u - k,pend.drop k,Am,cm,y,Af,cf,R⟩,Ak,ck,pk,A2,c2,ND⟩,As col w.heap.size 7,rfl,?_,?_,SF.mono (cs':=[1,2,3,4,5,7]) zj⟩
  .refine H.o.redl SF ax ?_ ?_ ?_ (a9.o.ext X4.o |>.keep λq hq ad=>ap.blk ad (λe=>by subst e;have:=ah.o q hq;rw[G.o] at this;cases this)) ah.o
   .have:=L1.repend (A:=AO z k u 1) (c:=u - k) (l:=pend.drop k) (Elem.row_from L1.pend aq k) (L1.pc.sub (λh e=>h (by rw[AU.cells_drop,e];simp)));exact⟨this.vs,this.vc,this.vi,this.log,this.lc,this.pend,this.pc,this.marks,this.mc,this.fls,this.fc,this.fi⟩
   .have T:=H.o.fits;exact⟨T.vs,T.vx,T.log,T.lp,by have:=T.pend;simp at this|-;omega,λq hq=>T.pp q (List.mem_of_mem_drop hq),T.marks,T.fls,T.fl,T.cl⟩
   .simp only[zD];omega
  .simp only[CM.cs,BM.st,ay.o,HK.o]
end Go.Proofs.YtponbabbabnaeaaGreat
