/- Part 12: contracts of functions. Conditions: as each theorem says. -/
import Derived.Test.YtponbabbabnaeaaGreatQh11
set_option maxRecDepth 100000
set_option maxHeartbeats 40000000
set_option linter.unusedVariables false
namespace Go.Proofs.YtponbabbabnaeaaGreat
open Tryz
open Go.RowKit
theorem QH{P:Prop}(h:P:=by
 have S5:O (Stp B [1,2,3,4,5,7] ai w2 aa w5):=J (HS.o.trans (((Stp.ext' R.o.Bsz (X4.o.trans ab.o))).trans bi));go_wp2;go_roundw
 case rel=>exact⟨k+1,m5,aa,U,by go_num,J bc,J (by rw[bf,aj.o,<-HM.o,ak.o]),S5⟩
 case measure=>simp[intOf];omega):P:=h
theorem Fx(A:Option Addr)(c:Nat)(l:List VwM)(w:World)(h:AL.Box w A l)(hp:0<l.length)(hn:l.length<=1000000000) :
  ∃v∈l,Ar (vws l)=(v.n,v.xs)/\Calls prog 49 #[.slice A l.length c] w λe w'=>e=.returned (.agg #[I v.n,.slice v.A v.xs.length v.c])/\V w w':=by
 obtain⟨j,z⟩:∃j,l.length=j+1:=⟨l.length - 1,U⟩;obtain⟨b,F,n,X,y,xs,rfl,W,K,Q,G,R,T,u⟩:=DK h (show j<l.length by omega);have q:=Jk (by rw[AW];exact z) (Dw u.o);refine⟨⟨n,X,y,xs⟩,zX u.o,q,?_⟩;have D:IntKind.i64.wrap ((l.length:Int) - 1)=(j:Int):=by rw[IntWalk.i64_in _ U];omega
 have k1:(0:Int)<=(j:Int):=U;have k2:(j:Int)<(l.length:Int):=U;have k3:j<l.length:=U;clear z h q;go_enter func49,ntmps49;go_wp2;exact bodyPost_ret (v:=.agg #[I n,.slice X xs.length y]) (by simp[results,results49,go_sem]) rfl ⟨rfl,V.new _ _⟩
theorem Sd(A q:Option Addr)(c z k:Nat)(h:List UInt8)(j:List Ent)(w:World)(D:Row w A (Aj h))(y:h.length<=1000)(u:h.length<=c/\c<=maxLen)(Q:Row w q (Aa.cells j))(G:j.length<=2000)(K:∀e∈j,e.p.length<=6000)(F:k=j.length) :
  Calls prog 52 #[.slice A h.length c,.slice q k z] w (GivesB w (h++Bb j)):=by subst F;exact JJ A q c z h j w D y u Q G K
theorem Kd{h:List UInt8}{l:List Ent}(y:h.length<=1000)(z:l.length<=2000)(j:∀e∈l,e.p.length<=6000):(h++Bb l).length<=100000000:=by
 have q:=Jn j;have u:=DN [(l.length:Int)];unfold Bb;simp only[zA,zK,List.length_nil] at *;omega
theorem Cg{w:World}{o:Obj}{p i:Nat}(h:p<w.heap.size):(w.alloc o).drew.cell? (Z p i)=w.cell? (Z p i):=World.cell?_alloc_lt _ _ _ h
theorem Tb{c:Cs}{x:Int}(h:x=c.s.self):Cl c x=c:=by unfold Cl;rw[if_pos h]
theorem T4{c:Cs}{x:Int}(h:¬x=c.s.self)(j:B9 c.s.marks x=none):Cl c x=Db c x 15 (AF [c.s.base]++Bb c.s.log):=by unfold Cl;rw[if_neg h,j]
theorem TH{c:Cs}{x st:Int}(h:¬x=c.s.self)(j:B9 c.s.marks x=some st):Cl c x=Db c x 12 (AF [c.s.base,st,c.s.stable]++Bb (Bm c.s.log st (min (st+16) c.s.log.length))):=by unfold Cl;rw[if_neg h,j]
theorem Wt(m:CM)(B:Nat)(col:Nat->Nat)(p:Nat)(w:World)(h:CS w B col p m)(ok:OkS m.b.st)(b7:m.pk.length=0)(b0:m.dl.length=0) :
  Calls prog 45 #[.pointer (some (Z p 0))] w (CY B col p w (Gx m.cs)):=by
 have H:=J h;have OK:=J ok;have b8:=h.lt;clear h ok;go_enter func45,ntmps45;go_wp2_with fail;refine(OZ m.b #[.slice m.Ak m.pk.length m.ck,.slice m.Ad m.dl.length m.cd] 86 p B col w (by exact H.o.box) H.o.pc H.o.bp H.o.lies H.o.fits OK.o.own OK.o.sent ?_ OK.o.log).mono ?_
 .have h1:=OK.o.pend;have h2:=FJ m.b.st.log m.b.st.stable.toNat m.b.st.self;simp only[BM.st] at h1 h2|-;omega
 rintro Q w1 ⟨A1,c1,rfl,bu,bt,bw,ad⟩;have bk:O (OkS (Ct m.b.st)):=J (Zw OK.o);obtain⟨m1,al⟩:∃x,x=({m with b:={m.b with Al:=A1,cl:=c1,log:=AI m.b.st (Bp m.b.st)}}:CM):=⟨_,rfl⟩;have bz:O (m1.cs={m.cs with s:=Ct m.b.st}):=J (by rw[al];rfl);have bv:O (m1.b.st=Ct m.b.st):=J (by rw[al];rfl);have C1:O (CS w1 B (As col w.heap.size 2) p m1):=J (by
  subst al;obtain⟨A',c',cy,k1,k2,_⟩:=bt.slice;simp only[Value.slice.injEq] at cy;have hf:=H.o.fits;have cu:=bk.o.lp;have ct:=bk.o.log;refine⟨bu,(ad.hue p b8).trans H.o.pc,H.o.bp,H.o.lies.relog ad zj zj zj zj bt bw,ad.own H.o.pk H.o.kc zj,ad.colV H.o.pk H.o.kc,H.o.kiK ad zj,ad.own H.o.dl H.o.dc zj,ad.colV H.o.dl H.o.dc,?_,H.o.cp⟩;exact⟨hf.vs,hf.vx,by have:(AI m.b.st (Bp m.b.st)).length<=2000:=ct;simp only;omega,λe he=>by have:=cu e he;omega,hf.pend,hf.pp,hf.marks,hf.fls,hf.fl,⟨by simp only;omega,by simp only;omega⟩⟩)
 have c4:m1.pk.length=0:=by rw[al];exact b7
 have cz:m1.dl.length=0:=by rw[al];exact b0
 have S1:O (Stp B [1,2,3,4,5,7] col w (As col w.heap.size 2) w1):=J (ad.mono zj);have ba:O (Gx m.cs=(Ar (Cf m1.cs).s.views).2.foldl Cl (Cf m1.cs)):=J (by rw[bz.o];rfl);clear bu bt bw ad al H OK b8 b7 b0;have T:O (OkS m1.b.st):=J (by rw[bv.o];exact bk.o);go_wp2_with fail;refine(My m1 B _ p w1 C1.o (by have:=T.o.vs;simpa[BM.st,AW] using this) T.o.st0 (λx hx=>(T.o.mks x hx).2) U (Fy T.o).1 (λn _=>IF T.o n)).mono ?_;rintro Q w2 ⟨z,ai,rfl,bx,b5,b9⟩;have C2:=J bx;have S2:=S1.o.t b9;obtain⟨k1,k2,k3,k4,k5,k6,k7,k8⟩:=Mj m1.cs;rw[<-b5] at ba k1 k2 k3 k4 k5 k6 k7 k8;have HK:O (z.b.log=m1.b.log/\z.b.marks=m1.b.marks/\vws z.b.vs=vws m1.b.vs/\z.pk.length=0):=J ⟨k1,k2,k3,by have:=congrArg List.length k7;simp only[CM.cs,zP] at this;omega⟩;have b4:z.b.log.length<=2000:=by rw[HK.o.1];exact T.o.log
 have ch:O (∀e∈z.b.log,e.p.length<=6000):=J (by rw[HK.o.1];exact T.o.lp);have ci:O (∀x∈z.b.marks,0<=x.2/\x.2<=(z.b.log.length:Int)):=J (by rw[HK.o.1,HK.o.2.1];exact T.o.mks);have ca:0<z.b.vs.length:=by
  have h1:=T.o.vs;have h2:=congrArg List.length HK.o.2.2.1;simp only[BM.st,AW] at h1 h2;omega
 clear bx b9 b5 k1 k2 k3 k4 k5 k6 k7 k8;have c9:=C2.o.fits.vs;obtain⟨v,hv,br,ao⟩:=Fx z.b.Av z.b.cv z.b.vs w2 C2.o.lies.vs ca U;have an:=J ao;have bj:O (Row w2 v.A (Ai v.xs)/\ColR ai 0 v.A (Ai v.xs)):=J ⟨(C2.o.lies.vs.2 v hv).2 (v.A,Ai v.xs) (by simp[AL]),C2.o.lies.vi v hv⟩;have cb:v.xs.length<=16:=by
  have h1:=(Fy T.o).2.1;have h2:Ar m1.b.st.views=(v.n,v.xs):=by rw[<-br];show Ar (vws m1.b.vs)=_;rw[HK.o.2.2.1]
  rw[h2] at h1;exact h1
 have ax:O (Gx m.cs=v.xs.foldl Cl z.cs):=J (by
  rw[ba.o];show (Ar (vws z.b.vs)).2.foldl Cl z.cs=_;rw[br])
 have q1:w2.cell? (Z p 1)=some (.slice z.b.Av z.b.vs.length z.b.cv):=C2.o.cell 1;have av:=DJ;clear ao hv br ba;obtain⟨nv,Ax,cx,xs⟩:=v;simp only at bj cb ax an;go_wp2_with fail;refine an.o.mono ?_;rintro Q w3 ⟨rfl,ae⟩;have X3:=J ae;clear ae q1;go_wp2;go_loopw [21] (λi wr=>∃(k:Nat) (m':CM) (D:Nat->Nat),k<=xs.length/\i=I k/\O (CS wr B D p m')/\O (m'.cs=(xs.take k).foldl Cl z.cs)/\O (Stp B [1,2,3,4,5,7] ai w2 D wr)) (λi _=>xs.length - (intOf i).toNat)
 case atStart=>exact⟨0,z,ai,zO _,rfl,C2.o.e X3.o,J rfl,J (Stp.ext' C2.o.Bsz X3.o)⟩
 case round=>
  obtain⟨k,m',D,hk,rfl,R,HM,HS⟩:=hrel;by_cases cw:k<xs.length
  .obtain⟨bb,dd,x,hA,c8,HE⟩:=(HS.o.row bj.o.1 bj.o.2 zj).at_ cw;subst hA;have aj:=J (VC Cl z.cs HE.o);obtain⟨l1,l2,l3⟩:=Nl (xs.take k) z.cs;rw[<-HM.o] at l1 l2 l3;have a9:O (m'.b.st=z.b.st/\m'.pk.length<=16):=J ⟨l1,by have:=HK.o.2.2.2;simp only[CM.cs,zP,zT] at l3;omega⟩;have aw:=R.o.lt;have q0:=R.o.cell 0;have q2:=R.o.cell 2;have q3:=R.o.cell 3;have q4:=R.o.cell 4;have be:=J R.o.lies.log.row;have cq:=R.o.fits.cl;obtain⟨MM,bo⟩:∃y,y=m':=⟨_,rfl⟩;have au:=J bo;rw[<-bo] at R HM;clear bo l1 l2 l3;obtain⟨⟨self,base,j,ce,Av,cv,vs,Al,cl,log,Ap,cp,cc,Am,cm,G,Af,cf,cn⟩,Ak,ck,pk,Ad,cd,dl⟩:=m';have ar:O (log=z.b.log/\G=z.b.marks/\base=z.b.base/\self=z.b.self/\j=z.b.stable):=J (by
    have h:=a9.o.1;simp only[BM.st,St.mk.injEq] at h;obtain⟨e1,e2,e3,e4,e5,e6,e7,e8,e9⟩:=h;exact⟨e4,e8,e3,e1,e5⟩)
   replace q0:wr.cell? (Z p 0)=some (I self):=q0;replace q2:wr.cell? (Z p 2)=some (I base):=q2;replace q3:wr.cell? (Z p 3)=some (.slice Al log.length cl):=q3;replace q4:wr.cell? (Z p 4)=some (I j):=q4;simp only at be cq;have F:O (MM.cs.s=⟨self,vws vs,base,log,j,ce,cc,G,cn.map FlM.v⟩):=J (by rw[au.o];rfl);by_cases am:x=self
   .have hd:(x == self)=true:=by simpa using am
    have cj:O (Cl MM.cs x=MM.cs):=J (Tb (by rw[F.o];exact am));clear am;go_wp2;go_roundw
    case rel=>exact⟨k+1,MM,D,U,by go_num,R,J (by rw[aj.o,<-HM.o,cj.o]),HS⟩
    case measure=>simp[intOf];omega
   .have hd:(x == self)=false:=by simpa using am
    go_wp2_with fail;refine(XL MM B D p x wr R.o).mono ?_;rintro Q w4 ⟨rfl,af⟩;have C4:=R.o.e af;have X4:=J af;have b6:O (MM.b.marks=G):=J (by rw[au.o]);rw[b6.o];have p2:w4.cell? (Z p 2)=some (I base):=by rw[af.cell (by exact aw)];exact q2
    have p3:w4.cell? (Z p 3)=some (.slice Al log.length cl):=by rw[af.cell (by exact aw)];exact q3
    have p4:w4.cell? (Z p 4)=some (I j):=by rw[af.cell (by exact aw)];exact q4
    have q:p<w4.heap.size:=by have:=af.size;omega
    have ay:=be.o.e af;have b3:log.length<=2000:=by rw[ar.o.1];exact b4
    have ah:O (∀e∈log,e.p.length<=6000):=J (by rw[ar.o.1];exact ch.o);clear af q0 q2 q3 q4 aw be;cases hmf:B9 G x with
    | none=>
     have ak:O (Cl MM.cs x=Db MM.cs x 15 (AF [base]++Bb log)):=J (by
      have:=T4 (c:=MM.cs) (x:=x) (by rw[F.o];exact am) (by rw[F.o];exact hmf);rw[this,F.o])
     clear hmf;obtain⟨bd,ac⟩:∃l,l=AF [base]++Bb log:=⟨_,rfl⟩;have az:=J ac;have bq:bd.length<=100000000:=by rw[ac];exact Kd (by have:=DN [base];simp at this;omega) b3 ah.o
     rw[<-ac] at ak;clear ac;simp only[Option.getD_none,Option.isSome_none];go_wp2;refine eC 15 (λw'=>w'.cell? (Z p 2)=some (I base)/\w'.cell? (Z p 3)=some (.slice Al log.length cl)) ⟨by simpa using p2,by simpa using p3⟩ (λyH=>?_);refine ec 0 ?_;refine eb 4 ?_;refine ea 6 ?_;refine ec 9 ?_;refine ea 13 ?_;refine eB 7 λK hK=>?_;go_simp;clear yH;refine hK.out _ _ ⟨(Cg q).trans p2,(Cg q).trans p3⟩ (λyH=>?_);clear hK K;try simp only[Act.put,Au,Aw,Ay]
     refine eB 8 λK hK=>?_;go_simp;go_at_call 48;refine(Gb _ 1 [base] _ (by exact Ho (I9 _ _) zj) zj).mono ?_;rintro Q w6 ⟨A2,c2,rfl,bl,bm,ap,aq⟩;have X2:O (V w4 w6):=J (((V.new _ _).trans zW).trans aq);have bg:=J ap.row;clear ap aq;have r2:w6.cell? (Z p 2)=some (I base):=by rw[X2.o.cell (by exact q)];exact p2
     have r3:w6.cell? (Z p 3)=some (.slice Al log.length cl):=by rw[X2.o.cell (by exact q)];exact p3
     clear yH;refine hK.out _ _ ⟨r2,r3⟩ (λyH=>?_);clear hK K;try simp only[Act.put,Au,Aw,Ay]
     refine eB 14 λK hK=>?_;go_simp;go_at_call 52;refine(JJ A2 Al c2 cl (AF [base]) log _ bg.o (by have:=DN [base];simp at this;omega) ⟨bl,bm⟩ (ay.o.ext X2.o) b3 ah.o).mono ?_;rintro e3 X ⟨A3,c3,rfl,bn,co,ag,ae⟩;rw[<-az.o] at bn ag|-;have ab:O (V w4 X):=X2.o.t ae;have bh:=J ag.row;clear ag ae;have s2:X.cell? (Z p 2)=some (I base):=by rw[ab.o.cell (by exact q)];exact p2
     have s3:X.cell? (Z p 3)=some (.slice Al log.length cl):=by rw[ab.o.cell (by exact q)];exact p3
     clear yH;refine hK.out _ _ ⟨s2,s3⟩ (λyH=>?_);clear hK K;try simp only[Act.put,Au,Aw,Ay]
     refine eH ?_;go_wp2_with fail;refine(Iv MM B D p x 15 A3 c3 bd X (C4.o.ext ab.o) bh.o bq zd (by have:=a9.o.2;rw[au.o];simp only at this|-;omega)).mono ?_;rintro Q w5 ⟨m5,aa,rfl,bc,bf,bi⟩;exact QH
    | some st=>
     have c5:0<=st/\st<=(log.length:Int):=by
      unfold B9 at hmf;cases av:G.find? (λy=>y.1 == x) with
      | none=>rw[av] at hmf;cases hmf
      | some y=>
       rw[av] at hmf;simp only[Option.map_some,zJ] at hmf;have:=ci.o y (by rw[<-ar.o.2.1];exact List.mem_of_find?_eq_some av);rw[ar.o.1,<-hmf];exact this
     obtain⟨u,rfl⟩:∃u:Nat,st=(u:Int):=⟨st.toNat,U⟩;obtain⟨Q,b1⟩:∃Q:Nat,Q=min (u+16) log.length:=⟨_,rfl⟩;have b2:u<=Q/\Q<=log.length:=U;have c6:=J b1;have ak:O (Cl MM.cs x=Db MM.cs x 12 (AF [base,(u:Int),j]++Bb ((log.take Q).drop u))):=J (by
      have:=TH (c:=MM.cs) (x:=x) (st:=(u:Int)) (by rw[F.o];exact am) (by rw[F.o];exact hmf);rw[this,F.o];simp only;have e1:(min ((u:Int)+16) (log.length:Int))=(Q:Int):=U;rw[e1];rfl)
     clear hmf;obtain⟨bd,ac⟩:∃l,l=AF [base,(u:Int),j]++Bb ((log.take Q).drop u):=⟨_,rfl⟩;have az:=J ac;have bq:bd.length<=100000000:=by rw[ac];exact Kd (by have:=DN [base,(u:Int),j];simp at this;omega) (by rw[zD,zT];omega) (λe he=>ah.o e (List.mem_of_mem_take (List.mem_of_mem_drop he)))
     rw[<-ac] at ak;have db:IntKind.i64.wrap ((u:Int)+16)=(u:Int)+16:=IntWalk.i64_in _ U;have c0:min ((u:Int)+16) (log.length:Int)=(Q:Int):=U;have da:∀W,(Instr.slice 23 (.slice Al log.length cl) (some (I (u:Int))) (some (I (Q:Int))) none).run prog W=.ok (.slice (AO Al u cl 4) (Q - u) (cl - u)) W:=λW=>Aa.slice_lh Al log.length cl u Q _ _ rfl rfl b2.1 U W;have cg:O (Row w4 (AO Al u cl 4) (Aa.cells ((log.take Q).drop u))):=J (Elem.row_sub ay.o U u Q);clear ac b1;simp only[Option.getD_some,Option.isSome_some];go_wp2;refine eC 24 (λw'=>w'.cell? (Z p 2)=some (I base)/\w'.cell? (Z p 3)=some (.slice Al log.length cl)/\w'.cell? (Z p 4)=some (I j)) ⟨by simpa using p2,by simpa using p3,by simpa using p4⟩ (λyH=>?_);refine ec 0 ?_;refine ec 4 ?_;refine ec 8 ?_;refine ea 12 ?_;refine ec 15 ?_;refine ec 19 ?_;refine eB 13 λK hK=>?_;go_simp;clear yH;refine hK.out _ _ ⟨(Cg q).trans p2,(Cg q).trans p3,(Cg q).trans p4⟩ (λyH=>?_);clear hK K;try simp only[Act.put,Au,Aw,Ay]
     refine eB 14 λK hK=>?_;go_simp;go_at_call 48;refine(Gb _ 3 [base,(u:Int),j] _ (by exact Ho (Kq _ _ _ _) zj) zj).mono ?_;rintro Q w6 ⟨A2,c2,rfl,bl,bm,ap,aq⟩;have X2:O (V w4 w6):=J (((V.new _ _).trans zW).trans aq);have bg:=J ap.row;clear ap aq;have r2:w6.cell? (Z p 2)=some (I base):=by rw[X2.o.cell (by exact q)];exact p2
     have r3:w6.cell? (Z p 3)=some (.slice Al log.length cl):=by rw[X2.o.cell (by exact q)];exact p3
     have r4:w6.cell? (Z p 4)=some (I j):=by rw[X2.o.cell (by exact q)];exact p4
     clear yH;refine hK.out _ _ ⟨r2,r3,r4⟩ (λyH=>?_);clear hK K;try simp only[Act.put,Au,Aw,Ay]
     refine eB 23 λK hK=>?_;go_simp;go_at_call 52;refine(Sd A2 (AO Al u cl 4) c2 (cl - u) (Q - u) (AF [base,(u:Int),j]) ((log.take Q).drop u) _ bg.o (by have:=DN [base,(u:Int),j];simp at this;omega) ⟨bl,bm⟩ (cg.o.ext X2.o) (by rw[zD,zT];omega) (λe he=>ah.o e (List.mem_of_mem_take (List.mem_of_mem_drop he))) (by rw[zD,zT];omega)).mono ?_;rintro e3 X ⟨A3,c3,rfl,bn,co,ag,ae⟩;rw[<-az.o] at bn ag|-;have ab:O (V w4 X):=X2.o.t ae;have bh:=J ag.row;clear ag ae;have s2:X.cell? (Z p 2)=some (I base):=by rw[ab.o.cell (by exact q)];exact p2
     have s3:X.cell? (Z p 3)=some (.slice Al log.length cl):=by rw[ab.o.cell (by exact q)];exact p3
     have s4:X.cell? (Z p 4)=some (I j):=by rw[ab.o.cell (by exact q)];exact p4
     clear yH;refine hK.out _ _ ⟨s2,s3,s4⟩ (λyH=>?_);clear hK K;try simp only[Act.put,Au,Aw,Ay]
     refine eH ?_;go_wp2_with fail;refine(Iv MM B D p x 12 A3 c3 bd X (C4.o.ext ab.o) bh.o bq zd (by have:=a9.o.2;rw[au.o];simp only at this|-;omega)).mono ?_;rintro c7 w5 ⟨m5,aa,rfl,bc,bf,bi⟩;exact QH
  .have cr:xs.take k=xs:=List.take_of_length_le U;rw[cr] at HM;go_wp2;go_end0;rw[ax.o,<-HM.o]
   exact⟨m',D,rfl,R.o,rfl,S2.o.trans HS.o⟩
theorem SQ(n:Nat)(c:Cs):((List.range n).foldl Df c).s=c.s/\((List.range n).foldl Df c).dl=c.dl/\((List.range n).foldl Df c).pk.length=c.pk.length+n:=by
 induction n with
 | zero=>exact⟨rfl,rfl,rfl⟩
 | succ n u=>
  rw[List.range_succ,List.foldl_append];obtain⟨h,j,q⟩:=u;refine⟨h,j,?_⟩;show ((((List.range n).foldl Df c).pk++_).length=_);rw[zA,q];simp;omega
theorem Tt(n:Nat)(c:Cs):(List.range (n+1)).foldl Df c=Df ((List.range n).foldl Df c) n:=by
 rw[List.range_succ,List.foldl_append];rfl
theorem UC(m:CM)(B:Nat)(col:Nat->Nat)(p:Nat)(w:World)(h:CS w B col p m)(ok:OkS m.b.st)(ch:m.pk.length=0) :
  Calls prog 46 #[.pointer (some (Z p 0))] w (CY B col p w (Gs m.cs)):=by
 have H:=J h;have OK:=J ok;have ci:=h.lt;have c6:=h.fits.vs;have cn:0<m.b.vs.length:=by have:=ok.vs;simpa[BM.st,AW] using this
 obtain⟨v,hv,be,aq⟩:=Fx m.b.Av m.b.cv m.b.vs w h.lies.vs cn U;have ae:=J aq;have ca:O (Row w v.A (Ai v.xs)):=J ((h.lies.vs.2 v hv).2 (v.A,Ai v.xs) (by simp[AL]));have cq:v.xs.length<=16:=by
  have h1:=(Fy ok).2.1;have h2:Ar m.b.st.views=(v.n,v.xs):=be;rw[h2] at h1;exact h1
 obtain⟨sq,b0⟩:∃s,AZ (v.n,v.xs)=s:=⟨_,rfl⟩;have b4:=J be;have bt:=J b0;obtain⟨c1,ah⟩:∃c,c=Db m.cs sq 13 (AF [m.b.base,(m.b.log.length:Int)]):=⟨_,rfl⟩;have bp:=J ah;have bq:O (Gs m.cs=(List.range (Fc m.b.st)).foldl Df c1):=J (by
  rw[ah,<-b0,<-be];rfl)
 have q1:=h.cell 1;have q0:=h.cell 0;have q2:=h.cell 2;have q3:=h.cell 3;have ce:=ok.log;have b3:=J h.lies.log.row;clear h ok aq hv be ah b0;obtain⟨nv,Ax,cx,xs⟩:=v;simp only at ca cq ae bt b4;obtain⟨M,hM⟩:∃y,y=m:=⟨_,rfl⟩;have HM:=J hM;rw[<-hM] at H OK bp bq|-;clear hM;obtain⟨⟨self,base,z,u,Av,cv,vs,Al,cl,D,Ap,cp,F,Am,cm,G,Af,cf,ad⟩,Ak,ck,pk,Ad,cd,dl⟩:=m;simp only[BM.st] at cn c6 ch ae ce b3;replace q1:w.cell? (Z p 1)=some (.slice Av vs.length cv):=q1;replace q0:w.cell? (Z p 0)=some (I self):=q0;replace q2:w.cell? (Z p 2)=some (I base):=q2;replace q3:w.cell? (Z p 3)=some (.slice Al D.length cl):=q3;go_enter func46,ntmps46;go_wp2_with fail;refine ae.o.mono ?_;rintro en w0 ⟨rfl,b1⟩;go_wp2_with fail;refine(Fm nv Ax cx xs w0 (ca.o.ext b1) U sq bt.o).mono ?_;rintro en w1 ⟨rfl,co⟩;have X1:O (V w w1):=J (b1.trans co);have p2:w1.cell? (Z p 2)=some (I base):=by rw[X1.o.cell (by exact ci)];exact q2
 have p3:w1.cell? (Z p 3)=some (.slice Al D.length cl):=by rw[X1.o.cell (by exact ci)];exact q3
 have av:p<w1.heap.size:=by have:=X1.o.size;omega
 have C1:=H.o.e X1.o;obtain⟨bd,ab⟩:∃l,l=AF [base,(D.length:Int)]:=⟨_,rfl⟩;have ax:=J ab;have bb:bd.length<=100000000:=by rw[ab];have:=DN [base,(D.length:Int)];simp at this;omega
 have bk:O (c1=Db M.cs sq 13 bd):=J (by rw[bp.o,HM.o,ab]);clear b1 co q1 q0 q2 q3 ab;go_wp2;refine eC 15 (λw'=>w'.cell? (Z p 2)=some (I base)/\w'.cell? (Z p 3)=some (.slice Al D.length cl)) ⟨by simpa using p2,by simpa using p3⟩ (λyH=>?_);refine ec 0 ?_;refine ec 4 ?_;refine ec 8 ?_;refine ea 12 ?_;refine eB 13 λK X=>?_;go_simp;clear yH;refine X.out _ _ ⟨(Cg av).trans p2,(Cg av).trans p3⟩ (λyH=>?_);clear X K;try simp only[Act.put,Au,Aw,Ay]
 refine eB 14 λK X=>?_;go_simp;go_at_call 48;refine(Gb _ 2 [base,(D.length:Int)] _ (by exact Ho (Of _ _ _) zj) zj).mono ?_;rintro e2 w6 ⟨A2,c2,rfl,cb,c0,ai,aw⟩;rw[<-ax.o] at cb ai|-;have X6:O (V w1 w6):=J (((V.new _ _).trans zW).trans aw);have a9:=J ai.row;clear ai aw;have r2:w6.cell? (Z p 2)=some (I base):=by rw[X6.o.cell (by exact av)];exact p2
 have r3:w6.cell? (Z p 3)=some (.slice Al D.length cl):=by rw[X6.o.cell (by exact av)];exact p3
 clear yH;refine X.out _ _ ⟨r2,r3⟩ (λyH=>?_);clear X K;try simp only[Act.put,Au,Aw,Ay]
 refine eH ?_;go_wp2_with fail;refine(Iv M B col p sq 13 A2 c2 bd w6 (C1.o.ext X6.o) a9.o bb zd (by rw[HM.o];simp only;omega)).mono ?_;rintro en w7 ⟨m7,af,rfl,cc,bg,cj⟩;have C7:=J cc;have S7:O (Stp B [1,2,3,4,5,7] col w af w7):=J ((Stp.ext' H.o.Bsz (X1.o.trans X6.o)).trans cj);have b5:O (m7.cs=c1):=J (by rw[bg,bk.o]);have an:O (m7.b.st=M.b.st/\m7.pk.length=1):=J (by
  have h1:m7.cs.s=M.cs.s:=by rw[bg];rfl
  have h2:m7.cs.pk.length=1:=by
   rw[bg];show (M.cs.pk++_).length=1;have:M.cs.pk.length=0:=by rw[HM.o];simp only[CM.cs,zP];exact ch
   simp[this]
  exact⟨h1,by simpa[CM.cs] using h2⟩)
 have ap:O (OkS m7.b.st):=J (by rw[an.o.1];exact OK.o);have bl:O (Gs M.cs=(List.range (Fc m7.b.st)).foldl Df m7.cs):=J (by rw[an.o.1,bq.o,b5.o,HM.o]);clear cc bg cj p2 p3 r2 r3 yH bk bp bq b5 ax bb av C1 a9 X6 X1;obtain⟨M7,bu⟩:∃y,y=m7:=⟨_,rfl⟩;have bn:=J bu;have p0:=C7.o.cell 0;have p3:=C7.o.cell 3;have cg:=C7.o.lt;have br:=J C7.o.lies.log.row;have bw:=ap.o.log;have au:=ap.o.own;have bj:=ap.o.sent;rw[<-bu] at C7 ap bl an;clear bu;have al:O (Fc M7.b.st=(m7.b.sent - Aq m7.b.log m7.b.self).toNat):=J (by rw[bn.o];rfl);obtain⟨⟨self,base,z,u,Av,cv,vs,Al,cl,D,Ap,cp,F,Am,cm,G,Af,cf,ad⟩,Ak,ck,pk,Ad,cd,dl⟩:=m7;replace p0:w7.cell? (Z p 0)=some (I self):=p0;replace p3:w7.cell? (Z p 3)=some (.slice Al D.length cl):=p3;simp only[BM.st] at br bw au bj;simp only at al;obtain⟨own,ar⟩:∃o,o=Aq D self:=⟨_,rfl⟩;have b6:=J ar;rw[<-ar] at au al;clear ar;have da:IntKind.i64.wrap ((own:Int)+1)=(own:Int)+1:=IntWalk.i64_in _ U;go_wp2;refine eC 13 (λw'=>w'.cell? (Z p 0)=some (I self)/\w'.cell? (Z p 3)=some (.slice Al D.length cl)) ⟨by simpa using p0,by simpa using p3⟩ (λyH=>?_);refine ec 0 ?_;refine ec 4 ?_;refine eb 8 ?_;refine eB 10 λK X=>?_;go_simp;go_at_call 91;refine(Em Al cl D self _ (br.o.ext zW) U).mono ?_;rintro e2 w8 ⟨rfl,ct⟩;rw[<-b6.o];have X8:O (V w7 w8):=J (zW.trans ct);clear ct;have r0:w8.cell? (Z p 0)=some (I self):=by rw[X8.o.cell (by exact cg)];exact p0
 have r3:w8.cell? (Z p 3)=some (.slice Al D.length cl):=by rw[X8.o.cell (by exact cg)];exact p3
 clear yH;refine X.out _ _ ⟨r0,r3⟩ (λyH=>?_);clear X K;try simp only[Act.put,Au,Aw,Ay]
 refine eb 11 ?_;refine eA ?_;go_wp2;clear yH r0 r3 p0 p3 da;go_loopw [3] (λsv wr=>∃(j:Nat) (Q:CM) (ac:Nat->Nat),sv=I ((own:Int)+1+(j:Int))/\j<=Fc M7.b.st/\O (CS wr B ac p Q)/\O (Q.cs=(List.range j).foldl Df M7.cs)/\O (Stp B [1,2,3,4,5,7] af w7 ac wr)) (λsv _=>(u+1 - intOf sv).toNat)
 case atStart=>exact⟨0,M7,af,zj,zO _,C7.o.e X8.o,J rfl,J (Stp.ext' C7.o.Bsz X8.o)⟩
 case round=>
  obtain⟨j,Q,ac,rfl,hj,R,az,HS⟩:=hrel;have df:(j:Int)<=u - own:=by have:=al.o;omega
  obtain⟨l1,l2,l3⟩:=SQ j M7.cs;rw[<-az.o] at l1 l2 l3;have ay:O (Q.b.st=M7.b.st/\Q.pk.length<=1+j):=J ⟨l1,by have:=an.o.2;simp only[CM.cs,zP] at l3;omega⟩;have am:O (OkS Q.b.st):=J (by rw[ay.o.1];exact ap.o);have p0:=R.o.cell 0;have p1:=R.o.cell 1;have p2:=R.o.cell 2;have p3:=R.o.cell 3;have p4:=R.o.cell 4;have p5:=R.o.cell 5;have p6:=R.o.cell 6;have p7:=R.o.cell 7;have p8:=R.o.cell 8;have q:=R.o.lt;have cu:=J R.o.lies.reads;have ao:O (Q.b.sent=u/\Aq Q.b.log Q.b.self=own):=J (by
   have h:=ay.o.1;rw[bn.o] at h;simp only[BM.st,St.mk.injEq] at h;obtain⟨e1,e2,e3,e4,e5,e6,e7,e8,e9⟩:=h;exact⟨e6,by rw[e4,e1,b6.o]⟩)
  have aj:O (Df Q.cs j=Db Q.cs (AZ (Ar Q.cs.s.views)) 11 (AF [Q.b.base,(Aq Q.b.log Q.b.self:Int)+1+(j:Int)]++Bq (Do Q.b.st ((Aq Q.b.log Q.b.self:Int)+1+(j:Int))))):=J rfl;have b9:O (AZ (Ar Q.cs.s.views)=sq):=J (by
   have h1:Q.cs.s.views=M7.b.st.views:=by show Q.b.st.views=_;rw[ay.o.1]
   rw[h1,an.o.1,HM.o];show AZ (Ar (vws _))=sq;rw[b4.o];exact bt.o)
  rw[b9.o] at aj;have c8:=am.o.pn;have bo:=am.o.pend;have bz:=FJ Q.b.st.log Q.b.st.stable.toNat Q.b.st.self;have b7:=J am.o.pp;obtain⟨MM,ba⟩:∃y,y=Q:=⟨_,rfl⟩;have cw:=J ba;rw[<-ba] at R az;have bm:O (Df MM.cs j=Db MM.cs sq 11 (AF [Q.b.base,(Aq Q.b.log Q.b.self:Int)+1+(j:Int)]++Bq (Do Q.b.st ((Aq Q.b.log Q.b.self:Int)+1+(j:Int))))):=J (by rw[ba];exact aj.o);clear ba l1 l2 l3 aj br;obtain⟨⟨self,base,z,u,Av,cv,vs,Al,cl,D,Ap,cp,F,Am,cm,G,Af,cf,ad⟩,Ak,ck,pk,Ad,cd,dl⟩:=Q;simp only at ao;obtain⟨c9,bh⟩:=ao.o;subst c9;simp only[BM.st] at c8 bo bz b7;rw[bh] at bm;have dd:=J bh;have db:u - own<=F.length:=by rw[bh] at bz;omega
  clear bh bo bz ao;replace p0:wr.cell? (Z p 0)=some (I self):=p0;replace p1:wr.cell? (Z p 1)=some (.slice Av vs.length cv):=p1;replace p2:wr.cell? (Z p 2)=some (I base):=p2;replace p3:wr.cell? (Z p 3)=some (.slice Al D.length cl):=p3;replace p4:wr.cell? (Z p 4)=some (I z):=p4;replace p5:wr.cell? (Z p 5)=some (I u):=p5;replace p6:wr.cell? (Z p 6)=some (.slice Ap F.length cp):=p6;replace p7:wr.cell? (Z p 7)=some (.slice Am G.length cm):=p7;replace p8:wr.cell? (Z p 8)=some (.slice Af ad.length cf):=p8;by_cases ah:(own:Int)+1+(j:Int)<=u
  .have c5:decide ((own:Int)+1+(j:Int)<=u)=true:=by simpa using ah
   obtain⟨ix,c7⟩:∃ix:Nat,(F.length:Int) - 1 - (u - ((own:Int)+1+(j:Int)))=(ix:Int):=⟨((F.length:Int) - 1 - (u - ((own:Int)+1+(j:Int)))).toNat,U⟩;obtain⟨pl,ag⟩:∃pl,F[ix]?=some pl:=⟨_,zY U⟩;have cy:=J ag;have dc:pl.length<=6000:=b7.o pl (zX ag);obtain⟨bd,ab⟩:∃l,l=AF [base,(own:Int)+1+(j:Int)]++Bq pl:=⟨_,rfl⟩;have ax:=J ab;have bb:bd.length<=100000000:=by
    rw[ab];have h1:=DN [base,(own:Int)+1+(j:Int)];have h2:=BW (v:=pl.length) (by unfold U64;omega);unfold Bq;simp only[zA,zK,List.length_nil] at *;omega
   have ak:O (Df MM.cs j=Db MM.cs sq 11 bd):=J (by
    rw[bm.o,ab];congr 3;simp only[Do,BM.st];rw[c7];simp[ag])
   have dg:IntKind.i64.wrap ((own:Int)+1+(j:Int)+1)=(own:Int)+1+(j:Int)+1:=IntWalk.i64_in _ U;clear ag ab;go_wp2;refine eC 17 (λw'=>w'.cell? (Z p 0)=some (I self)/\w'.cell? (Z p 1)=some (.slice Av vs.length cv)/\w'.cell? (Z p 2)=some (I base)/\w'.cell? (Z p 3)=some (.slice Al D.length cl)/\w'.cell? (Z p 4)=some (I z)/\w'.cell? (Z p 5)=some (I u)/\w'.cell? (Z p 6)=some (.slice Ap F.length cp)/\w'.cell? (Z p 7)=some (.slice Am G.length cm)/\w'.cell? (Z p 8)=some (.slice Af ad.length cf)) ⟨by simpa using p0,by simpa using p1,by simpa using p2,by simpa using p3,by simpa using p4,by simpa using p5,by simpa using p6,by simpa using p7,by simpa using p8⟩ (λyH=>?_);refine ec 0 ?_;refine ec 4 ?_;refine ec 10 ?_;refine ea 14 ?_;refine eB 8 λK X=>?_;go_simp;clear yH;refine X.out _ _ ⟨(Cg q).trans p0,(Cg q).trans p1,(Cg q).trans p2,(Cg q).trans p3,(Cg q).trans p4,(Cg q).trans p5,(Cg q).trans p6,(Cg q).trans p7,(Cg q).trans p8⟩ (λyH=>?_);clear X K;try simp only[Act.put,Au,Aw,Ay]
   refine eB 9 λK X=>?_;go_simp;go_at_call 48;refine(Gb _ 2 [base,(own:Int)+1+(j:Int)] _ (by exact Ho (Of _ _ _) zj) zj).mono ?_;rintro e2 w6 ⟨A2,c2,rfl,cb,c0,ai,aw⟩;have X6:O (V wr w6):=J (((V.new _ _).trans zW).trans aw);have a9:=J ai.row;clear ai aw;have r0:w6.cell? (Z p 0)=some (I self):=by rw[X6.o.cell (by exact q)];exact p0
   have r1:w6.cell? (Z p 1)=some (.slice Av vs.length cv):=by rw[X6.o.cell (by exact q)];exact p1
   have r2:w6.cell? (Z p 2)=some (I base):=by rw[X6.o.cell (by exact q)];exact p2
   have r3:w6.cell? (Z p 3)=some (.slice Al D.length cl):=by rw[X6.o.cell (by exact q)];exact p3
   have r4:w6.cell? (Z p 4)=some (I z):=by rw[X6.o.cell (by exact q)];exact p4
   have r5:w6.cell? (Z p 5)=some (I u):=by rw[X6.o.cell (by exact q)];exact p5
   have r6:w6.cell? (Z p 6)=some (.slice Ap F.length cp):=by rw[X6.o.cell (by exact q)];exact p6
   have r7:w6.cell? (Z p 7)=some (.slice Am G.length cm):=by rw[X6.o.cell (by exact q)];exact p7
   have r8:w6.cell? (Z p 8)=some (.slice Af ad.length cf):=by rw[X6.o.cell (by exact q)];exact p8
   clear yH;refine X.out _ _ ⟨r0,r1,r2,r3,r4,r5,r6,r7,r8⟩ (λyH=>?_);clear X K;try simp only[Act.put,Au,Aw,Ay]
   refine eB 15 λK X=>?_;go_simp;go_at_call 112;refine(Nw ⟨self,base,z,u,Av,cv,vs,Al,cl,D,Ap,cp,F,Am,cm,G,Af,cf,ad⟩ z Ap ((own:Int)+1+(j:Int)) ix pl _ rfl (cu.o.ext X6.o) (by simp only;omega) ⟨by simp only;omega,by simp only;omega⟩ ⟨U,U⟩ (by simp only;omega) (by exact cy.o)).mono ?_;rintro e3 W ⟨rfl,b2⟩;have T:O (V wr W):=X6.o.t b2;have b8:=a9.o.e b2;clear b2;have s0:W.cell? (Z p 0)=some (I self):=by rw[T.o.cell (by exact q)];exact p0
   have s1:W.cell? (Z p 1)=some (.slice Av vs.length cv):=by rw[T.o.cell (by exact q)];exact p1
   have s2:W.cell? (Z p 2)=some (I base):=by rw[T.o.cell (by exact q)];exact p2
   have s3:W.cell? (Z p 3)=some (.slice Al D.length cl):=by rw[T.o.cell (by exact q)];exact p3
   have s4:W.cell? (Z p 4)=some (I z):=by rw[T.o.cell (by exact q)];exact p4
   have s5:W.cell? (Z p 5)=some (I u):=by rw[T.o.cell (by exact q)];exact p5
   have s6:W.cell? (Z p 6)=some (.slice Ap F.length cp):=by rw[T.o.cell (by exact q)];exact p6
   have s7:W.cell? (Z p 7)=some (.slice Am G.length cm):=by rw[T.o.cell (by exact q)];exact p7
   have s8:W.cell? (Z p 8)=some (.slice Af ad.length cf):=by rw[T.o.cell (by exact q)];exact p8
   clear yH;refine X.out _ _ ⟨s0,s1,s2,s3,s4,s5,s6,s7,s8⟩ (λyH=>?_);clear X K;try simp only[Act.put,Au,Aw,Ay]
   refine eB 16 λK X=>?_;go_simp;go_at_call 120;refine(Md A2 c2 (AF [base,(own:Int)+1+(j:Int)]) pl _ b8.o (by have:=DN [base,(own:Int)+1+(j:Int)];simp at this;omega) U).mono ?_;rintro e4 w9 ⟨A4,c4,rfl,c3,de,bx,cr⟩;rw[<-ax.o] at c3 bx|-;have X9:O (V wr w9):=T.o.t cr;have cz:=J bx.row;clear bx cr;have t0:w9.cell? (Z p 0)=some (I self):=by rw[X9.o.cell (by exact q)];exact p0
   have t1:w9.cell? (Z p 1)=some (.slice Av vs.length cv):=by rw[X9.o.cell (by exact q)];exact p1
   have t2:w9.cell? (Z p 2)=some (I base):=by rw[X9.o.cell (by exact q)];exact p2
   have t3:w9.cell? (Z p 3)=some (.slice Al D.length cl):=by rw[X9.o.cell (by exact q)];exact p3
   have t4:w9.cell? (Z p 4)=some (I z):=by rw[X9.o.cell (by exact q)];exact p4
   have t5:w9.cell? (Z p 5)=some (I u):=by rw[X9.o.cell (by exact q)];exact p5
   have t6:w9.cell? (Z p 6)=some (.slice Ap F.length cp):=by rw[X9.o.cell (by exact q)];exact p6
   have t7:w9.cell? (Z p 7)=some (.slice Am G.length cm):=by rw[X9.o.cell (by exact q)];exact p7
   have t8:w9.cell? (Z p 8)=some (.slice Af ad.length cf):=by rw[X9.o.cell (by exact q)];exact p8
   clear yH;refine X.out _ _ ⟨t0,t1,t2,t3,t4,t5,t6,t7,t8⟩ (λyH=>?_);clear X K;try simp only[Act.put,Au,Aw,Ay]
   refine eH ?_;go_wp2_with fail;refine(Iv MM B ac p sq 11 A4 c4 bd w9 (R.o.ext X9.o) cz.o bb zd (by have:=ay.o.2;rw[cw.o];simp only at this|-;omega)).mono ?_;rintro en w5 ⟨m5,aa,rfl,bc,bf,bi⟩;have S5:O (Stp B [1,2,3,4,5,7] af w7 aa w5):=HS.o.t ((Stp.ext' R.o.Bsz X9.o).trans bi);have bv:j+1<=Fc M7.b.st:=by have:=al.o;omega
   go_wp2;go_roundw
   case rel=>exact⟨j+1,m5,aa,by go_num,bv,J bc,J (by rw[bf,Tt,<-az.o,ak.o]),S5⟩
   case measure=>simp[intOf];omega
  .have c5:decide ((own:Int)+1+(j:Int)<=u)=false:=by simpa using ah
   have bv:j=Fc M7.b.st:=by have:=al.o;omega
   subst bv;go_wp2;go_end0;rw[bl.o,<-az.o]
   exact⟨MM,ac,rfl,R.o,rfl,S7.o.trans HS.o⟩
theorem MD{a b:Vw}(h:CT a b=true):AK b.1 b.2=true/\b.1=a.1+1:=by
 unfold CT at h;simp only[zE] at h;have j:=Vt h;exact⟨j.2.2.2.2.2.2.2.2,j.2.1⟩
theorem HU{l:List Vw}(h:Bv l=true):1<=l.length/\l.length<=2000/\AK (Bu l 0).1 (Bu l 0).2=true/\∀i,i<l.length - 1->CT (Bu l i) (Bu l (i+1))=true:=by
 unfold Bv at h;simp only[zB,zE,List.all_eq_true,List.mem_range] at h;exact⟨h.1,h.2.1,h.2.2.1,h.2.2.2⟩
theorem Im{l:List Vw}(h:Bv l=true):∀i,i<l.length->AK (Bu l i).1 (Bu l i).2=true:=by
 obtain⟨u,y,j,q⟩:=HU h;intro i z
 match i with
 | 0=>exact j
 | i+1=>exact(MD (q i U)).1
theorem JQ{l:List Vw}(h:Bv l=true):AK (Ar l).1 (Ar l).2=true:=Im h _ (by have:=(HU h).1;omega)
theorem UO{xs:List Int}(h:∀x∈xs,I64 x):(BL xs).length<=11*xs.length:=by
 have:=Jt h xs.length;rwa [List.take_length] at this
theorem Jc(n:Int)(xs:List Int):(DH n xs).length<=200:=by
 unfold DH;split
 .next h=>
  have u:=Dk h;have y:=Ev h;have j:∀x∈xs,I64 x:=by
   intro x q;unfold AK at h;simp only[zB] at h;have:=((DM (m:=16)).1 h.2).2.2.2 x q;unfold I64;omega
  have z:=UO j;have D:=BW (v:=n.toNat) (by unfold U64;omega);have F:=BW (v:=xs.length) (by unfold U64;omega);simp only[zA];omega
 .simp
theorem Yf{l:List Ent}(h:Bc l=true):∀e∈l,e.p.length<=6000:=by
 intro e z;obtain⟨i,y,rfl⟩:=List.mem_iff_getElem.1 z;have j:=(Ip h).2 i y;rw[GX (zY y)] at j;unfold Di at j;split at j
 .simp only[zB] at j;have q:=j.2;unfold DB at q;simp only[zB,zE] at q;have u:=congrArg Ent.p q.2.2;unfold AP at u;simp only at u;rw[u];have:=Jc (Cu (l[i]).p).1 (Cu (l[i]).p).2.1;omega
 .simp only[zB,zE] at j;exact j.2.1
theorem VT{l:List Ent}{b:Int}(h:Bi l b=true):∀e∈l,e.p.length<=6000:=by
 unfold Bi at h;split at h
 .intro e j;simp only[zE] at h;have:l=[]:=List.eq_nil_of_length_eq_zero h;subst this;simp at j
 .simp only[zB] at h;exact Yf h.2.1
theorem Wg{s:St}(h:Dp s=true):(s.marks.length=0\/(AD s=true/\AE s=true))/\(s.fls.length=0\/(AD s=false/\AE s=true))/\(∀i x,s.marks[i]?=some x->Fw s i x=true)/\∀i f,s.fls[i]?=some f->GB s i f=true:=by
 unfold Dp at h;simp only[zB,Bool.or_eq_true,zE,List.all_eq_true,List.mem_range,Bool.not_eq_true'] at h;obtain⟨u,y,z,D⟩:=h;refine⟨u,y,λi x q=>?_,λi f j=>?_⟩
 .have:=z i (zZ q).1;unfold DE at this;rw[q] at this;exact this
 .have:=D i (zZ j).1;unfold Ea at this;rw[j] at this;exact this
theorem Ft{s:St}(h:AM s=true):OkS s:=by
 obtain⟨W,z,X,F,D,h6,G,K,Q,j,q,u,y⟩:=Kf h;refine⟨(DY z).1,K,Q,G,F,q,j,Kg D,VT D,u,λx T=>?_,JQ z⟩;obtain⟨i,R,rfl⟩:=List.mem_iff_getElem.1 T;have:=(Wg y).2.2.1 i _ (zY R);unfold Fw at this;simp only[zB,zE] at this;exact this.2.2.2
def Q7(n:Nat)(m:CM):Prop:=NewAt n m.Ak (pkE.cells m.pk)/\∀k∈m.pk,NewAt n k.A (Aj k.bs)
def ID(w:World)(r:Cs)(en:Ending)(w':World):Prop:=
 ∃m:CM,en=.returned (.tuple #[.agg m.b.cells,.slice m.Ak m.pk.length m.ck,.slice m.Ad m.dl.length m.cd])/\m.cs=r/\m.b.Reads w'/\m.b.Fits/\pkE.Box w' m.Ak m.pk/\Row w' m.Ad (Aa.cells m.dl)/\V w w'/\m.b.New w.heap.size/\NewAt w.heap.size m.Ad (Aa.cells m.dl)/\Q7 w.heap.size m
theorem Cx{w:World}{r q i:Nat}{a0 a1 a2 a3 a4 a5 a6 a7 a8:Value}(h:q≠r):((((((((((w.setCell (Z r 0) (a0)).setCell (Z r 1) (a1)).setCell (Z r 2) (a2)).setCell (Z r 3) (a3)).setCell (Z r 4) (a4)).setCell (Z r 5) (a5)).setCell (Z r 6) (a6)).setCell (Z r 7) (a7)).setCell (Z r 8) (a8))).drew.cell? (Z q i)=w.cell? (Z q i):=by
 have f:∀(W:World) (j:Nat) (v:Value),(W.setCell (Z r j) v).cell? (Z q i)=W.cell? (Z q i):=λW j v=>World.cell?_setCell_far W _ _ v (Ne.symm h);have g:∀W:World,W.drew.cell? (Z q i)=W.cell? (Z q i):=λ_=>rfl;rw[g,f,f,f,f,f,f,f,f,f]
theorem WU{w G W:World}{B p:Nat}{col q:Nat->Nat}{m:CM}{r:Cs}(h:CS G B col p m)(s:Stp w.heap.size [8] col G q W)(j:m.cs=r)(K:V w W)(y:∀k,k<w.heap.size->col k=8):ID w r (.returned (.tuple #[.agg m.b.cells,.slice m.Ak m.pk.length m.ck,.slice m.Ad m.dl.length m.cd])) W:=by
 refine⟨m,rfl,j,?_,h.fits,⟨?_,λk u=>⟨(h.ki k u).1,λr j=>?_⟩⟩,s.row h.dl.row (h.dc.row h.dl) zj,K,h.lies.new y,(h.dc.row h.dl).new y zd,(h.kc.row h.pk).new y zd,λk u=>(h.ki k u).2.2.new y zd⟩
 .have:=h.lies;exact⟨⟨s.row this.vs.1 this.vc zj,λv F=>⟨(this.vs.2 v F).1,λr j=>by have D:=j;simp only[AL,zC,zN,or_false] at j;subst j;exact s.row ((this.vs.2 v F).2 _ D) (this.vi v F) zj⟩⟩,s.row this.log.row (this.lc.row this.log) zj,s.row this.pend this.pc zj,s.row this.marks.row (this.mc.row this.marks) zj,s.row this.fls.row (this.fc.row this.fls) zj,λf z=>⟨(this.fi f z).1,λr j=>by simp only[flE,zC,zN,or_false] at j;subst j;exact s.row (this.fi f z).2.1 (this.fi f z).2.2 zj⟩⟩
 .exact s.row h.pk.row (h.kc.row h.pk) zj
 .simp only[pkE,zC,zN,or_false] at j;subst j;exact s.row (h.ki k u).2.1 (h.ki k u).2.2 zj
theorem Zf{w:World}{B:Nat}{col:Nat->Nat}{b:BM}(z:b.Lies w B col)(y:b.Fits)(D:b.pend.length<=b.cp)(u:B<=w.heap.size)(v:Value)(t:TypeId) :
  CS ((w.alloc (.cells (⟨b,none,0,[],none,0,[]⟩:CM).cells 86)).alloc (.cells #[v] t)) B (As (As col w.heap.size 1) (w.heap.size+1) 8) w.heap.size ⟨b,none,0,[],none,0,[]⟩:=by
 have e:V w ((w.alloc (.cells (⟨b,none,0,[],none,0,[]⟩:CM).cells 86)).alloc (.cells #[v] t)):=(V.new _ _).trans (V.new _ _);refine⟨(BIs.new _ _ _).ext (V.new _ _),by rw[AV U,Eh (zR _)],u,z.ext e (λk h=>by rw[AV U,AV h]),Elem.Own.nil _ _,λq j=>by simp[Value.ownBlock] at j,λk h=>by simp at h,Elem.Own.nil _ _,λq j=>by simp[Value.ownBlock] at j,y,D⟩
end Go.Proofs.YtponbabbabnaeaaGreat
