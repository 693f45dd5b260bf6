/- Part 24: contracts of functions. Conditions: as each theorem says. -/
import Derived.Test.YtponbabbabnaeaaGreatQh16
import Derived.Test.YtponbabbabnaeaaGreatQh17
set_option maxRecDepth 100000
set_option maxHeartbeats 40000000
set_option linter.unusedVariables false
namespace Go.Proofs.YtponbabbabnaeaaGreat
open Proofs.Tryz
open Go.RowKit
theorem JX(A K:Option Addr)(c c':Nat)(xs ys:List Ent)(w:World)(h:Row w A (Aa.cells xs))(X:Row w K (Aa.cells ys))(hn:xs.length<=1000000000) :
  Calls prog 20 #[.slice A xs.length c,.slice K ys.length c'] w λe w'=>e=.returned (.bool (CD xs ys))/\V w w':=by
 have H:=J h;have H':=J X;clear h X;by_cases u:xs.length=ys.length
 .have z:=J u;have hb:((xs.length:Int) != (ys.length:Int))=false:=by simp[u]
  have ae:ys.length<=xs.length:=U;have ad:xs.length<=ys.length:=U;clear u;go_enter func20,ntmps20;go_wp2;go_loopw [5] (λi wr=>∃k:Nat,k<=xs.length/\i=I k/\O (xs.take k=ys.take k)/\O (V w wr)) (λi _=>xs.length - (intOf i).toNat)
  case atStart=>exact⟨0,zO _,rfl,J rfl,J (V.refl _)⟩
  case round=>
   obtain⟨k,hk,rfl,Q,F⟩:=hrel;by_cases D:k<xs.length
   .obtain⟨b,af,x,rfl,ab,c0,c1,c2,c3,R⟩:=C9 (H.o.ext F.o) D;obtain⟨b',aa,y,rfl,ac,d0,d1,d2,d3,T⟩:=C9 (H'.o.ext F.o) (show k<ys.length by omega);have G:=Lt x y;unfold CL at G;have W:∀n,O (V w (wr.drewN n)):=λn=>J (F.o.drewN n);by_cases j:x=y
    .have q:=J j;rw[decide_eq_true j] at G;clear j;go_wp2;go_quiet (fail);go_wp2;go_roundw
     case rel=>exact⟨k+1,U,by go_num,J (Qa R.o T.o q.o Q.o),W _⟩
     case measure=>simp[intOf];omega
    .have q:=J j;rw[decide_eq_false j] at G;clear j;go_wp2;go_quiet (fail);go_wp2;go_ret;exact⟨AC (PE R.o T.o q.o).symm,(W _).o⟩
   .go_wp2;go_ret;exact⟨AC (Qz D z.o Q.o).symm,F.o⟩
 .have q:O (CD xs ys=false):=J (decide_eq_false λe=>u (by rw[e]));have hb:((xs.length:Int) != (ys.length:Int))=true:=zm;clear u;go_enter func20,ntmps20;go_wp2;go_ret;exact⟨AC q.o.symm,V.refl _⟩
theorem J2(A j:Option Addr)(k y c u:Nat)(xs ys:List Ent)(w:World)(h:Row w A (Aa.cells xs))(z:Row w j (Aa.cells ys))(D:k=xs.length)(q:y=ys.length)(F:k<=1000000000) :
  Calls prog 20 #[.slice A k c,.slice j y u] w λe w'=>e=.returned (.bool (CD xs ys))/\V w w':=by subst D q;exact JX A j c u xs ys w h z F
theorem DW{f:Func}{R:Ending->World->Prop}{tmps:Array Value}{W:World}{q k:Nat}{x0 x1 x2 x3 x4 x5 x6 x7 x8 u y z D F G K Q T:Value}(hf:f.results=#[.cell k 28])(hk:tmps[k]?.getD undef=.pointer (some (Z q 0)))(hB:BIs W q #[u,y,z,D,F,G,K,Q,T] 28)(h:∀j,Wrote q W j->R (.returned (.agg #[x0,x1,x2,x3,x4,x5,x6,x7,x8])) j) :
  bodyPost prog f R .ret {tmps:=tmps,defers:=[]} (((((((((W.setCell (Z q 0) x0).setCell (Z q 1) x1).setCell (Z q 2) x2).setCell (Z q 3) x3).setCell (Z q 4) x4).setCell (Z q 5) x5).setCell (Z q 6) x6).setCell (Z q 7) x7).setCell (Z q 8) x8):=by
 have X:=Ba (x0:=u) (x1:=y) (x2:=z) (x3:=D) (x4:=F) (x5:=G) (x6:=K) (x7:=Q) (x8:=T) (a0:=x0) (a1:=x1) (a2:=x2) (a3:=x3) (a4:=x4) (a5:=x5) (a6:=x6) (a7:=x7) (a8:=x8) hB;have HW:=h (((((((((W.setCell (Z q 0) x0).setCell (Z q 1) x1).setCell (Z q 2) x2).setCell (Z q 3) x3).setCell (Z q 4) x4).setCell (Z q 5) x5).setCell (Z q 6) x6).setCell (Z q 7) x7).setCell (Z q 8) x8) AS;generalize (((((((((W.setCell (Z q 0) x0).setCell (Z q 1) x1).setCell (Z q 2) x2).setCell (Z q 3) x3).setCell (Z q 4) x4).setCell (Z q 5) x5).setCell (Z q 6) x6).setCell (Z q 7) x7).setCell (Z q 8) x8)=j at *;obtain⟨n0,n1,n2,n3,n4,n5,n6,n7,n8⟩:=nine X;exact bodyPost_ret (by simp[results,hf,go_sem,hk,n0,n1,n2,n3,n4,n5,n6,n7,n8]) rfl HW
theorem Fi{f:Func}{R:Ending->World->Prop}{tmps:Array Value}{W:World}{q k u:Nat}{x0 x1 x2 x3 x4 x5 x6 x7 x8 y z D F G K Q T X v1:Value}(hf:f.results=#[.cell k 28,.tmp u])(hk:tmps[k]?.getD undef=.pointer (some (Z q 0)))(h1:tmps[u]?.getD undef=v1)(hB:BIs W q #[y,z,D,F,G,K,Q,T,X] 28)(h:∀j,Wrote q W j->R (.returned (.tuple #[.agg #[x0,x1,x2,x3,x4,x5,x6,x7,x8],v1])) j) :
  bodyPost prog f R .ret {tmps:=tmps,defers:=[]} (((((((((W.setCell (Z q 0) x0).setCell (Z q 1) x1).setCell (Z q 2) x2).setCell (Z q 3) x3).setCell (Z q 4) x4).setCell (Z q 5) x5).setCell (Z q 6) x6).setCell (Z q 7) x7).setCell (Z q 8) x8):=by
 have BN:=Ba (x0:=y) (x1:=z) (x2:=D) (x3:=F) (x4:=G) (x5:=K) (x6:=Q) (x7:=T) (x8:=X) (a0:=x0) (a1:=x1) (a2:=x2) (a3:=x3) (a4:=x4) (a5:=x5) (a6:=x6) (a7:=x7) (a8:=x8) hB;have HW:=h (((((((((W.setCell (Z q 0) x0).setCell (Z q 1) x1).setCell (Z q 2) x2).setCell (Z q 3) x3).setCell (Z q 4) x4).setCell (Z q 5) x5).setCell (Z q 6) x6).setCell (Z q 7) x7).setCell (Z q 8) x8) AS;generalize (((((((((W.setCell (Z q 0) x0).setCell (Z q 1) x1).setCell (Z q 2) x2).setCell (Z q 3) x3).setCell (Z q 4) x4).setCell (Z q 5) x5).setCell (Z q 6) x6).setCell (Z q 7) x7).setCell (Z q 8) x8)=j at *;obtain⟨n0,n1,n2,n3,n4,n5,n6,n7,n8⟩:=nine BN;exact bodyPost_ret (by simp[results,hf,go_sem,hk,h1,n0,n1,n2,n3,n4,n5,n6,n7,n8]) rfl HW
theorem IL{f:Func}{R:Ending->World->Prop}{tmps:Array Value}{W:World}{q k u y:Nat}{x0 x1 x2 x3 x4 x5 x6 x7 x8 z D F G K Q T X y8 v1 v2:Value}(hf:f.results=#[.cell k 28,.tmp u,.tmp y])(hk:tmps[k]?.getD undef=.pointer (some (Z q 0)))(h1:tmps[u]?.getD undef=v1)(h2:tmps[y]?.getD undef=v2)(hB:BIs W q #[z,D,F,G,K,Q,T,X,y8] 28)(h:∀j,Wrote q W j->R (.returned (.tuple #[.agg #[x0,x1,x2,x3,x4,x5,x6,x7,x8],v1,v2])) j) :
  bodyPost prog f R .ret {tmps:=tmps,defers:=[]} (((((((((W.setCell (Z q 0) x0).setCell (Z q 1) x1).setCell (Z q 2) x2).setCell (Z q 3) x3).setCell (Z q 4) x4).setCell (Z q 5) x5).setCell (Z q 6) x6).setCell (Z q 7) x7).setCell (Z q 8) x8):=by
 have BN:=Ba (x0:=z) (x1:=D) (x2:=F) (x3:=G) (x4:=K) (x5:=Q) (x6:=T) (x7:=X) (x8:=y8) (a0:=x0) (a1:=x1) (a2:=x2) (a3:=x3) (a4:=x4) (a5:=x5) (a6:=x6) (a7:=x7) (a8:=x8) hB;have HW:=h (((((((((W.setCell (Z q 0) x0).setCell (Z q 1) x1).setCell (Z q 2) x2).setCell (Z q 3) x3).setCell (Z q 4) x4).setCell (Z q 5) x5).setCell (Z q 6) x6).setCell (Z q 7) x7).setCell (Z q 8) x8) AS;generalize (((((((((W.setCell (Z q 0) x0).setCell (Z q 1) x1).setCell (Z q 2) x2).setCell (Z q 3) x3).setCell (Z q 4) x4).setCell (Z q 5) x5).setCell (Z q 6) x6).setCell (Z q 7) x7).setCell (Z q 8) x8)=j at *;obtain⟨n0,n1,n2,n3,n4,n5,n6,n7,n8⟩:=nine BN;exact bodyPost_ret (by simp[results,hf,go_sem,hk,h1,h2,n0,n1,n2,n3,n4,n5,n6,n7,n8]) rfl HW
theorem Hp{f:Func}{R:Ending->World->Prop}{tmps:Array Value}{W:World}{q k u y z:Nat}{x0 x1 x2 x3 x4 x5 x6 x7 x8 y0 y1 y2 y3 y4 y5 y6 y7 y8 v1 v2 v3:Value}(X:f.results=#[.cell k 28,.tmp u,.tmp y,.tmp z])(hk:tmps[k]?.getD undef=.pointer (some (Z q 0)))(G:tmps[u]?.getD undef=v1)(K:tmps[y]?.getD undef=v2)(Q:tmps[z]?.getD undef=v3)(T:BIs W q #[y0,y1,y2,y3,y4,y5,y6,y7,y8] 28)(h:∀j,Wrote q W j->R (.returned (.tuple #[.agg #[x0,x1,x2,x3,x4,x5,x6,x7,x8],v1,v2,v3])) j) :
  bodyPost prog f R .ret {tmps:=tmps,defers:=[]} (((((((((W.setCell (Z q 0) x0).setCell (Z q 1) x1).setCell (Z q 2) x2).setCell (Z q 3) x3).setCell (Z q 4) x4).setCell (Z q 5) x5).setCell (Z q 6) x6).setCell (Z q 7) x7).setCell (Z q 8) x8):=by
 have D:=Ba (x0:=y0) (x1:=y1) (x2:=y2) (x3:=y3) (x4:=y4) (x5:=y5) (x6:=y6) (x7:=y7) (x8:=y8) (a0:=x0) (a1:=x1) (a2:=x2) (a3:=x3) (a4:=x4) (a5:=x5) (a6:=x6) (a7:=x7) (a8:=x8) T;have F:=h (((((((((W.setCell (Z q 0) x0).setCell (Z q 1) x1).setCell (Z q 2) x2).setCell (Z q 3) x3).setCell (Z q 4) x4).setCell (Z q 5) x5).setCell (Z q 6) x6).setCell (Z q 7) x7).setCell (Z q 8) x8) AS;generalize (((((((((W.setCell (Z q 0) x0).setCell (Z q 1) x1).setCell (Z q 2) x2).setCell (Z q 3) x3).setCell (Z q 4) x4).setCell (Z q 5) x5).setCell (Z q 6) x6).setCell (Z q 7) x7).setCell (Z q 8) x8)=j at *;obtain⟨n0,n1,n2,n3,n4,n5,n6,n7,n8⟩:=nine D;exact bodyPost_ret (by simp[results,X,go_sem,hk,G,K,Q,n0,n1,n2,n3,n4,n5,n6,n7,n8]) rfl F
theorem DG(w:World)(C:Array Value):O (V w ((w.alloc (.cells C 28)).alloc (.cells Yq 28)))/\O (BIs ((w.alloc (.cells C 28)).alloc (.cells Yq 28)) w.heap.size C 28)/\O (BIs ((w.alloc (.cells C 28)).alloc (.cells Yq 28)) (w.heap.size+1) Yq 28)/\w.heap.size+2<=((w.alloc (.cells C 28)).alloc (.cells Yq 28)).heap.size:=
 ⟨J ((V.new _ _).alloc _),J ((BIs.new _ _ _).ext (V.new _ _)),J (BIs.newAt (w:=w.alloc (.cells C 28)) Yq 28 zj),zj⟩
theorem ES(w:World)(C D:Array Value):O (V w (((w.alloc (.cells C 28)).alloc (.cells D 115)).alloc (.cells Yq 28)))/\O (BIs (((w.alloc (.cells C 28)).alloc (.cells D 115)).alloc (.cells Yq 28)) w.heap.size C 28)/\O (BIs (((w.alloc (.cells C 28)).alloc (.cells D 115)).alloc (.cells Yq 28)) (w.heap.size+1) D 115)/\O (BIs (((w.alloc (.cells C 28)).alloc (.cells D 115)).alloc (.cells Yq 28)) (w.heap.size+2) Yq 28)/\w.heap.size+3<=(((w.alloc (.cells C 28)).alloc (.cells D 115)).alloc (.cells Yq 28)).heap.size:=
 ⟨J (((V.new _ _).alloc _).alloc _),J (((BIs.new _ _ _).ext (V.new _ _)).ext (V.new _ _)),J ((BIs.newAt (w:=w.alloc (.cells C 28)) D 115 zj).ext (V.new _ _)),J (BIs.newAt (w:=(w.alloc (.cells C 28)).alloc (.cells D 115)) Yq 28 zj),zj⟩
def AT(bs:List UInt8)(p:Int):Int×Int:=
 if p<0 then (0,-1) else if (Az (bs.drop p.toNat)).2.2≠0\/1099511627776<(Az (bs.drop p.toNat)).1 then (0,-1) else ((Az (bs.drop p.toNat)).1,p+(Az (bs.drop p.toNat)).2.1)
def CO(bs:List UInt8)(p:Int):List UInt8×Int:=
 if p<0 then ([],-1) else if (BT (bs.drop p.toNat) 6000).2.2≠0 then ([],-1) else ((BT (bs.drop p.toNat) 6000).1,p+(BT (bs.drop p.toNat) 6000).2.1)
def GF(bs:List UInt8)(p:Int):Ent×Int:=
 let a:=AT bs p;let b:=AT bs a.2;let c:=AT bs b.2;let d:=CO bs c.2
 (⟨a.1,b.1,c.1,d.1⟩,d.2)
def FZ(bs:List UInt8):Nat->Int->List Ent->List Ent×Int
 | 0,p,out=>(out,p)
 | n+1,p,out=>if p<0 then (out,p) else FZ bs n (GF bs p).2 (out++[(GF bs p).1])
def Dr(bs:List UInt8)(p:Int):List Ent×Int:=
 if (AT bs p).2<0\/2000<(AT bs p).1 then ([],-1) else FZ bs (AT bs p).1.toNat (AT bs p).2 []
def Dy(bs:List UInt8)(m:Msg)(p:Int):Option Msg:=if p=bs.length then some m else none
def DT(kind:Int)(bs:List UInt8):Option Msg:=
 let a:=AT bs 0
 if kind=11 then Dy bs ⟨kind,a.1,(AT bs a.2).1,0,(CO bs (AT bs a.2).2).1,[]⟩ (CO bs (AT bs a.2).2).2
 else if kind=12 then Dy bs ⟨kind,a.1,(AT bs a.2).1,(AT bs (AT bs a.2).2).1,[],(Dr bs (AT bs (AT bs a.2).2).2).1⟩ (Dr bs (AT bs (AT bs a.2).2).2).2
 else if kind=13 then Dy bs ⟨kind,a.1,(AT bs a.2).1,0,[],[]⟩ (AT bs a.2).2
 else if kind=14 then (if a.2<0 then none else if (AR (bs.drop a.2.toNat)).2.2≠0\/(AR (bs.drop a.2.toNat)).1 < -1\/1099511627776<(AR (bs.drop a.2.toNat)).1 then none
  else Dy bs ⟨kind,a.1,(AR (bs.drop a.2.toNat)).1,0,[],(Dr bs (a.2+(AR (bs.drop a.2.toNat)).2.1)).1⟩ (Dr bs (a.2+(AR (bs.drop a.2.toNat)).2.1)).2)
 else Dy bs ⟨kind,a.1,0,0,[],(Dr bs a.2).1⟩ (Dr bs a.2).2
def CH(f:List UInt8):Option Msg:=
 if (Bj f).2.2.2≠0\/(Bj f).2.2.1≠f.length\/(Bj f).1<11\/15<(Bj f).1 then none else DT (Bj f).1 (Bj f).2.1
def Tie(bs:List UInt8)(p:Int)(r:Rd):Prop:=(r.2=true/\p = -1)\/(r.2=false/\0<=p/\p<=bs.length/\r.1=bs.drop p.toNat)
theorem MO{r:Rd}(h:r.2=true):(AN r).2.2=true:=by
 unfold AN CJ;split
 .rfl
 .split
  .rfl
  .exact h
theorem Nx{r:Rd}(h:r.2=true):(Ds r).2.2=true:=by
 unfold Ds CJ;split
 .rfl
 .exact h
section
variable {bs:List UInt8} {p:Int} {r:Rd}
theorem Gt(h:Tie bs p r):Tie bs (AT bs p).2 (AN r).2/\((AN r).2.2=false->(AT bs p).1=(AN r).1):=by
 rcases h with ⟨q,rfl⟩|⟨q,D,F,z⟩
 .have:=MO q;exact⟨.inl ⟨this,by unfold AT;rfl⟩,λh=>by rw[this] at h;cases h⟩
 .obtain⟨b,f⟩:=r;simp only at q z;subst q z;have y:=(Ek (bs.drop p.toNat)).2.1;rw[zD] at y;unfold AT AN CJ;rw[if_neg U];by_cases G:(1099511627776:Int)<(Az (bs.drop p.toNat)).1
  .have j:1099511627776<(Az (bs.drop p.toNat)).1:=U;rw[if_pos (.inr j),if_pos j];exact⟨.inl ⟨rfl,rfl⟩,λh=>by cases h⟩
  .have j:¬1099511627776<(Az (bs.drop p.toNat)).1:=U;by_cases u:(Az (bs.drop p.toNat)).2.2≠0
   .rw[if_pos (.inl u),if_neg j,if_pos u];exact⟨.inl ⟨rfl,rfl⟩,λh=>by cases h⟩
   .rw[if_neg (by simp only[not_or];exact⟨u,j⟩),if_neg j,if_neg u];refine⟨.inr ⟨rfl,by simp only;omega,by simp only;omega,?_⟩,λ_=>rfl⟩;simp only[List.drop_drop];congr 1;omega
theorem Pz(h:Tie bs p r):Tie bs (CO bs p).2 (Ds r).2/\((Ds r).2.2=false->(CO bs p).1=(Ds r).1):=by
 rcases h with ⟨j,rfl⟩|⟨j,z,D,y⟩
 .have:=Nx j;exact⟨.inl ⟨this,by unfold CO;rfl⟩,λh=>by rw[this] at h;cases h⟩
 .obtain⟨b,f⟩:=r;simp only at j y;subst j y;have u:=JC (bs.drop p.toNat) 6000;rw[zD] at u;unfold CO Ds CJ;rw[if_neg U];by_cases q:(BT (bs.drop p.toNat) 6000).2.2≠0
  .rw[if_pos q];simp only[if_pos q];exact⟨.inl ⟨rfl,rfl⟩,λh=>by cases h⟩
  .rw[if_neg q];simp only[if_neg q];refine⟨.inr ⟨rfl,U,U,?_⟩,λ_=>trivial⟩;simp only[List.drop_drop];congr 1;omega
theorem Gj(h:(AN r).2.2=false):r.2=false:=by
 cases hr:r.2 with
 | false=>rfl
 | true=>rw[MO hr] at h;cases h
theorem OV(h:(Ds r).2.2=false):r.2=false:=by
 cases hr:r.2 with
 | false=>rfl
 | true=>rw[Nx hr] at h;cases h
theorem Yc(h:Tie bs p r):Tie bs (GF bs p).2 (Eq r).2/\((Eq r).2.2=false->(GF bs p).1=(Eq r).1):=by
 obtain⟨a1,a2⟩:=Gt h;obtain⟨y,z⟩:=Gt a1;obtain⟨D,F⟩:=Gt y;obtain⟨G,K⟩:=Pz D;refine⟨G,λu=>?_⟩;have q:(AN (AN (AN r).2).2).2.2=false:=OV u;have j:=Gj q;have Q:=Gj j;show (⟨(AT bs p).1,(AT bs (AT bs p).2).1,(AT bs (AT bs (AT bs p).2).2).1,(CO bs (AT bs (AT bs (AT bs p).2).2).2).1⟩:Ent)=⟨(AN r).1,(AN (AN r).2).1,(AN (AN (AN r).2).2).1,(Ds (AN (AN (AN r).2).2).2).1⟩;rw[a2 Q,z j,F q,K u]
theorem If:∀(n:Nat) {r:Rd} {out:List Ent},r.2=true->(CB n r out).2.2=true
 | 0,_,_,h=>h
 | n+1,r,out,h=>by unfold CB;rw[if_pos h];exact h
theorem LB:∀(n:Nat) {p:Int} {r:Rd} (out:List Ent),Tie bs p r->Tie bs (FZ bs n p out).2 (CB n r out).2/\((CB n r out).2.2=false->(FZ bs n p out).1=(CB n r out).1)
 | 0,p,r,out,h=>⟨h,λ_=>rfl⟩
 | n+1,p,r,out,h=>by
  unfold FZ CB;rcases h with ⟨u,rfl⟩|h
  .rw[if_pos u,if_pos zd];exact⟨.inl ⟨u,rfl⟩,λ_=>rfl⟩
  .have F:Tie bs p r:=.inr h;rw[if_neg (c:=r.2=true) (by rw[h.1];simp),if_neg (c:=p<0) U];obtain⟨j,y⟩:=Yc F;cases hf:(Eq r).2.2 with
   | false=>
    rw[y hf];exact LB n _ j
   | true=>
    obtain⟨D,G⟩:=LB n (out++[(GF bs p).1]) j;have z:=If n (out:=out++[(GF bs p).1]) hf;have q:=If n (out:=out++[(Eq r).1]) hf;refine⟨.inl ⟨q,?_⟩,λh=>by rw[q] at h;cases h⟩;rcases D with ⟨_,g⟩|⟨g,_⟩
    .exact g
    .rw[z] at g;cases g
theorem Lp(h:Tie bs p r):Tie bs (Dr bs p).2 (Cj r).2/\((Cj r).2.2=false->(Dr bs p).1=(Cj r).1):=by
 obtain⟨a1,a2⟩:=Gt h;unfold Dr Cj;rcases a1 with ⟨a3,a4⟩|a1
 .have:(if 2000<(AN r).1 then ((AN r).2.1,true) else (AN r).2).2=true:=by split;rfl;exact a3
  have f:=If (AN r).1.toNat (out:=[]) this;rw[if_pos (.inl U)];exact⟨.inl ⟨f,rfl⟩,λh=>by rw[f] at h;cases h⟩
 .have e:=a2 a1.1;rw[e];by_cases j:2000<(AN r).1
  .rw[if_pos (.inr j),if_pos j];have f:=If (AN r).1.toNat (out:=[]) (r:=((AN r).2.1,true)) rfl;exact⟨.inl ⟨f,rfl⟩,λh=>by rw[f] at h;cases h⟩
  .rw[if_neg U,if_neg j];exact LB _ [] (.inr a1)
theorem Zt:∀(n:Nat) {r:Rd} {out:List Ent},(CB n r out).2.2=false->r.2=false:=by
 intro n r out h;cases hr:r.2 with
 | false=>rfl
 | true=>rw[If n hr] at h;cases h
theorem Jh(h:(Cj r).2.2=false):r.2=false:=by
 unfold Cj at h;have j:=Zt _ h;by_cases q:2000<(AN r).1
 .rw[if_pos q] at j;cases j
 .rw[if_neg q] at j;exact Gj j
theorem Iy(h:Tie bs p r){m y:Msg}(z:r.2=false->m=y):Dy bs m p=if r.2=false/\r.1.length=0 then some y else none:=by
 unfold Dy;rcases h with ⟨j,rfl⟩|⟨j,D,F,q⟩
 .rw[if_neg U,if_neg (by simp[j])]
 .rw[z j];by_cases u:p=bs.length
  .rw[if_pos u,if_pos ⟨j,by rw[q,zD];omega⟩]
  .rw[if_neg u,if_neg (by rw[q,zD];intro G;omega)]
end
def IP:Option (Msg×Rd)->Option Msg
 | none=>none
 | some (m,r)=>if r.2=false/\r.1.length=0 then some m else none
theorem Pq(f:List UInt8):CH f=Bd f:=by
 have e0:Bd f=if (Bj f).2.2.2≠0\/(Bj f).2.2.1≠f.length then none else IP (Dg (Bj f).1 ((Bj f).2.1,false)):=by
  unfold Bd IP;simp only;split
  .rfl
  .cases Dg (Bj f).1 ((Bj f).2.1,false) with
   | none=>rfl
   | some x=>rfl
 rw[e0];unfold CH;obtain⟨j,bs,n,er⟩:=Bj f;simp only;by_cases F:er≠0\/n≠f.length
 .rw[if_pos F,if_pos (by rcases F with h|h;exact .inl h;exact .inr (.inl h))]
 .rw[if_neg F];have T0:Tie bs 0 (bs,false):=.inr ⟨rfl,U,U,rfl⟩;obtain⟨a1,a2⟩:=Gt T0;by_cases R:j<11\/15<j
  .rw[if_pos (by rcases R with h|h;exact .inr (.inr (.inl h));exact .inr (.inr (.inr h)))];unfold Dg IP;simp only;rw[if_neg U,if_neg U,if_neg U,if_neg U,if_neg U]
  .rw[if_neg (by simp only[not_or] at F R|-;exact⟨F.1,F.2,R.1,R.2⟩)];unfold DT Dg;simp only;obtain⟨b1,b2⟩:=Gt a1;by_cases T:j=11
   .rw[if_pos T,if_pos T];obtain⟨c1,c2⟩:=Pz b1;exact Iy c1 λq=>by
     have Q:=OV q;have z:=Gj Q;rw[a2 z,b2 Q,c2 q]
   .rw[if_neg T,if_neg T];by_cases W:j=12
    .rw[if_pos W,if_pos W];obtain⟨c1,c2⟩:=Gt b1;obtain⟨G,K⟩:=Lp c1;exact Iy G λq=>by
      have e3:=Jh q;have Q:=Gj e3;have z:=Gj Q;rw[a2 z,b2 Q,c2 e3,K q]
    .rw[if_neg W,if_neg W];by_cases X:j=13
     .rw[if_pos X,if_pos X];exact Iy b1 λq=>by
       have z:=Gj q;rw[a2 z,b2 q]
     .rw[if_neg X,if_neg X];by_cases k4:j=14
      .rw[if_pos k4,if_pos k4];rcases a1 with ⟨f1,f2⟩|a1
       .rw[if_pos U];have D:(Ec (AN (bs,false)).2).2.2=true:=by
         unfold Ec CJ;split
         .rfl
         .split
          .rfl
          .exact f1
        unfold IP;simp only;rw[if_neg];rintro⟨g1,_⟩;rw[Jh g1] at D;cases D
       .rw[if_neg U];obtain⟨q1,q2,q3,q4⟩:=a1;obtain⟨u,ab⟩:∃u,u=(AT bs 0).2:=⟨_,rfl⟩;rw[<-ab] at q2 q3 q4|-;have aa:=Hh (bs.drop u.toNat);rw[zD] at aa;by_cases y:(AR (bs.drop u.toNat)).2.2≠0\/(AR (bs.drop u.toNat)).1 < -1\/1099511627776<(AR (bs.drop u.toNat)).1
        .rw[if_pos y];have D:(Ec (AN (bs,false)).2).2.2=true:=by
          unfold Ec CJ;rw[q4];split
          .rfl
          .next hx=>
           rcases y with y|y
           .rw[if_pos y]
           .exact absurd y hx
         unfold IP;simp only;rw[if_neg];rintro⟨g1,_⟩;rw[Jh g1] at D;cases D
        .rw[if_neg y];simp only[not_or] at y;have D:Ec (AN (bs,false)).2=((AR (bs.drop u.toNat)).1,bs.drop (u+(AR (bs.drop u.toNat)).2.1).toNat,false):=by
          unfold Ec CJ;rw[q4,if_neg (by simp only[not_or];exact y.2),if_neg y.1,q1,List.drop_drop];congr 3;omega
         have T2:Tie bs (u+(AR (bs.drop u.toNat)).2.1) (bs.drop (u+(AR (bs.drop u.toNat)).2.1).toNat,false):=.inr ⟨rfl,U,U,rfl⟩;obtain⟨G,K⟩:=Lp T2;rw[D];exact Iy G λq=>by
          rw[a2 q1,K q]
      .rw[if_neg k4,if_neg k4,if_pos U];obtain⟨G,K⟩:=Lp a1;exact Iy G λq=>by
        have z:=Jh q;rw[a2 z,K q]
theorem LY{P:Prop}(h:P:=by
 go_wp2_with fail;refine(Hw _ _ _ (bs.drop k) w F.o (by have:=z.o;omega) z.o.symm).mono ?_;rintro e w' ⟨rfl,rfl⟩;rw[y.o];unfold Ce;go_wp2;go_ret2
 exact⟨by rw[j.o];rfl,rfl⟩):P:=h
theorem Rp{P:Prop}(h:P:=by
 go_wp2_with fail;refine(Sj _ _ _ (bs.drop k) w F.o (by have:=z.o;omega) (by have:=z.o;omega) z.o.symm).mono ?_;rintro e w' ⟨rfl,rfl⟩;rw[y.o];unfold IN;go_wp2;go_ret2
 exact⟨by rw[j.o];rfl,rfl⟩):P:=h
theorem Hw(A:Option Addr)(c k:Nat)(bs:List UInt8)(w:World)(h:Row w A (Aj bs))(q:bs.length<=1000000000)(j:k=bs.length) :
  Calls prog 187 #[.slice A k c] w λe w'=>e=Ce (Az bs)/\w=w':=by subst j;exact Es A c bs w h q
theorem Sh(A:Option Addr)(c:Nat)(bs:List UInt8)(m:Nat)(w:World)(h:Row w A (Aj bs))(X:bs.length<=c)(z:bs.length<=1000000000)(hm:m<=1000000000) :
  Calls prog 190 #[.slice A bs.length c,I (m:Int)] w λe w'=>e=IN (BT bs m)/\w=w':=by
 have H:=J h;clear h;have ae:IntKind.u64.wrap (m:Int)=(m:Int):=DA (by unfold U64;omega);have ab:decide ((m:Int)<0)=false:=decide_eq_false U;have q:=Ek bs;obtain⟨⟨u,n,D⟩,F⟩:∃r,Az bs=r:=⟨_,rfl⟩;have y:=J F;rw[F] at q;simp only at q;obtain⟨_,hn,_⟩:=q;clear F;by_cases Q:D=0
 .subst Q;by_cases R:m<u
  .have j:O (BT bs m=([],0,5)):=J (by unfold BT A0;rw[y.o];simp[R]);have G:decide ((m:Int)<(u:Int))=true:=decide_eq_true U;go_enter func190,ntmps190;go_wp2_with fail;refine(Es A c bs w H.o z).mono ?_;rintro e w' ⟨rfl,rfl⟩;rw[y.o];unfold Ce;go_wp2;go_ret3
   refine⟨?_,rfl⟩;rw[j.o];rfl
  have G:decide ((m:Int)<(u:Int))=false:=decide_eq_false U;have ad:IntKind.u64.wrap ((bs.length:Int) - (n:Int))=(bs.length:Int) - (n:Int):=IntWalk.u64_in _ U;by_cases T:bs.length - n<u
  .have j:O (BT bs m=([],0,2)):=J (by unfold BT A0;rw[y.o];simp[R,T]);have K:decide ((bs.length:Int) - (n:Int)<(u:Int))=true:=decide_eq_true U;go_enter func190,ntmps190;go_wp2_with fail;refine(Es A c bs w H.o z).mono ?_;rintro e w' ⟨rfl,rfl⟩;rw[y.o];unfold Ce;go_wp2;go_ret3
   refine⟨?_,rfl⟩;rw[j.o];rfl
  have j:O (BT bs m=((bs.drop n).take u,n+u,0)):=J (by unfold BT A0;rw[y.o];simp[R,T]);have K:decide ((bs.length:Int) - (n:Int)<(u:Int))=false:=decide_eq_false U;have af:IntKind.i64.wrap (u:Int)=(u:Int):=IntWalk.i64_in _ U;have ac:∀W,(Instr.slice 29 (.slice A bs.length c) (some (I (n:Int))) (some (I ((n:Int)+(u:Int)))) none).run prog W=.ok (.slice (AO A n c 1) u (c - n)) W:=λW=>by
   have:=CG.slice_lh A bs.length c n (n+u) (n:Int) ((n:Int)+(u:Int)) rfl U U U W;rw[show n+u - n=u by omega] at this;exact this
  have aa:(convert 29 9 (.slice (AO A n c 1) u (c - n))).run prog w=.ok (.string (Ah ((bs.drop n).take u))) w:=
   EZ _ _ (D3 (by have:=Elem.row_sub (DZ H.o) X n (n+u);rw[List.drop_take,show n+u - n=u by omega] at this;exact this)) (by rw[zT,zD];omega)
  go_enter func190,ntmps190;go_wp2_with fail;refine(Es A c bs w H.o z).mono ?_;rintro e w' ⟨rfl,rfl⟩;rw[y.o];unfold Ce;go_wp2;go_ret3
  refine⟨?_,rfl⟩;rw[j.o];rfl
 .have j:O (BT bs m=([],0,D)):=J (by unfold BT A0;rw[y.o];simp[Q]);have hb:(D != 0)=true:=by simpa using Q
  go_enter func190,ntmps190;go_wp2_with fail;refine(Es A c bs w H.o z).mono ?_;rintro e w' ⟨rfl,rfl⟩;rw[y.o];unfold Ce;go_wp2;go_ret3
  refine⟨?_,rfl⟩;rw[j.o];rfl
theorem Sj(A:Option Addr)(c k:Nat)(bs:List UInt8)(w:World)(h:Row w A (Aj bs))(j:bs.length<=c)(u:bs.length<=1000000000)(q:k=bs.length) :
  Calls prog 190 #[.slice A k c,I 6000] w λe w'=>e=IN (BT bs 6000)/\w=w':=by subst q;exact Sh A c bs 6000 w h j u U
theorem SX(A:Option Addr)(c:Nat)(bs:List UInt8)(p:Int)(w:World)(h:Row w A (Aj bs))(hc:bs.length<=c)(hl:bs.length<=1000000000)(hp:p<=bs.length) :
  Calls prog 148 #[.slice A bs.length c,I p] w λe w'=>e=.returned (.tuple #[I (AT bs p).1,I (AT bs p).2])/\w=w':=by
 have H:=J h;clear h;by_cases D:p<0
 .have j:O (AT bs p=(0,-1)):=J (by unfold AT;rw[if_pos D]);have R:decide (p<0)=true:=decide_eq_true D;go_enter func148,ntmps148;go_wp2;go_ret2
  exact⟨by rw[j.o];rfl,rfl⟩
 have R:decide (p<0)=false:=decide_eq_false D;obtain⟨k,rfl⟩:∃k:Nat,p=(k:Int):=⟨p.toNat,U⟩;have hk:k<=bs.length:=U;have aa:∀W,(Instr.slice 29 (.slice A bs.length c) (some (I (k:Int))) none none).run prog W=.ok (.slice (AO A k c 1) (bs.length - k) (c - k)) W:=λW=>CG.slice_l A bs.length c k _ rfl hk W;have F:O (Row w (AO A k c 1) (Aj (bs.drop k))):=J (D3 (Elem.row_from (DZ H.o) hc k));have z:O ((bs.drop k).length=bs.length - k):=J zD;have q:=Ek (bs.drop k);rw[z.o] at q;have X:O (∀d,Az (bs.drop k)=d->AT bs (k:Int)=if d.2.2≠0\/1099511627776<d.1 then (0,-1) else ((d.1:Int),(k:Int)+d.2.1)):=J (by intro d G;subst G;unfold AT;rw[if_neg U,Int.toNat_natCast]);obtain⟨⟨u,n,er⟩,G⟩:∃r,Az (bs.drop k)=r:=⟨_,rfl⟩;have y:=J G;have j:=J (X.o _ G);rw[G] at q;simp only at q;obtain⟨_,hn,_⟩:=q;clear G X D;by_cases K:er=0
 .subst K;by_cases Q:1099511627776<u
  .have T:decide ((1099511627776:Int)<(u:Int))=true:=decide_eq_true U;replace j:O (AT bs (k:Int)=(0,-1)):=J (by rw[j.o];exact if_pos (.inr Q));clear Q;go_enter func148,ntmps148;exact LY
  .have T:decide ((1099511627776:Int)<(u:Int))=false:=decide_eq_false U;replace j:O (AT bs (k:Int)=((u:Int),(k:Int)+n)):=J (by rw[j.o];exact if_neg (by simpa using Q));have ac:IntKind.i64.wrap (u:Int)=(u:Int):=IntWalk.i64_in _ U;have ab:IntKind.i64.wrap ((k:Int)+(n:Int))=(k:Int)+(n:Int):=IntWalk.i64_in _ U;clear Q;go_enter func148,ntmps148;exact LY
 .have hb:(er != 0)=true:=by simpa using K
  replace j:O (AT bs (k:Int)=(0,-1)):=J (by rw[j.o];exact if_pos (.inl K));clear K;go_enter func148,ntmps148;exact LY
theorem TC(A:Option Addr)(c:Nat)(bs:List UInt8)(p:Int)(w:World)(h:Row w A (Aj bs))(X:bs.length<=c)(hl:bs.length<=1000000000)(hp:p<=bs.length) :
  Calls prog 149 #[.slice A bs.length c,I p] w λe w'=>e=.returned (.tuple #[.string (Ah (CO bs p).1),I (CO bs p).2])/\w=w':=by
 have H:=J h;clear h;by_cases q:p<0
 .have j:O (CO bs p=([],-1)):=J (by unfold CO;rw[if_pos q]);have Q:decide (p<0)=true:=decide_eq_true q;go_enter func149,ntmps149;go_wp2;go_ret2
  exact⟨by rw[j.o];rfl,rfl⟩
 have Q:decide (p<0)=false:=decide_eq_false q;obtain⟨k,rfl⟩:∃k:Nat,p=(k:Int):=⟨p.toNat,U⟩;have hk:k<=bs.length:=U;have aa:∀W,(Instr.slice 29 (.slice A bs.length c) (some (I (k:Int))) none none).run prog W=.ok (.slice (AO A k c 1) (bs.length - k) (c - k)) W:=λW=>CG.slice_l A bs.length c k _ rfl hk W;have F:O (Row w (AO A k c 1) (Aj (bs.drop k))):=J (D3 (Elem.row_from (DZ H.o) X k));have z:O ((bs.drop k).length=bs.length - k):=J zD;have D:=JC (bs.drop k) 6000;rw[z.o] at D;have R:O (∀d,BT (bs.drop k) 6000=d->CO bs (k:Int)=if d.2.2≠0 then ([],-1) else (d.1,(k:Int)+d.2.1)):=J (by intro d G;subst G;unfold CO;rw[if_neg U,Int.toNat_natCast]);obtain⟨⟨u,n,T⟩,G⟩:∃r,BT (bs.drop k) 6000=r:=⟨_,rfl⟩;have y:=J G;have j:=J (R.o _ G);rw[G] at D;simp only at D;clear G R q;by_cases K:T=0
 .subst K;replace j:O (CO bs (k:Int)=(u,(k:Int)+n)):=J (by rw[j.o];exact if_neg zj);have ab:IntKind.i64.wrap ((k:Int)+(n:Int))=(k:Int)+(n:Int):=IntWalk.i64_in _ U;go_enter func149,ntmps149;exact Rp
 .have hb:(T != 0)=true:=by simpa using K
  replace j:O (CO bs (k:Int)=([],-1)):=J (by rw[j.o];exact if_pos K);clear K;go_enter func149,ntmps149;exact Rp
theorem Qb{w:World}{A:Option Addr}{l:List (List UInt8)}{i:Nat}(h:Row w A (AU.cells l))(z:i<l.length) :
  ∃b j p,A=some (Z b j)/\w.cell? (Z b (j+i))=some (.string (Ah p))/\O (l[i]?=some p):=by
 obtain⟨b,j,p,q,_,u,y⟩:=Gm h z;exact⟨b,j,p,q,u,y⟩
theorem Sb(A u:Option Addr)(c R:Nat)(xs:List (List UInt8))(w:World)(h:Row w A (AU.cells xs))(z:Row w u (AU.cells xs))(hn:xs.length<=1000000000) :
  Calls prog 81 #[.slice A xs.length c,.slice u xs.length R] w λe w'=>e=.returned (.bool true)/\V w w':=by
 have H:=J h;have F:=J z;clear h z;go_enter func81,ntmps81;go_wp2;go_loopw [5] (λi wr=>∃k:Nat,k<=xs.length/\i=I k/\O (V w wr)) (λi _=>xs.length - (intOf i).toNat)
 case atStart=>exact⟨0,zO _,rfl,J (V.refl _)⟩
 case round=>
  obtain⟨k,hk,rfl,q⟩:=hrel;by_cases j:k<xs.length
  .obtain⟨b,T,x,rfl,X,G⟩:=Qb (H.o.ext q.o) j;obtain⟨W,D,y,rfl,d0,K⟩:=Qb (F.o.ext q.o) j;obtain rfl:y=x:=by have:=G.o;rw[K.o] at this;exact Option.some.inj this
   have Q:∀n,O (V w (wr.drewN n)):=λn=>J (q.o.drewN n);go_wp2;go_quiet (fail);go_wp2;go_roundw
   case rel=>exact⟨k+1,U,by go_num,Q _⟩
   case measure=>simp[intOf];omega
  .go_wp2;go_ret;exact⟨rfl,q.o⟩
theorem Mq(n:Int)(A:Option Addr)(c:Nat)(xs:List Int)(w:World)(h:Row w A (Ai xs))(R:xs.length<=9223372036854775807) :
  Calls prog 32 #[.agg #[I n,.slice A xs.length c]] w λe w'=>e=.returned (CL (AP n xs))/\V w w':=by
 have u:=J ((V.new w (.cells #[I n,.slice A xs.length c] 46)).alloc (.cells #[I 0,I 0,I 0,.string {data:=#[]}] 66));have z:=J (h.ext u.o.drew);clear h;go_enter func32,ntmps32;go_wp2;go_region_held (λw'=>w'.cell? (Y w 0)=some (I n)/\w'.cell? (Y w 1)=some (.slice A xs.length c))
  (first|(go_keep;done)|exact⟨F,G⟩)
  (first
   | (go_at_call 104;(with_reducible refine(TX n A c xs _ (by exact z.o) R).mono ?_);rintro e v1 ⟨A1,Q,rfl,h1,h2,q,j⟩;have D:=J (V.trans u.o.drew j);have y:=EZ Q _ q.row rfl;have y1:w.heap.size+1<v1.heap.size:=(by have:=j.size;simp at this;omega);have F:v1.cell? ⟨w.heap.size,0,none⟩=some (.int .i64 n):=(by rw[j.cell (by simp<;>omega)];simp);have G:v1.cell? ⟨w.heap.size,1,none⟩=some (.slice A xs.length c):=(by rw[j.cell (by simp<;>omega)];simp);have f0:v1.frozen? ⟨w.heap.size+1,0,none⟩=false:=(by rw[j.frozen zj];simp);have f1:v1.frozen? ⟨w.heap.size+1,1,none⟩=false:=(by rw[j.frozen zj];simp);have f2:v1.frozen? ⟨w.heap.size+1,2,none⟩=false:=(by rw[j.frozen zj];simp);have f3:v1.frozen? ⟨w.heap.size+1,3,none⟩=false:=(by rw[j.frozen zj];simp);have T:v1.cell? ⟨w.heap.size+1,0,none⟩=some (.int .i64 0):=(by rw[j.cell zj];simp);have W:v1.cell? ⟨w.heap.size+1,1,none⟩=some (.int .i64 0):=(by rw[j.cell zj];simp);have X:v1.cell? ⟨w.heap.size+1,2,none⟩=some (.int .i64 0):=(by rw[j.cell zj];simp);have k3:v1.cell? ⟨w.heap.size+1,3,none⟩=some (.string {data:=#[]}):=(by rw[j.cell zj];simp);clear q j))
 have K:=J ((((D.o.set (p:=(Pv w 0)) zj (I n)).set (p:=(Pv w 1)) zj (I 0)).set (p:=(Pv w 2)) zj (I n)).set (p:=(Pv w 3)) zj (.string (Ah (DH n xs))));clear D z u F G y;go_wp2;exact bodyPost_ret (v:=CL (AP n xs)) (by simp[results,results32,go_sem,T,W,X,k3,CL,AP]) rfl ⟨rfl,K.o⟩
theorem I5(e:Ent)(w:World)(hl:e.p.length<=1000000) :
  Calls prog 167 #[.agg #[I e.v,I e.o,I e.q,.string (Ah e.p)]] w λr w'=>r=.returned (.bool (DB e))/\V w w':=by
 have H0:=J (V.new w (.cells #[I e.v,I e.o,I e.q,.string (Ah e.p)] 66));obtain⟨cap,w2,T,ac,D,X⟩:=Po (w.alloc (.cells #[I e.v,I e.o,I e.q,.string (Ah e.p)] 66)) e.p;simp only[World.size_alloc] at T D;have F:=J D;have X2:=J X;clear D X;go_enter func167,ntmps167;go_wp2_with fail;refine(TJ _ cap e.p w2 F.o ac hl).mono ?_;have y:=J (Ki e);obtain⟨⟨n,xs,k,er⟩,hd⟩:∃r,Cu e.p=r:=⟨_,rfl⟩;rw[hd] at y|-;clear hd T;rintro r j ⟨K,R,rfl,ad,af,W,aa⟩;have z:=X2.o.t aa;have RN:=J W.row;have z3:w.heap.size<j.heap.size:=by have:=z.o.size;simp at this;omega
 have c0:j.cell? (Y w 0)=some (I e.v):=by simpa using z.o.cell_new 0
 have c1:j.cell? (Y w 1)=some (I e.o):=by simpa using z.o.cell_new 1
 have c2:j.cell? (Y w 2)=some (I e.q):=by simpa using z.o.cell_new 2
 have ah:j.cell? (Y w 3)=some (.string (Ah e.p)):=by simpa using z.o.cell_new 3
 have ak:=CZ e.p;simp only at RN ad y|-;clear W aa;by_cases he:er=0;rotate_left
 .have ai:(er == 0)=false:=beq_eq_false_iff_ne.2 he;have HE:=J he;clear he;go_wp2;go_quiet (fail);go_wp2;go_ret;exact⟨AC (by rw[y.o,decide_eq_false HE.o];rfl),H0.o.trans ((z.o.alloc _).drewN _)⟩
 subst he;by_cases hk:k=e.p.length;rotate_left
 .have aj:((k:Int) == (e.p.length:Int))=false:=beq_eq_false_iff_ne.2 U;have HE:=J hk;clear hk;go_wp2;go_quiet (fail);go_wp2;go_ret;exact⟨AC (by rw[y.o,decide_eq_false HE.o];simp),H0.o.trans ((z.o.alloc _).drewN _)⟩
 subst hk;have ae:=Py e (AP n xs);unfold CL at ae;have ab:=RN.o.e ((V.new j (.cells #[I n,.slice K xs.length R] 46)).drew);have ag:xs.length<=9223372036854775807:=by unfold maxLen at af;omega
 go_wp2;go_region_held3 (λw'=>w'.cell? (Y w 0)=some (I e.v)/\w'.cell? (Y w 1)=some (I e.o)/\w'.cell? (Y w 2)=some (I e.q)/\w'.cell? (Y w 3)=some (.string (Ah e.p))/\w'.cell? (Y j 0)=some (I n)/\w'.cell? (Y j 1)=some (.slice K xs.length R))
  (first|(go_keep;done)|exact⟨r0,r1,r2,r3,r4,r5⟩)
  (first
   | (go_at_call 32;(with_reducible refine(Mq n K R xs _ (by exact ab.o) ag).mono ?_);rintro r G ⟨rfl,u⟩;unfold CL;have Q:=J (((z.o.alloc (.cells #[.int .i64 n,.slice K xs.length R] 46)).drew).trans u);have r0:G.cell? ⟨w.heap.size,0,none⟩=some (.int .i64 e.v):=(by simpa using Q.o.cell_new 0);have r1:G.cell? ⟨w.heap.size,1,none⟩=some (.int .i64 e.o):=(by simpa using Q.o.cell_new 1);have r2:G.cell? ⟨w.heap.size,2,none⟩=some (.int .i64 e.q):=(by simpa using Q.o.cell_new 2);have r3:G.cell? ⟨w.heap.size,3,none⟩=some (.string (Ah e.p)):=(by simpa using Q.o.cell_new 3);have r4:G.cell? ⟨j.heap.size,0,none⟩=some (.int .i64 n):=(by rw[u.cell zj];simp);have r5:G.cell? ⟨j.heap.size,1,none⟩=some (.slice K xs.length R):=(by rw[u.cell zj];simp);clear u))
 go_wp2;go_ret;exact⟨AC (by rw[y.o];simp),H0.o.trans Q.o⟩
theorem Ka(b:BM)(n:Int)(w:World)(h:b.Reads w)(hf:b.Fits) :
  Calls prog 115 #[.agg b.cells,I n] w (PM w (Br (vws b.vs) n)):=by
 have H:=J h.vs;have hn:=hf.vs;have HN:=((BIs.new w b.cells 28).ext (V.new _ (.cells #[I 0,Zq] 46))).n9;have Q:=J (BIs.newAt (w:=w.alloc (.cells b.cells 28)) (k:=w.heap.size+1) #[I 0,Zq] 46 zj);have HV:=Q.o.n2;have aa:=Q.o.lt;have u:=((V.new w (.cells b.cells 28)).alloc (.cells #[I 0,Zq] 46));clear h hf Q;go_enter func115,ntmps115;go_wp2;generalize ((w.alloc (.cells b.cells 28)).alloc (.cells #[I 0,Zq] 46))=w1 at *;go_loopw [6] (λi wr=>∃k:Nat,k<=b.vs.length/\i=I k/\O (Br ((vws b.vs).take k) n=none)/\V w1 wr) (λi _=>b.vs.length - (intOf i).toNat)
 case atStart=>exact⟨0,zO _,rfl,J rfl,V.refl _⟩
 case round=>
  obtain⟨k,hk,rfl,G,j⟩:=hrel;obtain⟨self,base,K,ad,Av,cv,l,Al,cl,af,Ap,cp,ac,Am,cm,ab,Af,cf,ae⟩:=b;simp only at H hn G hk;have z1:w.heap.size+1<wr.heap.size:=Nat.lt_of_lt_of_le aa j.size;by_cases z:k<l.length
  .obtain⟨bb,D,m,X,R,xs,rfl,q,d0,d1,F,T,W,HX⟩:=DK H.o z;have hb:=Nat.lt_of_lt_of_le q (u.trans j).size;have c0:=((u.trans j).cell (p:=(Z bb (D+k*2))) q).trans d0;have c1:=((u.trans j).cell (p:=(Z bb (D+k*2+1))) q).trans d1;clear d0 d1;cases he:m == n
   .have y:=J he;go_wp2;go_roundw
    case rel=>exact⟨k+1,U,by go_num,J (Qd (Dw HX.o) y.o G.o),j⟩
    case measure=>simp[intOf];omega
   .have y:=J (OJ (Dw HX.o) he G.o);have X1:=J (((u.trans j).set (p:=(Pv w 0)) zj (I m)).set (p:=(Pv w 1)) zj (.slice X xs.length R));go_wp2;refine bodyPost_ret (v:=.tuple #[.agg #[I m,.slice X xs.length R],.bool true]) (by simp[results,results115,go_sem,HV _ j]) rfl ?_;rw[y.o];exact⟨X,R,rfl,T,W,F.o.e X1.o,X1.o⟩
  .have y:=J (Ow (l:=vws l) (by rw[AW];exact z) G.o);go_wp2;refine bodyPost_ret (v:=.tuple #[.agg #[I 0,Zq],.bool false]) (by simp[results,results115,go_sem,HV _ j]) rfl ?_;rw[y.o];exact⟨none,0,rfl,zR _,zO _,J (Row.nil _ _),((u.trans j).set zj _).set zj _⟩
theorem Gw{w:World}{A:Option Addr}{l:List Ent}{i:Nat}(h:Row w A (Aa.cells l))(Q:i<l.length) :
  ∃b j e,A=some (Z b j)/\b<w.heap.size/\(∀w',V w w'->w'.cell? (Z b (j+i*4))=some (I (Ent.v e))/\w'.cell? (Z b (j+i*4+1))=some (I e.o)/\w'.cell? (Z b (j+i*4+2))=some (I e.q)/\w'.cell? (Z b (j+i*4+3))=some (.string (Ah e.p)))/\O (l[i]?=some e):=by
 obtain⟨b,j,e,G,u,y,z,D,F,K⟩:=C9 h Q;exact⟨b,j,e,G,u,λw' x=>⟨(x.cell u).trans y,(x.cell u).trans z,(x.cell u).trans D,(x.cell u).trans F⟩,K⟩
theorem FH(A:Option Addr)(c:Nat)(l:List Ent)(w:World)(h:Row w A (Aa.cells l))(hn:l.length<=1000000000)(hp:∀e∈l,e.p.length<=1000000) :
  Calls prog 114 #[.slice A l.length c] w λe w'=>e=.returned (.bool (Bc l))/\V w w':=by
 have H:=J h;have ac:=J hp;clear h hp;by_cases hl:l.length<=2000;rotate_left
 .have af:2000<l.length:=U;have z:=J hl;clear hl;go_enter func114,ntmps114;go_wp2;go_ret;exact⟨AC (NI z.o).symm,V.refl _⟩
 have af:¬2000<l.length:=U;go_enter func114,ntmps114;go_wp2;go_loopw [3] (λi wr=>∃k:Nat,k<=l.length/\i=I k/\O (∀j,j<k->EN l j=true)/\V w wr) (λi _=>l.length - (intOf i).toNat)
 case atStart=>exact⟨0,zO _,rfl,J (λj hj=>absurd hj (Nat.not_lt_zero _)),V.refl _⟩
 case round=>
  obtain⟨k,hk,rfl,HT,hX⟩:=hrel;by_cases ah:k<l.length;rotate_left
  .go_wp2;go_ret;exact⟨AC (O6 hl (λj hj=>HT.o j U)).symm,hX⟩
  obtain⟨b,av,e,rfl,hb,hE,K⟩:=Gw H.o ah;have T:e.p.length<=1000000:=ac.o e (zX K.o);have ar:=CZ e.p;have HB:=(BIs.new wr #[I e.v,I e.o,I e.q,.string (Ah e.p)] 66).n4;have G:=J (hX.trans (V.new wr (.cells #[I e.v,I e.o,I e.q,.string (Ah e.p)] 66)));go_upto_region 7 with fail;generalize wr.alloc (.cells #[I e.v,I e.o,I e.q,.string (Ah e.p)] 66)=w2 at *;have ao:=λw' (x:V w2 w')=>hE w' (G.o.trans x);clear hX hE;generalize wr.heap.size=r at *;by_cases hz:k=0
  .have X:=J hz;have ak:((k:Int) == 0)=true:=by simp[hz]
   have al:decide ((0:Int)<(k:Int))=false:=decide_eq_false U;have am:decide (0<k)=false:=decide_eq_false U;clear hz;refine eD 13 (V.refl _) λu=>?_;refine eb 0 ?_;refine ea 2 ?_;refine ef 3 ?_;refine ef 7 ?_;refine ed 11 ?_;refine ea 12 ?_;refine eA ?_;go_upto_region 8 with fail;cases Q:DB e
   .have W:=J Q;refine eD 18 u λu=>?_;refine ea 0 ?_;refine eE 1 (Q▸I5 e _ T) ?_;rintro _ v ⟨rfl,hx⟩;refine⟨_,rfl,u.trans hx,λu=>?_⟩;refine eb 2 ?_;refine ef 4 ?_;refine ef 8 ?_;refine ef 12 ?_;refine ed 16 ?_;refine ea 17 ?_;refine eA ?_;go_wp2;go_ret;exact⟨AC (Ex K.o (by rw[Je X.o];exact W.o)).symm,G.o.trans u⟩
   .have W:=J Q;refine eD 18 u λu=>?_;refine ea 0 ?_;refine eE 1 (Q▸I5 e _ T) ?_;rintro _ v ⟨rfl,hx⟩;refine⟨_,rfl,u.trans hx,λu=>?_⟩;refine ec 2 ?_;refine ea 6 ?_;refine ef 7 ?_;refine ef 11 ?_;refine ed 15 ?_;refine eb 16 ?_;refine eA ?_;go_wp2;go_roundw
    case rel=>exact⟨k+1,U,by go_num,J (G4 HT.o K.o (by rw[Je X.o];exact W.o)),G.o.trans u⟩
    case measure=>simp[intOf];omega
  .obtain⟨j,hj⟩:∃j,k=j+1:=⟨k - 1,U⟩;obtain⟨b',an,p,hA,aq,hP,HP⟩:=Gw H.o (show j<l.length by omega);simp only[zJ,Addr.mk.injEq,and_true] at hA;obtain⟨rfl,rfl⟩:=hA;have ap:=λw' (x:V w2 w')=>hP w' (G.o.trans x);have X:=J hz;have ak:((k:Int) == 0)=false:=beq_eq_false_iff_ne.2 U;have al:decide ((0:Int)<(k:Int))=true:=decide_eq_true U;have am:decide (0<k)=true:=decide_eq_true U;have au:IntKind.i64.wrap ((k:Int) - 1)=(j:Int):=by rw[IntWalk.i64_in _ U];omega
   have m1:(0:Int)<=(j:Int):=U;have m2:(j:Int)<(l.length:Int):=U;have m3:j<l.length:=U;have D:O (Da l k=p.v):=J (by rw[hj];exact MR HP.o);clear hz hj hP;by_cases F:e.v=p.v
   .have HI:=J (QO (l:=l) X.o (F.trans D.o.symm));have ab:(e.v != p.v)=false:=by simp[F]
    clear F;refine eD 13 (V.refl _) λu=>?_;refine ec 0 ?_;refine ec 4 ?_;refine ec 8 ?_;refine ea 12 ?_;refine eA ?_;go_upto_region 10 with fail;cases hid:AQ e.o
    .have y:=J hid;refine eD 21 u λu=>?_;refine eb 0 ?_;refine eI 2 (hid▸Dv e.o _) ?_;refine eb 3 ?_;refine ef 5 ?_;refine eb 9 ?_;refine ef 11 ?_;refine ef 15 ?_;refine ed 19 ?_;refine ea 20 ?_;refine eA ?_;go_wp2;go_ret;exact⟨AC (Ex K.o (by rw[HI.o,y.o];rfl)).symm,G.o.trans u⟩
    .have y:=J hid;by_cases h6:e.p.length<=6000;rotate_left
     .have H6:=J h6;have ad:decide (6000<e.p.length)=true:=decide_eq_true U;have ae:decide ((6000:Int)<(e.p.length:Int))=true:=decide_eq_true U;clear h6;refine eD 21 u λu=>?_;refine eb 0 ?_;refine eI 2 (hid▸Dv e.o _) ?_;refine ec 3 ?_;refine ec 7 ?_;refine ef 11 ?_;refine ef 15 ?_;refine ed 19 ?_;refine ea 20 ?_;refine eA ?_;go_wp2;go_ret;exact⟨AC (Ex K.o (by rw[HI.o,decide_eq_false H6.o];simp)).symm,G.o.trans u⟩
     have H6:=J h6;have ad:decide (6000<e.p.length)=false:=decide_eq_false U;have ae:decide ((6000:Int)<(e.p.length:Int))=false:=decide_eq_false U;have Q:=G1 l k e.o;have W:O (Aq (l.take k) e.o=Aq (l.take k) e.o):=J rfl;clear h6;refine eD 21 u λu=>?_;refine eb 0 ?_;refine eI 2 (hid▸Dv e.o _) ?_;refine ec 3 ?_;refine ec 7 ?_;refine ec 11 ?_;refine eb 15 ?_;refine eI 17 (Hy _ c l k e.o _ (H.o.ext (G.o.trans u)) hn U) ?_;refine eb 18 ?_;refine ea 20 ?_;refine eA ?_;by_cases hq:e.q=Aq (l.take k) e.o+1
     .have HQ:=J hq;have ai:(e.q != (Aq (l.take k) e.o:Int)+1)=false:=by simp[hq]
      have aj:IntKind.i64.wrap ((Aq (l.take k) e.o:Int)+1)=(Aq (l.take k) e.o:Int)+1:=IntWalk.i64_in _ U;clear hq;go_wp2;go_roundw
      case rel=>exact⟨k+1,U,by go_num,J (G4 HT.o K.o (by rw[HI.o,y.o,decide_eq_true H6.o,decide_eq_true HQ.o];rfl)),G.o.trans u⟩
      case measure=>simp[intOf];omega
     .have HQ:=J hq;have ai:(e.q != (Aq (l.take k) e.o:Int)+1)=true:=by simp[hq]
      have aj:IntKind.i64.wrap ((Aq (l.take k) e.o:Int)+1)=(Aq (l.take k) e.o:Int)+1:=IntWalk.i64_in _ U;clear hq;go_wp2;go_ret;exact⟨AC (Ex K.o (by rw[HI.o,decide_eq_false HQ.o];simp)).symm,G.o.trans u⟩
   .have R:=J F;have ab:(e.v != p.v)=true:=by simpa using F
    clear F;refine eD 13 (V.refl _) λu=>?_;refine ec 0 ?_;refine ec 4 ?_;refine ec 8 ?_;refine ea 12 ?_;refine eA ?_;go_upto_region 8 with fail;cases Q:DB e
    .have W:=J Q;refine eD 18 u λu=>?_;refine ea 0 ?_;refine eE 1 (Q▸I5 e _ T) ?_;rintro _ v ⟨rfl,hx⟩;refine⟨_,rfl,u.trans hx,λu=>?_⟩;refine eb 2 ?_;refine ef 4 ?_;refine ef 8 ?_;refine ef 12 ?_;refine ed 16 ?_;refine ea 17 ?_;refine eA ?_;go_wp2;go_ret;exact⟨AC (Ex K.o (by
      by_cases hl:e.v<Da l k
      .exact LA X.o (by rw[D.o];exact R.o) hl
      .rw[LC X.o (by rw[D.o];exact R.o) hl];exact W.o)).symm,G.o.trans u⟩
    .have W:=J Q;refine eD 18 u λu=>?_;refine ea 0 ?_;refine eE 1 (Q▸I5 e _ T) ?_;rintro _ v ⟨rfl,hx⟩;refine⟨_,rfl,u.trans hx,λu=>?_⟩;refine ec 2 ?_;refine ec 6 ?_;refine ec 10 ?_;refine ec 14 ?_;refine eA ?_;by_cases aa:e.v<p.v
     .have z:=J aa;have ag:decide (e.v<p.v)=true:=decide_eq_true z.o;go_wp2;go_ret;exact⟨AC (Ex K.o (LA X.o (by rw[D.o];exact R.o) (by rw[D.o];exact z.o))).symm,G.o.trans u⟩
     .have z:=J aa;have ag:decide (e.v<p.v)=false:=decide_eq_false aa;go_wp2;go_roundw
      case rel=>exact⟨k+1,U,by go_num,J (G4 HT.o K.o (by rw[LC X.o (by rw[D.o];exact R.o) (by rw[D.o];exact z.o)];exact W.o)),G.o.trans u⟩
      case measure=>simp[intOf];omega
end Go.Proofs.YtponbabbabnaeaaGreat
