/- Part 11: contracts of functions. Conditions: as each theorem says. -/
import Derived.Shelf.Sort.Plain
import Derived.Sort.OwnSortedInts
import Derived.Test.YtponbabbabnaeaaGreatQh10
set_option maxRecDepth 100000
set_option maxHeartbeats 40000000
set_option linter.unusedVariables false
namespace Go.Proofs.YtponbabbabnaeaaGreat
open Tryz
open Go.RowKit
theorem KW{P:Prop}(h:P:=by
 go_wp2_with fail;refine(GH b _ R0.o ak.o).mono ?_;rintro en w1 ⟨rfl,y⟩;have X1:=J y;have aa:O (BIs w1 (w.heap.size+1) Yq 28):=J (by have:=BIs.ext (BIs.new (w.alloc (.cells b.cells 28)) Yq 28) y;simpa using this);have au:O (BIs w1 w.heap.size b.cells 28):=J (((BIs.new w b.cells 28).ext (V.new _ _)).ext y);clear y;obtain⟨q0,q1,q2,q3,q4,q5,q6,q7,q8⟩:=nine au.o;obtain⟨y0,y1,y2,y3,y4,y5,y6,y7,y8⟩:=nine aa.o;obtain⟨z0,z1,z2,z3,z4,z5,z6,z7,z8⟩:=aa.o.free9;rw[HV.o];go_wp2;generalize hQ:(((((((((w1.setCell (Pv w 0) (I 0)).setCell (Pv w 1) Zq).setCell (Pv w 2) (I 0)).setCell (Pv w 3) Zq).setCell (Pv w 4) (I 0)).setCell (Pv w 5) (I 0)).setCell (Pv w 6) Zq).setCell (Pv w 7) Zq).setCell (Pv w 8) Zq)=W at *;have BF:O (BIs W (w.heap.size+1) Yq 28):=(by subst hQ;exact J (Ba aa.o));have ah:O (V w W):=(by subst hQ;exact J (AS.ext (E0.o.trans X1.o) U));clear hQ;obtain⟨e0,e1,e2,e3,e4,e5,e6,e7,e8⟩:=nine BF.o;refine bodyPost_ret (v:=.tuple #[.agg Yq,I 5]) (by simp[results,results12,go_sem,e0,e1,e2,e3,e4,e5,e6,e7,e8]) rfl ?_;exact Kn HF.o ah.o):P:=h
theorem Pt{P:Prop}(h:P:=by
 obtain⟨e0,e1,e2,e3,e4,e5,e6,e7,e8⟩:=nine BF.o;refine bodyPost_ret (v:=.tuple #[.agg #[I self,.slice Av vs.length cv,I base,.slice Al log.length cl,I j,I (sent+1),.slice X K.length Q,.slice Am marks.length cm,.slice Af fls.length cf],I 0]) (by simp[results,results12,go_sem,e0,e1,e2,e3,e4,e5,e6,e7,e8]) rfl ?_;rw[HR.o];exact⟨⟨self,base,j,sent+1,Av,cv,vs,Al,cl,log,X,Q,K,Am,cm,marks,Af,cf,fls⟩,rfl,ag.o,LF.o.reads,av.o,ah.o,LF.o.new (λk hk=>by have F:=u.o;have D:=G.o;rw[AV U,AV U];exact ai.o k U)⟩):P:=h
def NewAt(B:Nat)(A:Option Addr)(xs:List Value):Prop:=∀p,xs≠[]->A=some p->B<=p.block
structure BM.New(b:BM)(B:Nat):Prop where
 vs:NewAt B b.Av (AL.cells b.vs)
 vi:∀v∈b.vs,NewAt B v.A (Ai v.xs)
 log:NewAt B b.Al (Aa.cells b.log)
 pend:NewAt B b.Ap (AU.cells b.pend)
 marks:NewAt B b.Am (AA.cells b.marks)
 fls:NewAt B b.Af (flE.cells b.fls)
 fi:∀f∈b.fls,NewAt B f.A (Aa.cells f.log)
theorem ColR.new{col:Nat->Nat}{N k:Nat}{A:Option Addr}{xs:List Value}(h:ColR col k A xs)(j:∀q,q<N->col q=8)(hk:k≠8):NewAt N A xs:=by
 intro p y u;rcases Nat.lt_or_ge p.block N with hl|hl
 .exact absurd ((h p y u).symm.trans (j _ hl)) hk
 .exact hl
theorem BM.Lies.new{w:World}{B N:Nat}{col:Nat->Nat}{b:BM}(h:b.Lies w B col)(j:∀q,q<N->col q=8):b.New N:=
 ⟨h.vc.new j zd,λv y=>(h.vi v y).new j zd,(h.lc.row h.log).new j zd,h.pc.new j zd,(h.mc.row h.marks).new j zd,(h.fc.row h.fls).new j zd,λf u=>(h.fi f u).2.2.new j zd⟩
def JG(w:World)(r:St×Int)(en:Ending)(w':World):Prop:=
 ∃b:BM,en=.returned (.tuple #[.agg b.cells,I r.2])/\b.st=r.1/\b.Reads w'/\b.Fits/\V w w'/\b.New w.heap.size
def BK:BM:=⟨0,0,0,0,none,0,[],none,0,[],none,0,[],none,0,[],none,0,[]⟩
theorem GI(w:World):BK.Reads w:=⟨Elem.Box.nil _ _,Row.nil _ _,Row.nil _ _,Row.nil _ _,Elem.Box.nil _ _⟩
theorem GV:BK.Fits:=⟨zd,λ_ h=>by simp[BK] at h,zd,λ_ h=>by simp[BK] at h,zd,λ_ h=>by simp[BK] at h,zd,zd,λ_ h=>by simp[BK] at h,by unfold maxLen;decide⟩
theorem Kn{w w':World}{r:St×Int}{e:Int}(h:r=(B8,e))(j:V w w'):JG w r (.returned (.tuple #[.agg Yq,I e])) w':=by
 subst h;exact⟨BK,rfl,rfl,GI _,GV,j,⟨λ_ h=>by simp[BK,Elem.cells] at h,λ_ h=>by simp[BK] at h,λ_ h=>by simp[BK,Elem.cells] at h,λ_ h=>by simp[BK,Elem.cells] at h,λ_ h=>by simp[BK,Elem.cells] at h,λ_ h=>by simp[BK,Elem.cells] at h,λ_ h=>by simp[BK] at h⟩⟩
theorem Kf{s:St}(h:AM s=true):AQ s.self=true/\Bv s.views=true/\0<=s.sent/\s.sent<=1099511627776/\Bi s.log s.base=true/\(s.base = -1\/∃v,Br s.views s.base=some v/\AG v.2 s.self=true)/\(Aq s.log s.self:Int)<=s.sent/\0<=s.stable/\s.stable<=s.log.length/\s.pend.length<=32/\(s.pend.length:Int)=s.sent - Aq (s.log.take s.stable.toNat) s.self/\(∀p∈s.pend,p.length<=6000)/\Dp s=true:=by
 unfold AM at h;simp only[zB,zE,Bool.or_eq_true,List.all_eq_true] at h;obtain⟨F,D,G,K,Q,j,R,T,W,q,u,y,z⟩:=h;refine⟨F,D,G,K,Q,?_,R,T,W,q,u,y,z⟩;rcases j with j|j
 .exact .inl j
 .right;cases hk:Br s.views s.base with
  | none=>rw[hk] at j;cases j
  | some v=>rw[hk] at j;exact⟨v,rfl,j⟩
theorem DY{l:List Vw}(h:Bv l=true):0<l.length/\l.length<=2000:=by
 unfold Bv at h;simp only[zB,zE] at h;exact⟨U,h.2.1⟩
theorem FJ(l:List Ent)(n:Nat)(o:Int):Aq (l.take n) o<=Aq l o:=by
 unfold Aq;exact List.Sublist.countP_le (List.take_sublist n l)
theorem Kg{l:List Ent}{b:Int}(h:Bi l b=true):l.length<=2000:=by
 unfold Bi at h;split at h
 .simp at h;simp[h]
 .simp only[zB] at h;exact(Ip h.2.1).1
-- SUBMIT
theorem BM.Lies.repend2{B:Nat}{cs:List Nat}{col j:Nat->Nat}{w w':World}{b:BM}(h:b.Lies w B col)(s:Stp B cs col w j w')(q:0∉cs)(D:2∉cs)(u:3∉cs)(y:4∉cs){A:Option Addr}{c:Nat}{l:List (List UInt8)}(F:Row w' A (AU.cells l))(z:ColR j 6 A (AU.cells l))(n:Int) :
  ({b with sent:=n,Ap:=A,cp:=c,pend:=l}:BM).Lies w' B j:=
 ⟨(h.vsK s q).1,(h.vsK s q).2.1,(h.vsK s q).2.2,s.own h.log h.lc D,s.colV h.log h.lc,F,z,s.own h.marks h.mc u,s.colV h.marks h.mc,s.own h.fls h.fc y,s.colV h.fls h.fc,h.fiK s q⟩
theorem Ph(p:List UInt8)(w:World):Row (w.alloc (.cells #[.string (Ah p)] 9)) (some (Z w.heap.size 0)) (AU.cells [p]):=by
 intro _;refine⟨w.heap.size,0,rfl,zj,λj q h=>?_⟩;simp only[Elem.cells,AU,List.flatMap_cons,List.flatMap_nil,List.append_nil] at h
 match j,h with
 | 0,h=>simpa using h
theorem Rz{w:World}{n m j:Nat}{xs:List Value}(h:Row w (some (Z m j)) xs)(q:n=m):Row w (some (Z n j)) xs:=by subst q;exact h
theorem Oc{s:St}{m:Nat}(u:∀e∈s.log,e.p.length<=m)(y:∀q∈s.pend,q.length<=m)(j:Nat):∀e∈AI s j,e.p.length<=m:=by
 intro e h;unfold AI at h;rcases List.mem_append.1 h with h|h
 .exact u e h
 .obtain⟨i,_,rfl⟩:=List.mem_map.1 h;simp only[Do];cases hq:s.pend[((s.pend.length:Int) - 1 - (s.sent - ((Aq s.log s.self:Int)+1+(i:Int)))).toNat]? with
  | none=>simp
  | some q=>exact y q (zX hq)
theorem WT{W:World}{v:Value}{l:List (List UInt8)}:∀q∈l,AU.ok q/\∀r∈AU.inn q,Row W r.1 r.2/\Apt v r:=λ_ _=>⟨trivial,λr h=>by simp[AU] at h⟩
theorem Ke(b:BM)(R:List UInt8)(w:World)(h:b.Reads w)(hf:b.Fits)(b9:R.length<=1000000) :
  Calls prog 12 #[.agg b.cells,.string (Ah R)] w (JG w (Ci b.st R)):=by
 have E0:O (V w ((w.alloc (.cells b.cells 28)).alloc (.cells Yq 28))):=J ((V.new _ _).trans (V.new _ _));have R0:=J (h.ext E0.o);have ak:=J hf;have ct:=J h;have cx:=CZ R;clear h hf;unfold BM.cells;by_cases hv:AM b.st=true
 .obtain⟨_,bb,am,an,bc,_,ao,ap,aq,ad,ae,af,_⟩:=Kf hv;by_cases T:6000<R.length\/b.pend.length=32\/b.sent=1099511627776
  .have HF:O (Ci b.st R=(B8,5)):=J (by unfold Ci;rw[if_neg (by rw[hv];simp)];exact if_pos T);have HV:=J hv;by_cases F:6000<R.length
   .clear hv T bb am an bc ao ap aq ad ae af;go_enter func12,ntmps12;exact KW
   .by_cases D:b.pend.length=32
    .have b5:((b.pend.length:Int) == 32)=true:=by simp[D]
     have b4:decide ((6000:Int)<(R.length:Int))=false:=zm;clear hv T bb am an bc ao ap aq ad ae af D;go_enter func12,ntmps12;exact KW
    .have h3:b.sent=1099511627776:=by rcases T with h|h|h;exact absurd h F;exact absurd h D;exact h
     have b5:((b.pend.length:Int) == 32)=false:=zm;have b4:decide ((6000:Int)<(R.length:Int))=false:=zm;have cn:(b.sent == 1099511627776)=true:=by simpa using h3
     clear hv T bb am an bc ao ap aq ad ae af D h3;go_enter func12,ntmps12;exact KW
  .have F:¬6000<R.length:=λh=>T (.inl h);have D:¬b.pend.length=32:=λh=>T (.inr (.inl h));have h3:¬b.sent=1099511627776:=λh=>T (.inr (.inr h));have HV:=J hv;have HS:O (Ci b.st R=(if AD {b.st with sent:=b.sent+1,pend:=b.pend++[R]}&&AE {b.st with sent:=b.sent+1,pend:=b.pend++[R]} then Ct {b.st with sent:=b.sent+1,pend:=b.pend++[R]} else {b.st with sent:=b.sent+1,pend:=b.pend++[R]},0)):=J (by unfold Ci;rw[if_neg (by rw[hv];simp)];exact if_neg T);have b4:decide ((6000:Int)<(R.length:Int))=false:=zm;have b5:((b.pend.length:Int) == 32)=false:=zm;have cn:(b.sent == 1099511627776)=false:=by simpa using h3
   have cy:0<b.vs.length:=by have:=(DY bb).1;simpa[BM.st,AW] using this
   have co:b.log.length<=2000:=Kg bc;have bt:=FJ b.st.log b.st.stable.toNat b.st.self;simp only[BM.st] at am an ao ap aq ad ae af bt;have ci:=J h3;have ac:=J (And.intro am (And.intro an (And.intro ao (And.intro ap (And.intro aq (And.intro ad (And.intro ae (And.intro af bt))))))));clear hv T bb bc D h3 am an ao ap aq ad ae af bt;go_enter func12,ntmps12;go_wp2_with fail;refine(GH b _ R0.o ak.o).mono ?_;rintro en w1 ⟨rfl,y⟩;have X1:=J y;have aa:O (BIs w1 (w.heap.size+1) Yq 28):=J (by have:=BIs.ext (BIs.new (w.alloc (.cells b.cells 28)) Yq 28) y;simpa using this);have au:O (BIs w1 w.heap.size b.cells 28):=J (((BIs.new w b.cells 28).ext (V.new _ _)).ext y);clear y;obtain⟨q0,q1,q2,q3,q4,q5,q6,q7,q8⟩:=nine au.o;obtain⟨y0,y1,y2,y3,y4,y5,y6,y7,y8⟩:=nine aa.o;obtain⟨z0,z1,z2,z3,z4,z5,z6,z7,z8⟩:=aa.o.free9;rw[HV.o];have u:O (w.heap.size+1<w1.heap.size):=J aa.o.lt;go_wp2_with fail;refine(KE b w1 (R0.o.ext X1.o) ak.o).mono ?_;rintro en z ⟨b',col,rfl,ba,bi,b7,b6,ca,b8,cc⟩;have L2:=J b7;have X2:=J cc;have ai:=J b6;have al:=J ca;have bn:=J b8;have ck:=J ba;have bz:=J bi;obtain⟨self,base,j,sent,Av,cv,vs,Al,cl,log,Ap,cp,pend,Am,cm,marks,Af,cf,fls⟩:=b';have ab:O (self=b.self/\sent=b.sent/\pend=b.pend/\log=b.log/\vs.length=b.vs.length/\j=b.stable):=J (by
    have h:=ba;simp only[BM.st,St.mk.injEq] at h;obtain⟨e1,e2,e3,e4,e5,e6,e7,e8,e9⟩:=h;exact⟨e1,e6,e7,e4,by rw[<-AW,e2,AW],e5⟩)
   clear b7 cc b6 ca b8 ba bi;have cz:IntKind.i64.wrap (sent+1)=sent+1:=IntWalk.i64_in _ (by have:=ac.o;have:=ab.o;omega);unfold BM.cells;simp only at al bn;go_wp2_with (first
    | (at_builtin;refine By AU rfl (.tmp 35) (.tmp 37) rfl _ w1.heap.size _ pend zi _ 1 1 [R] zi rfl (by exact Rz (Ph R _) zj) (by exact⟨al.o.ext ((V.new _ _).trans (V.new _ _)),λ_ _=>⟨trivial,λr hr=>by simp[AU] at hr⟩⟩) WT (by have:=ac.o;have:=ab.o;have h9:=congrArg List.length this.2.2.1;omega) (by have:=X2.o.size;simp;omega) ?_;intro v5 w5 bh bq cb;obtain⟨K,br⟩:∃l,l=pend++[R]:=⟨_,rfl⟩;rw[<-br] at bh;have bf:=J br;clear br;obtain⟨X,Q,rfl,cu,cw,_⟩:=bh.slice;have bl:O (BIs w5 z.heap.size #[.int .i64 self,.slice Av vs.length cv,.int .i64 base,.slice Al log.length cl,.int .i64 j,.int .i64 (sent+1),.slice Ap pend.length cp,.slice Am marks.length cm,.slice Af fls.length cf] 28):=J (((BIs.new z _ _).ext (V.new _ _)).same (bq.block z.heap.size zm (λe=>by have:=(al.o.lt _ e.symm).2;omega)));obtain⟨u0,u1,u2,u3,u4,u5,u6,u7,u8⟩:=nine bl.o;have f6:=bl.o.free 6))
   have G:O (w1.heap.size<=z.heap.size):=J X2.o.size;have b2:O (Wrote z.heap.size w5 (w5.setCell (Y z 6) (.slice X K.length Q))):=J (Wrote.set _ _ _ _);have ce:O (BIs (w5.setCell (Y z 6) (.slice X K.length Q)) z.heap.size (⟨self,base,j,sent+1,Av,cv,vs,Al,cl,log,X,Q,K,Am,cm,marks,Af,cf,fls⟩:BM).cells 28):=J (bl.o.set 6 _);have bx:O (ColV (As (As col z.heap.size 1) (z.heap.size+1) 6) 6 (.slice X K.length Q)):=J (by
    intro q hq;rcases cb with h|⟨k,hk,hle⟩
    .rw[h] at hq;have ay:=(al.o.lt q hq).2;rw[AV U,AV ay];exact bn.o q hq
    .rw[hk] at hq;cases hq;simp at hle;exact Eh U)
   have bu:O ((As (As col z.heap.size 1) (z.heap.size+1) 6) z.heap.size=1):=J (by rw[AV U,Eh (zR _)]);have S5:O (Stp w1.heap.size [1,6] col z (As (As col z.heap.size 1) (z.heap.size+1) 6) w5):=J (by
    refine(Stp.ext (cs:=[1,6]) G.o ((V.new _ _).trans (V.new _ _)) (λk hk=>by rw[AV U,AV hk])).trans (Stp.grew bq (by simp;have:=G.o;omega) (λk hk=>(al.o.lt k hk).1) (c:=6) (λq hq=>?_) zj);have ay:=(al.o.lt q hq).2;rw[AV U,AV ay];exact bn.o q hq)
   have cj:=J bh;clear u0 u1 u2 u3 u4 u5 u6 u7 u8 f6 cb bq bh;generalize w5.setCell (Y z 6) (.slice X K.length Q)=w6 at *;have S6:O (Stp w1.heap.size [1,6] col z (As (As col z.heap.size 1) (z.heap.size+1) 6) w6):=S5.o.t (Stp.wrote b2.o G.o (zL G.o S5.o.size) (by rw[bu.o];simp));have b0:O (AU.Own w6 w1.heap.size (.slice X K.length Q) K):=J (cj.o.1.keep λq hq ay=>b2.o.blk ay (λe=>by subst e;have:=bx.o _ hq;rw[bu.o] at this;cases this));have L6:O ((⟨self,base,j,sent+1,Av,cv,vs,Al,cl,log,X,Q,K,Am,cm,marks,Af,cf,fls⟩:BM).Lies w6 w1.heap.size (As (As col z.heap.size 1) (z.heap.size+1) 6)):=J (L2.o.repend2 S6.o zj zj zj zj b0.o.row (bx.o.row b0.o) (sent+1));have av:O ((⟨self,base,j,sent+1,Av,cv,vs,Al,cl,log,X,Q,K,Am,cm,marks,Af,cf,fls⟩:BM).Fits):=J (by
    have hf:=bz.o;refine⟨hf.vs,hf.vx,hf.log,hf.lp,?_,λq hq=>?_,hf.marks,hf.fls,hf.fl,hf.cl⟩
    .have:=hf.pend;rw[bf.o];simp at this|-;have:=ac.o;have:=ab.o;have h9:=congrArg List.length this.2.2.1;omega
    .simp only at hq;rw[bf.o] at hq;rcases List.mem_append.1 hq with hq|hq
     .exact hf.pp q hq
     .simp only[zC,zN,or_false] at hq;subst hq;exact b9)
   have ag:O ((⟨self,base,j,sent+1,Av,cv,vs,Al,cl,log,X,Q,K,Am,cm,marks,Af,cf,fls⟩:BM).st={b.st with sent:=b.sent+1,pend:=b.pend++[R]}):=J (by
    have h:=ck.o;simp only[BM.st,St.mk.injEq] at h|-;obtain⟨e1,e2,e3,e4,e5,e6,e7,e8,e9⟩:=h;exact⟨e1,e2,e3,e4,e5,by rw[e6],by rw[bf.o,e7],e8,e9⟩)
   have cd:O (BIs w6 (w.heap.size+1) Yq 28):=J (S6.o.bis (aa.o.ext X2.o) (by rw[ai.o _ u.o];simp));have bj:0<vs.length:=by have:=ab.o.2.2.2.2.1;omega
   refine(FQ ⟨self,base,j,sent+1,Av,cv,vs,Al,cl,log,X,Q,K,Am,cm,marks,Af,cf,fls⟩ w6 L6.o.reads bj av.o).mono ?_;rintro en w7 ⟨rfl,ar⟩;rw[ag.o];have X7:=J ar;have bm:=ce.o.e ar;have L7:O ((⟨self,base,j,sent+1,Av,cv,vs,Al,cl,log,X,Q,K,Am,cm,marks,Af,cf,fls⟩:BM).Lies w7 w1.heap.size (As (As col z.heap.size 1) (z.heap.size+1) 6)):=J (L6.o.ext ar (λ_ _=>rfl));have be:=cd.o.e ar;have bp:O (V w w7):=J (V.trans (show V w w6 from Below.trans ((E0.o.trans X1.o).trans X2.o) (S6.o.below.mono (by have:=u.o;omega))) ar);clear ar;cases hop:AD {b.st with sent:=b.sent+1,pend:=b.pend++[R]} with
   | false=>
    have HR:O (Ci b.st R=({b.st with sent:=b.sent+1,pend:=b.pend++[R]},0)):=J (by rw[HS.o,hop];rfl);obtain⟨u0,u1,u2,u3,u4,u5,u6,u7,u8⟩:=nine bm.o;obtain⟨y0,y1,y2,y3,y4,y5,y6,y7,y8⟩:=nine be.o;obtain⟨z0,z1,z2,z3,z4,z5,z6,z7,z8⟩:=be.o.free9;go_wp2;generalize hQ:(((((((((w7.setCell (Pv w 0) (I self)).setCell (Pv w 1) (.slice Av vs.length cv)).setCell (Pv w 2) (I base)).setCell (Pv w 3) (.slice Al log.length cl)).setCell (Pv w 4) (I j)).setCell (Pv w 5) (I (sent+1))).setCell (Pv w 6) (.slice X K.length Q)).setCell (Pv w 7) (.slice Am marks.length cm)).setCell (Pv w 8) (.slice Af fls.length cf))=W at *;have BF:O (BIs W (w.heap.size+1) #[I self,.slice Av vs.length cv,I base,.slice Al log.length cl,I j,I (sent+1),.slice X K.length Q,.slice Am marks.length cm,.slice Af fls.length cf] 28):=(by subst hQ;exact J (Ba be.o));have ah:O (V w W):=(by subst hQ;exact J (AS.ext bp.o U));have LF:O ((⟨self,base,j,sent+1,Av,cv,vs,Al,cl,log,X,Q,K,Am,cm,marks,Af,cf,fls⟩:BM).Lies W w.heap.size (As (As col z.heap.size 1) (z.heap.size+1) 6)):=(by subst hQ;exact J ((L7.o.base (by have:=u.o;omega)).keep (cs:=[8]) (Stp.wrote AS U (by have:=bp.o.size;omega) (by have F:=u.o;have D:=G.o;rw[AV U,AV U,ai.o _ F];simp)) zj zj zj zj zj));clear hQ;exact Pt
   | true=>
    obtain⟨u0,u1,u2,u3,u4,u5,u6,u7,u8⟩:=nine bm.o;go_wp2_with fail;refine(Gh ⟨self,base,j,sent+1,Av,cv,vs,Al,cl,log,X,Q,K,Am,cm,marks,Af,cf,fls⟩ w7 L7.o.reads bj av.o).mono ?_;rintro en w8 ⟨rfl,bd⟩;rw[ag.o];have bw:=bm.o.e bd;have L8:O ((⟨self,base,j,sent+1,Av,cv,vs,Al,cl,log,X,Q,K,Am,cm,marks,Af,cf,fls⟩:BM).Lies w8 w1.heap.size (As (As col z.heap.size 1) (z.heap.size+1) 6)):=J (L7.o.ext bd (λ_ _=>rfl));have aj:=be.o.e bd;have aw:O (V w w8):=bp.o.t bd;clear bd u0 u1 u2 u3 u4 u5 u6 u7 u8;cases hle:AE {b.st with sent:=b.sent+1,pend:=b.pend++[R]} with
    | false=>
     have HR:O (Ci b.st R=({b.st with sent:=b.sent+1,pend:=b.pend++[R]},0)):=J (by rw[HS.o,hop,hle];rfl);obtain⟨u0,u1,u2,u3,u4,u5,u6,u7,u8⟩:=nine bw.o;obtain⟨y0,y1,y2,y3,y4,y5,y6,y7,y8⟩:=nine aj.o;obtain⟨z0,z1,z2,z3,z4,z5,z6,z7,z8⟩:=aj.o.free9;go_wp2;generalize hQ:(((((((((w8.setCell (Pv w 0) (I self)).setCell (Pv w 1) (.slice Av vs.length cv)).setCell (Pv w 2) (I base)).setCell (Pv w 3) (.slice Al log.length cl)).setCell (Pv w 4) (I j)).setCell (Pv w 5) (I (sent+1))).setCell (Pv w 6) (.slice X K.length Q)).setCell (Pv w 7) (.slice Am marks.length cm)).setCell (Pv w 8) (.slice Af fls.length cf))=W at *;have BF:O (BIs W (w.heap.size+1) #[I self,.slice Av vs.length cv,I base,.slice Al log.length cl,I j,I (sent+1),.slice X K.length Q,.slice Am marks.length cm,.slice Af fls.length cf] 28):=(by subst hQ;exact J (Ba aj.o));have ah:O (V w W):=(by subst hQ;exact J (AS.ext aw.o U));have LF:O ((⟨self,base,j,sent+1,Av,cv,vs,Al,cl,log,X,Q,K,Am,cm,marks,Af,cf,fls⟩:BM).Lies W w.heap.size (As (As col z.heap.size 1) (z.heap.size+1) 6)):=(by subst hQ;exact J ((L8.o.base (by have:=u.o;omega)).keep (cs:=[8]) (Stp.wrote AS U (by have:=aw.o.size;omega) (by have F:=u.o;have D:=G.o;rw[AV U,AV U,ai.o _ F];simp)) zj zj zj zj zj));clear hQ;exact Pt
    | true=>
     have HR:O (Ci b.st R=(Ct {b.st with sent:=b.sent+1,pend:=b.pend++[R]},0)):=J (by rw[HS.o,hop,hle];rfl);have cq:O (K.length=b.pend.length+1):=J (by rw[bf.o,ab.o.2.2.1];simp);go_wp2_with fail;refine(OZ ⟨self,base,j,sent+1,Av,cv,vs,Al,cl,log,X,Q,K,Am,cm,marks,Af,cf,fls⟩ #[] 28 z.heap.size w1.heap.size _ w8 (by rw[Array.append_empty];exact bw.o) bu.o G.o L8.o av.o ?_ ?_ ?_ ?_).mono ?_
     .have:=ac.o;have:=ab.o;simp only;rw[this.2.2.2.1,this.1];omega
     .have:=ac.o;have:=ab.o;have:=ci.o;simp only;omega
     .have:=ac.o;have:=ab.o;have:=cq.o;simp only;rw[ab.o.2.2.2.1,ab.o.1];omega
     .have:=ab.o;simp only;rw[this.2.2.2.1];exact co
     rintro en w9 ⟨A9,c9,rfl,ax,az,bg,a9⟩;rw[ag.o] at ax az bg;obtain⟨TL,bv⟩:∃l,l=AI {b.st with sent:=b.sent+1,pend:=b.pend++[R]} (Bp {b.st with sent:=b.sent+1,pend:=b.pend++[R]}):=⟨_,rfl⟩;rw[<-bv] at ax az bg;have bo:=J bv;rw[Array.append_empty] at ax;have cg:O (BIs w9 z.heap.size (⟨self,base,j,sent+1,Av,cv,vs,A9,c9,TL,X,Q,K,Am,cm,marks,Af,cf,fls⟩:BM).cells 28):=J ax;have S9:=J a9;have L9:O ((⟨self,base,j,sent+1,Av,cv,vs,A9,c9,TL,X,Q,K,Am,cm,marks,Af,cf,fls⟩:BM).Lies w9 w1.heap.size (As (As (As col z.heap.size 1) (z.heap.size+1) 6) w8.heap.size 2)):=J (L8.o.relog a9 zj zj zj zj az bg);have bk:O (BIs w9 (w.heap.size+1) Yq 28):=J (a9.bis aj.o (by have F:=u.o;have D:=G.o;rw[AV U,AV U,ai.o _ F];simp));have b3:O (V w w9):=J (Below.trans aw.o (a9.below.mono (by have:=u.o;omega)));have ch:O ((⟨self,base,j,sent+1,Av,cv,vs,A9,c9,TL,X,Q,K,Am,cm,marks,Af,cf,fls⟩:BM).Fits):=J (by
      have hf:=av.o;obtain⟨A',c',cr,F,D,_⟩:=az.slice;simp only[Value.slice.injEq] at cr;refine⟨hf.vs,hf.vx,?_,λe he=>?_,hf.pend,hf.pp,hf.marks,hf.fls,hf.fl,?_⟩
      .simp only;rw[bo.o,Fr];unfold Bp;simp only[BM.st];omega
      .simp only at he;rw[bo.o] at he;exact Oc (s:={b.st with sent:=b.sent+1,pend:=b.pend++[R]}) (ak.o.lp) (λq hq=>by rcases List.mem_append.1 hq with hq|hq;exact ak.o.pp q hq;simp only[zC,zN,or_false] at hq;subst hq;exact b9) _ e he
      .exact⟨by simp only;omega,by simp only;omega⟩)
     have b1:O ((⟨self,base,j,sent+1,Av,cv,vs,A9,c9,TL,X,Q,K,Am,cm,marks,Af,cf,fls⟩:BM).st=Ct {b.st with sent:=b.sent+1,pend:=b.pend++[R]}):=J (by
      have h:=ag.o;unfold Ct;simp only[BM.st,St.mk.injEq] at h|-;obtain⟨e1,e2,e3,e4,e5,e6,e7,e8,e9⟩:=h;exact⟨e1,e2,e3,bo.o,e5,e6,e7,e8,e9⟩)
     clear ax az bg a9 bv;obtain⟨u0,u1,u2,u3,u4,u5,u6,u7,u8⟩:=nine cg.o;obtain⟨y0,y1,y2,y3,y4,y5,y6,y7,y8⟩:=nine bk.o;obtain⟨z0,z1,z2,z3,z4,z5,z6,z7,z8⟩:=bk.o.free9;go_wp2;generalize hQ:(((((((((w9.setCell (Pv w 0) (I self)).setCell (Pv w 1) (.slice Av vs.length cv)).setCell (Pv w 2) (I base)).setCell (Pv w 3) (.slice A9 TL.length c9)).setCell (Pv w 4) (I j)).setCell (Pv w 5) (I (sent+1))).setCell (Pv w 6) (.slice X K.length Q)).setCell (Pv w 7) (.slice Am marks.length cm)).setCell (Pv w 8) (.slice Af fls.length cf))=W at *;have BF:O (BIs W (w.heap.size+1) #[I self,.slice Av vs.length cv,I base,.slice A9 TL.length c9,I j,I (sent+1),.slice X K.length Q,.slice Am marks.length cm,.slice Af fls.length cf] 28):=(by subst hQ;exact J (Ba bk.o));have ah:O (V w W):=(by subst hQ;exact J (AS.ext b3.o U));have LF:O ((⟨self,base,j,sent+1,Av,cv,vs,A9,c9,TL,X,Q,K,Am,cm,marks,Af,cf,fls⟩:BM).Lies W w.heap.size (As (As (As col z.heap.size 1) (z.heap.size+1) 6) w8.heap.size 2)):=(by subst hQ;exact J ((L9.o.base (by have:=u.o;omega)).keep (cs:=[8]) (Stp.wrote AS U (by have:=b3.o.size;omega) (by have F:=u.o;have D:=G.o;rw[AV (by have:=aw.o.size;have:=aj.o.lt;omega),AV U,AV U,ai.o _ F];simp)) zj zj zj zj zj));clear hQ;obtain⟨e0,e1,e2,e3,e4,e5,e6,e7,e8⟩:=nine BF.o;refine bodyPost_ret (v:=.tuple #[.agg #[I self,.slice Av vs.length cv,I base,.slice A9 TL.length c9,I j,I (sent+1),.slice X K.length Q,.slice Am marks.length cm,.slice Af fls.length cf],I 0]) (by simp[results,results12,go_sem,e0,e1,e2,e3,e4,e5,e6,e7,e8]) rfl ?_;rw[HR.o];exact⟨⟨self,base,j,sent+1,Av,cv,vs,A9,c9,TL,X,Q,K,Am,cm,marks,Af,cf,fls⟩,rfl,b1.o,LF.o.reads,ch.o,ah.o,LF.o.new (λk hk=>by have F:=u.o;have D:=G.o;rw[AV (by have:=aw.o.size;have:=aj.o.lt;omega),AV U,AV U];exact ai.o k U)⟩
 .have HV:O (AM b.st=false):=J (by simpa using hv);have HF:O (Ci b.st R=(B8,1)):=J (by unfold Ci;rw[if_pos HV.o]);clear hv;go_enter func12,ntmps12;go_wp2_with fail;refine(GH b _ R0.o ak.o).mono ?_;rintro en w1 ⟨rfl,y⟩;have X1:=J y;have aa:O (BIs w1 (w.heap.size+1) Yq 28):=J (by have:=BIs.ext (BIs.new (w.alloc (.cells b.cells 28)) Yq 28) y;simpa using this);have au:O (BIs w1 w.heap.size b.cells 28):=J (((BIs.new w b.cells 28).ext (V.new _ _)).ext y);clear y;obtain⟨q0,q1,q2,q3,q4,q5,q6,q7,q8⟩:=nine au.o;obtain⟨y0,y1,y2,y3,y4,y5,y6,y7,y8⟩:=nine aa.o;obtain⟨z0,z1,z2,z3,z4,z5,z6,z7,z8⟩:=aa.o.free9;rw[HV.o];go_wp2;generalize hQ:(((((((((w1.setCell (Pv w 0) (I 0)).setCell (Pv w 1) Zq).setCell (Pv w 2) (I 0)).setCell (Pv w 3) Zq).setCell (Pv w 4) (I 0)).setCell (Pv w 5) (I 0)).setCell (Pv w 6) Zq).setCell (Pv w 7) Zq).setCell (Pv w 8) Zq)=W at *;have BF:O (BIs W (w.heap.size+1) Yq 28):=(by subst hQ;exact J (Ba aa.o));have ah:O (V w W):=(by subst hQ;exact J (AS.ext (E0.o.trans X1.o) U));clear hQ;obtain⟨e0,e1,e2,e3,e4,e5,e6,e7,e8⟩:=nine BF.o;refine bodyPost_ret (v:=.tuple #[.agg Yq,I 1]) (by simp[results,results12,go_sem,e0,e1,e2,e3,e4,e5,e6,e7,e8]) rfl ?_;exact Kn HF.o ah.o
end Go.Proofs.YtponbabbabnaeaaGreat
namespace Go.Proofs
open Go.Shelf
def Tryz.lays189_ren:Go.Shelf.Ren:=⟨fun|189=>170|125=>201|257=>200|128=>221|129=>222|294=>212|295=>213|296=>214|297=>215|298=>216|299=>217|216=>218|300=>219|301=>220|328=>226|329=>227|330=>228|331=>229|332=>230|215=>231|343=>234|n=>n,fun|28=>44|3=>3|46=>61|0=>0|51=>202|53=>146|4=>4|183=>231|182=>230|131=>156|5=>5|9=>9|218=>239|222=>243|228=>247|229=>182|n=>n,fun|n=>n⟩
theorem Tryz.lays189:Go.Proofs.Lays.n189 Tryz.prog Tryz.lays189_ren:={
 mixed:=by kernel_rfl
 f125:=Tryz.func201.trans (congrArg some (by kernel_rfl))
 f128:=Tryz.func221.trans (congrArg some (by kernel_rfl))
 f129:=Tryz.func222.trans (congrArg some (by kernel_rfl))
 f189:=Tryz.func170.trans (congrArg some (by kernel_rfl))
 f215:=Tryz.func231.trans (congrArg some (by kernel_rfl))
 f216:=Tryz.func218.trans (congrArg some (by kernel_rfl))
 f257:=Tryz.func200.trans (congrArg some (by kernel_rfl))
 f294:=Tryz.func212.trans (congrArg some (by kernel_rfl))
 f295:=Tryz.func213.trans (congrArg some (by kernel_rfl))
 f296:=Tryz.func214.trans (congrArg some (by kernel_rfl))
 f297:=Tryz.func215.trans (congrArg some (by kernel_rfl))
 f298:=Tryz.func216.trans (congrArg some (by kernel_rfl))
 f299:=Tryz.func217.trans (congrArg some (by kernel_rfl))
 f300:=Tryz.func219.trans (congrArg some (by kernel_rfl))
 f301:=Tryz.func220.trans (congrArg some (by kernel_rfl))
 f328:=Tryz.func226.trans (congrArg some (by kernel_rfl))
 f329:=Tryz.func227.trans (congrArg some (by kernel_rfl))
 f330:=Tryz.func228.trans (congrArg some (by kernel_rfl))
 f331:=Tryz.func229.trans (congrArg some (by kernel_rfl))
 f332:=Tryz.func230.trans (congrArg some (by kernel_rfl))
 f343:=Tryz.func234.trans (congrArg some (by kernel_rfl))
 t0:=Tryz.underlying0
 a0:=Tryz.isAgg0
 z0:=Tryz.sizeOf0
 v0:=Tryz.zeroValue0
 t3:=Tryz.underlying3
 a3:=Tryz.isAgg3
 z3:=Tryz.sizeOf3
 v3:=Tryz.zeroValue3
 t4:=Tryz.underlying4
 a4:=Tryz.isAgg4
 z4:=Tryz.sizeOf4
 v4:=Tryz.zeroValue4
 t5:=Tryz.underlying5
 a5:=Tryz.isAgg5
 z5:=Tryz.sizeOf5
 v5:=Tryz.zeroValue5
 t9:=Tryz.underlying9
 a9:=Tryz.isAgg9
 z9:=Tryz.sizeOf9
 v9:=Tryz.zeroValue9
 t28:=Tryz.underlying44
 a28:=Tryz.isAgg44
 z28:=Tryz.sizeOf44
 v28:=Tryz.zeroValue44
 t46:=Tryz.underlying61
 a46:=Tryz.isAgg61
 z46:=Tryz.sizeOf61
 v46:=Tryz.zeroValue61
 t51:=Tryz.underlying202
 a51:=Tryz.isAgg202
 z51:=Tryz.sizeOf202
 v51:=Tryz.zeroValue202
 t53:=Tryz.underlying146
 a53:=Tryz.isAgg146
 z53:=Tryz.sizeOf146
 v53:=Tryz.zeroValue146
 t131:=Tryz.underlying156
 a131:=Tryz.isAgg156
 z131:=Tryz.sizeOf156
 v131:=Tryz.zeroValue156
 t182:=Tryz.underlying230
 a182:=Tryz.isAgg230
 z182:=Tryz.sizeOf230
 v182:=Tryz.zeroValue230
 t183:=Tryz.underlying231
 a183:=Tryz.isAgg231
 z183:=Tryz.sizeOf231
 v183:=Tryz.zeroValue231
 t218:=Tryz.underlying239
 a218:=Tryz.isAgg239
 z218:=Tryz.sizeOf239
 v218:=Tryz.zeroValue239
 t222:=Tryz.underlying243
 a222:=Tryz.isAgg243
 z222:=Tryz.sizeOf243
 v222:=Tryz.zeroValue243
 t228:=Tryz.underlying247
 a228:=Tryz.isAgg247
 z228:=Tryz.sizeOf247
 v228:=Tryz.zeroValue247
 t229:=Tryz.underlying182
 a229:=Tryz.isAgg182
 z229:=Tryz.sizeOf182
 v229:=Tryz.zeroValue182}
end Go.Proofs
namespace Go.Proofs.YtponbabbabnaeaaGreat
open Tryz
open Go.RowKit Go.Sort
theorem NS(x:Int)(l:List Int):(Hk x l).Perm (x::l):=by
 induction l with
 | nil=>exact List.Perm.refl _
 | cons y l h=>
  unfold Hk;split
  .exact List.Perm.refl _
  .exact(List.Perm.cons y h).trans (List.Perm.swap x y l)
theorem F8(l:List Int):(Cr l).Perm l:=by
 induction l with
 | nil=>exact List.Perm.refl _
 | cons x l h=>exact(NS x _).trans (List.Perm.cons x h)
theorem TS(x:Int)(l:List Int)(h:l.Pairwise (·<=·)):(Hk x l).Pairwise (·<=·):=by
 induction l with
 | nil=>exact List.pairwise_singleton _ _
 | cons y l q=>
  unfold Hk;rw[List.pairwise_cons] at h;split
  .next hxy=>
   rw[List.pairwise_cons,List.pairwise_cons];refine⟨λz j=>?_,h⟩;rcases zC.1 j with rfl|j
   .exact hxy
   .exact Int.le_trans hxy (h.1 z j)
  .next hxy=>
   rw[List.pairwise_cons];refine⟨λz j=>?_,q h.2⟩;rcases zC.1 ((NS x l).mem_iff.1 j) with rfl|j
   .omega
   .exact h.1 z j
theorem JO(l:List Int):(Cr l).Pairwise (·<=·):=by
 induction l with
 | nil=>exact List.Pairwise.nil
 | cons x l h=>exact TS x _ h
theorem SL:∀(a b:List Int),a.Perm b->a.Pairwise (·<=·)->b.Pairwise (·<=·)->a=b:=by
 intro a;induction a with
 | nil=>intro b h _ _;exact h.nil_eq
 | cons x a z=>
  intro b h q j
  match b,h,j with
  | [],h,_=>exact absurd h.length_eq zj
  | y::b,h,j=>
   rw[List.pairwise_cons] at q j;have u:x=y:=by
    have F:x∈y::b:=h.mem_iff.1 (List.mem_cons_self ..);have D:y∈x::a:=h.mem_iff.2 (List.mem_cons_self ..);rcases zC.1 F with F|F
    .exact F
    .rcases zC.1 D with D|D
     .exact D.symm
     .have:=j.1 x F;have:=q.1 y D;omega
   subst u;rw[z b ((List.perm_cons x).1 h) q.2 j.2]
theorem Xp(l:List Int):l.mergeSort (λx y=>decide (x<=y))=Cr l:=by
 refine SL _ _ ((List.mergeSort_perm l _).trans (F8 l).symm) ?_ (JO l);have:=List.pairwise_mergeSort (le:=λx y:Int=>decide (x<=y)) (λa b c F D=>by simp at *;omega) (λa b=>by simp;omega) l;exact this.imp (λh=>by simpa using h)
theorem GO(l:List Int):(Cr l).length=l.length:=(F8 l).length_eq
theorem WB(g cap B:Nat)(h:List Int)(w:World)(W:Own w B 3 (.slice (some (Z g 0)) h.length cap) (Ai h))(hl:h.length<=1000000) :
  Calls prog 170 #[.slice (some (Z g 0)) h.length cap] w λe w'=>e=.returned (.tuple #[])/\Own w' B 3 (.slice (some (Z g 0)) h.length cap) (Ai (Cr h))/\Grew w w' (.slice (some (Z g 0)) h.length cap):=by
 obtain⟨h0,D⟩:=W;rcases D with ⟨D,_⟩|⟨X,y,G,F,K,q,z,Q,R,j⟩
 .cases D
 .simp only[Value.slice.injEq,zJ,Addr.mk.injEq,and_true,Ai,zP] at F;obtain⟨rfl,_,rfl⟩:=F;have u:(Ai h).length=h.length:=by simp[Ai]
  rw[u] at z j;have T:=Any.slices_Sort_int Tryz.lays189 g 0 cap h w (holds_of_blockI q (by rw[Nat.mul_one] at j;exact j)) (Array.getElem?_eq_some_iff.1 q).1 U;refine Calls.mono T ?_;rintro e w' ⟨rfl,n,os,rfl⟩;rw[Xp];refine⟨rfl,?_,grownBy_sortedI _⟩;have:=ownsRow_sortedI (w:=w) (base:=B) (g:=g) (cap:=cap) (n:=n) (os:=os) (ss:=h) (ts:=Cr h) (GO h) K q (by simpa using z) Q (by simpa using R);unfold Own;have e1:(Ai (Cr h)).length=h.length:=by simp[Ai,GO]
  rw[e1];simpa[Ai] using this
end Go.Proofs.YtponbabbabnaeaaGreat
namespace Go.Proofs.YtponbabbabnaeaaGreat
open Tryz
open Go.RowKit
theorem Vx{l:List (Int×Int)}{k:Nat}{x:Int×Int}(n:Int)(h:l[k]?=some x):n::(l.take (k+1)).map (λm=>m.2)=(n::(l.take k).map λm=>m.2)++[x.2]:=by
 rw[List.take_add_one,h];simp
theorem Wf(x:Int)(w:World):Own (w.alloc (.cells #[I x] 3)) w.heap.size 3 (.slice (some (Z w.heap.size 0)) 1 1) (Ai [x]):=
 ⟨rfl,.inr ⟨w.heap.size,1,_,rfl,zR _,(by show (w.heap.push _)[w.heap.size]?=_;simp;rfl),zR _,by unfold maxLen;decide,rfl,rfl⟩⟩
theorem My(m:CM)(B:Nat)(col:Nat->Nat)(p:Nat)(w:World)(h:CS w B col p m)(ao:0<m.b.vs.length)(hs:0<=m.b.stable)(ak:∀x∈m.b.marks,x.2<=(m.b.log.length:Int))(af:m.dl.length<=100000)
  (W:1<=Bs (Ar (vws m.b.vs)).2.length) (am:∀n:Int,n<=m.b.log.length->Aq (Bm m.b.log m.b.stable n) m.b.self<=m.b.pend.length) :
  Calls prog 118 #[.pointer (some (Z p 0))] w (CY B col p w (Cf m.cs)):=by
 have H:=J h;have an:=h.lt;have q1:=h.cell 1;have q3:=h.cell 3;have q7:=h.cell 7;have bc:=h.fits.vs;have ba:=h.fits.marks;have a9:=h.fits.log;have ap:=Eu h.fits.vx;obtain⟨⟨nv,xs⟩,T⟩:∃v,Ar (vws m.b.vs)=v:=⟨_,rfl⟩;have ab:=J T;rw[T] at ap W;have ad:=J am;have ac:=J ak;have G:O (Cf m.cs=if ((BO m.b.st).length:Int)<Bs xs.length then m.cs else Be m.cs (((Cr (BO m.b.st))[(((BO m.b.st).length:Int) - Bs xs.length).toNat]?).getD 0)):=J (by
  show (if ((BO m.b.st).length:Int)<Bs (Ar (vws m.b.vs)).2.length then m.cs else Be m.cs (((Cr (BO m.b.st))[(((BO m.b.st).length:Int) - Bs (Ar (vws m.b.vs)).2.length).toNat]?).getD 0))=_;rw[T])
 have K:O (BO m.b.st=(m.b.log.length:Int)::m.b.marks.map λx=>x.2):=J rfl;obtain⟨q,aj⟩:∃l,l=BO m.b.st:=⟨_,rfl⟩;rw[<-aj] at G K;have bx:=DJ;clear h T am ak aj;obtain⟨mj,R⟩:∃k:Nat,Bs (xs.length:Int)=(k:Int):=⟨(Bs (xs.length:Int)).toNat,by simp only at W;omega⟩;simp only at ap W;have bj:1<=mj:=U;have ar:=J R;rw[R] at G;clear R W;obtain⟨M,hM⟩:∃x,x=m:=⟨_,rfl⟩;have HM:=J hM;rw[<-hM] at H G|-;clear hM;obtain⟨⟨self,base,j,sent,Av,cv,vs,Al,cl,log,Ap,cp,bn,Am,cm,marks,Af,cf,fls⟩,Ak,ck,pk,Ad,cd,dl⟩:=m;simp only at ao hs bc ba a9 af ab ad ac K;replace q1:w.cell? (Z p 1)=some (.slice Av vs.length cv):=q1;replace q3:w.cell? (Z p 3)=some (.slice Al log.length cl):=q3;replace q7:w.cell? (Z p 7)=some (.slice Am marks.length cm):=q7;have ax:O (AL.Box w Av vs):=J (by have:=H.o.lies.vs;rw[HM.o] at this;exact this);have au:O (Row w Am (AA.cells marks)):=J (by have:=H.o.lies.marks.row;rw[HM.o] at this;exact this);go_enter func118,ntmps118;go_wp2_with fail;refine(Ep Av cv vs w ax.o ao U nv xs ab.o).mono ?_;rintro en w1 ⟨A1,c1,rfl,bt,bu,bp,y⟩;have X1:=J y;have r3:w1.cell? (Z p 3)=some (.slice Al log.length cl):=by rw[y.cell (by exact an)];exact q3
 have r7:w1.cell? (Z p 7)=some (.slice Am marks.length cm):=by rw[y.cell (by exact an)];exact q7
 have bk:p<w1.heap.size:=by have:=y.size;omega
 clear y q1 q3 q7;go_wp2;go_loopw [3,27] (λv i wr=>∃(k:Nat) (v':Value),v'=v/\k<=marks.length/\i=I k/\O (Own wr w.heap.size 3 v' (Ai ((log.length:Int)::(marks.take k).map λx=>x.2)))/\O (V w wr)) (λ_ i _=>marks.length - (intOf i).toNat)
 case atStart=>exact⟨0,_,rfl,zO _,rfl,J ((Wf _ w1).base X1.o.size),X1.o.t (V.new _ _)⟩
 case round=>
  obtain⟨k,v,rfl,hk,rfl,HO,X⟩:=hrel;by_cases bf:k<marks.length
  .obtain⟨bb,b3,x,rfl,hb,c0,bq,HE⟩:=Fs (au.o.ext X.o) bf;have aw:=J (Vx (log.length:Int) HE.o);go_wp2_with (first
    | (at_builtin;refine Fp rfl (.tmp 31) (.tmp 34) _ 3 _ 8 rfl Tryz.underlying44 Jm rfl zd _ w.heap.size _ (Ai ((log.length:Int)::(marks.take k).map λx=>x.2)) zi _ 1 1 (Ai [x.2]) zi zi (by exact Rz (I9 x.2 _) zj) (by intro u hu;simp[Ai] at hu;subst hu;rfl) (by exact HO.o.ext ((V.new _ _).trans (V.new _ _))) (by simp[Ai];omega) (by have:=X.o.size;simp;omega) ?_;intro v2 w2 bh bd b2))
   have X2:O (V w w2):=J (bd.below ((X.o.trans (V.new _ _)).trans (V.new _ _)) (by have:=X.o.size;simp;omega) (λk hk=>(HO.o.lt k hk).1));go_roundw
   case rel=>exact⟨k+1,_,rfl,U,by go_num,J (by rw[aw.o];simpa[Ai] using bh),X2⟩
   case measure=>simp[intOf];omega
  .have be:marks.take k=marks:=List.take_of_length_le U;rw[be,<-K.o] at HO;have aa:O (q.length=marks.length+1):=J (by rw[K.o];simp);obtain⟨A3,c3,rfl,bv,bw⟩:∃A c',v=.slice A q.length c'/\q.length<=c'/\c'<=maxLen:=by
    obtain⟨A,c',F,D,h3,_⟩:=HO.o.slice;have e:(Ai q).length=q.length:=by simp[Ai]
    rw[e] at F D;exact⟨A,c',F,D,h3⟩
   go_wp2_with fail;refine(Mz xs.length wr).mono ?_;rintro en w3 ⟨rfl,rfl⟩;rw[ar.o];by_cases b1:q.length<mj
   .have HR:O (Cf M.cs=M.cs):=J (by rw[G.o,if_pos U]);have hd:decide ((q.length:Int)<(mj:Int))=true:=zm;go_wp2;(try simp only[Exit.inBlock,Exit.then]);refine bodyPost_ret (results_none rfl _ _ _) rfl ?_
    rw[HR.o];exact⟨M,col,rfl,H.o.ext X.o,rfl,Stp.ext' H.o.Bsz X.o⟩
   .have hd:decide ((q.length:Int)<(mj:Int))=false:=zm;obtain⟨g,rfl⟩:∃g,A3=some (Z g 0):=by
     obtain⟨_,D⟩:=HO.o;rcases D with ⟨D,hz⟩|⟨g,cap,br,hv,_⟩
     .have:=aa.o;have e:(Ai q).length=q.length:=by simp[Ai]
      rw[e] at hz;omega
     .simp only[Value.slice.injEq] at hv;exact⟨g,hv.1⟩
    go_wp2_with fail;refine(WB g c3 w.heap.size q wr HO.o (by have:=aa.o;omega)).mono ?_;rintro en w4 ⟨rfl,al,ag⟩;have av:=J al;have X4:O (V w w4):=J (ag.below X.o X.o.size (λk hk=>(HO.o.lt k hk).1));clear al ag;obtain⟨ix,ah⟩:∃ix:Nat,ix=q.length - mj:=⟨_,rfl⟩;have bo:=J ah;have ai:ix<(Cr q).length:=by rw[GO];omega
    obtain⟨b5,bm,z,ay,Q,HZ⟩:=av.o.row.at_ ai;cases ay;have bl:IntKind.i64.wrap ((q.length:Int) - (mj:Int))=(ix:Int):=by rw[IntWalk.i64_in _ (by have:=aa.o;omega)];omega
    have bz:(0:Int)<=(ix:Int):=U;have b0:(ix:Int)<(q.length:Int):=U;have HR:O (Cf M.cs=Be M.cs z):=J (by
     rw[G.o,if_neg U];have:((q.length:Int) - (mj:Int)).toNat=ix:=U;rw[this,HZ.o];rfl)
    have aq:O (z<=(log.length:Int)):=J (by
     have F:z∈q:=(F8 q).mem_iff.1 (zX HZ.o);rw[K.o] at F;rcases zC.1 F with F|F
     .omega
     .obtain⟨x,hx,rfl⟩:=List.mem_map.1 F;exact ac.o x hx)
    rw[Nat.zero_add] at Q;clear ah;have C4:=H.o.e X4.o;go_wp2_with fail;refine(Ob M B col p z w4 C4.o (by rw[HM.o];exact hs) (by rw[HM.o];exact aq.o) (by rw[HM.o];exact af) (by rw[HM.o];exact ad.o z aq.o)).mono ?_;rintro en w5 ⟨m5,ae,rfl,az,bg,bi⟩;go_wp2;go_end0;rw[HR.o]
    exact⟨m5,ae,rfl,az,bg,(Stp.ext' H.o.Bsz X4.o).trans bi⟩
theorem Sw:∀(l:List (Int×Int)) (k:Nat) (x:Int×Int) (n:Int),l[k]?=some x->AA.cells (l.set k (x.1,n))=(AA.cells l).set (k*2+1) (I n):=by
 intro l;induction l with
 | nil=>intro k x n h;simp at h
 | cons y l j=>
  intro k x n h
  match k,h with
  | 0,h=>simp only[List.getElem?_cons_zero,zJ] at h;subst h;rfl
  | k+1,h=>
   rw[List.set_cons_succ,AA.cells_cons,AA.cells_cons,j k x n (by simpa using h)];have e1:(k+1)*2+1=k*2+1+1+1:=U;rw[e1];rfl
theorem Kx{w:World}{B g cap:Nat}{l:List (Int×Int)}{k:Nat}{x:Int×Int}(n:Int)(h:AA.Own w B (.slice (some (Z g 0)) l.length cap) l)(T:l[k]?=some x) :
  AA.Own (w.setCell (Z g (k*2+1)) (I n)) B (.slice (some (Z g 0)) l.length cap) (l.set k (x.1,n)):=by
 obtain⟨F,D⟩:=h;refine⟨by rw[AA.cells_len],.inr ?_⟩;rcases D with ⟨D,_⟩|⟨W,q,j,u,y,R,z,G,K,Q⟩
 .cases D
 .simp only[Value.slice.injEq,zJ,Addr.mk.injEq,and_true,true_and] at u;obtain⟨rfl,rfl⟩:=u;refine⟨g,cap,j.setIfInBounds (k*2+1) (I n),by rw[List.length_set],y,?_,by rw[List.length_set];exact z,G,by simpa using K,?_⟩
  .exact heap_setCell_same _ _ _ _ _ _ R
  .rw[List.length_set,Array.toList_setIfInBounds,List.take_set,Q,Sw l k x n T]
theorem Gg(a b:Int)(w:World):Row (w.alloc (.cells #[I a,I b] 123)) (some (Z w.heap.size 0)) (AA.cells [(a,b)]):=by
 intro _;refine⟨w.heap.size,0,rfl,zj,λj q h=>?_⟩;simp only[Elem.cells,AA,List.flatMap_cons,List.flatMap_nil,List.append_nil] at h
 match j,h with
 | 0,h=>simpa using h
 | 1,h=>simpa using h
theorem YT{w:World}{B:Nat}{v:Value}{l:List (Int×Int)}(h:AA.Own w B v l):AA.OB w B v l:=⟨h,λ_ _=>⟨trivial,λr j=>by simp[AA] at j⟩⟩
theorem Sl{w:World}{B:Nat}{v:Value}{l:List (Int×Int)}(h:AA.Own w B v l):∃A c,v=.slice A l.length c/\l.length<=c/\c<=maxLen/\(A=none\/∃g,A=some (Z g 0)):=by
 obtain⟨_,D⟩:=h;rcases D with ⟨D,j⟩|⟨g,cap,q,z,j,K,u,y,F,G⟩
 .subst D;have:l=[]:=List.eq_nil_of_length_eq_zero j;subst this;exact⟨none,0,rfl,zR _,zO _,.inl rfl⟩
 .exact⟨_,cap,z,u,y,.inr ⟨g,rfl⟩⟩
theorem Uu(B:Nat)(A:Option Addr)(c:Nat)(l:List (Int×Int))(x:Int×Int)(w:World)(K:AA.Own w B (.slice A l.length c) l)(G:B<=w.heap.size)(g Q:Nat)(z:Row w (some (Z g 0)) (AA.cells [x]))(hn:l.length<=1000000)(R:l.length<=c/\c<=maxLen) :
  Calls prog 186 #[.slice A l.length c,I (l.length:Int),.slice (some (Z g 0)) 1 Q] w λe w'=>∃D,e=.returned D/\AA.Own w' B D (l++[x])/\Grew w w' (.slice A l.length c)/\Stems w (.slice A l.length c) D:=by
 have F:=J (YT K);have HR:=J z;clear K z;obtain⟨T,W⟩:=R;rcases A with _|ad
 .go_enter func186,ntmps186;go_wp2_with (first
   | (at_builtin;refine By AA rfl (.tmp 23) (.tmp 24) rfl _ B _ l zi _ _ _ [x] zi rfl HR.o F.o (λq X=>⟨trivial,λr z=>by simp[AA] at z⟩) zm G ?_;intro v1 w1 u j y))
  all_goals (go_ret;exact⟨v1,rfl,u.1,j,y⟩)
 .go_enter func186,ntmps186;go_wp2_with (first
   | (at_builtin;refine By AA rfl (.tmp 23) (.tmp 24) rfl _ B _ l zi _ _ _ [x] zi rfl HR.o F.o (λq X=>⟨trivial,λr z=>by simp[AA] at z⟩) zm G ?_;intro v1 w1 u j y))
  all_goals (go_ret;exact⟨v1,rfl,u.1,j,y⟩)
structure OkS(s:St):Prop where
 vs:0<s.views.length
 st0:0<=s.stable
 st1:s.stable<=s.log.length
 own:(Aq s.log s.self:Int)<=s.sent
 sent:s.sent<=1099511627776
 pend:(s.pend.length:Int)=s.sent - Aq (s.log.take s.stable.toNat) s.self
 pn:s.pend.length<=32
 log:s.log.length<=2000
 lp:∀e∈s.log,e.p.length<=6000
 pp:∀p∈s.pend,p.length<=6000
 mks:∀x∈s.marks,0<=x.2/\x.2<=(s.log.length:Int)
 mem:AK (Ar s.views).1 (Ar s.views).2=true
theorem Iw(a b:List Ent)(o:Int):Aq (a++b) o=Aq a o+Aq b o:=by unfold Aq;rw[List.countP_append]
theorem M6(l:List Ent)(n:Nat)(o:Int):Aq l o=Aq (l.take n) o+Aq (l.drop n) o:=by rw[<-Iw,List.take_append_drop]
theorem JL(s:St)(j:Nat):Aq (AI s j) s.self=Aq s.log s.self+j:=by
 unfold AI;rw[Iw];congr 1;unfold Aq;rw[List.countP_map,List.countP_eq_length.2 (λi _=>by simp)];simp
theorem IF{s:St}(h:OkS s)(n:Int):Aq (Bm s.log s.stable n) s.self<=s.pend.length:=by
 have F:Aq (Bm s.log s.stable n) s.self<=Aq (s.log.drop s.stable.toNat) s.self:=by
  unfold Bm Aq;exact List.Sublist.countP_le ((List.take_sublist _ _).drop _)
 have D:=M6 s.log s.stable.toNat s.self;have j:=h.own;have q:=h.pend;omega
theorem Fy{s:St}(h:OkS s):1<=Bs (Ar s.views).2.length/\(Ar s.views).2.length<=16/\1<=(Ar s.views).2.length:=by
 have j:=h.mem;unfold AK at j;simp only[zB] at j;have F:=FP (m:=16) j.2;unfold Bs;have D:1<=(Ar s.views).2.length/\(Ar s.views).2.length<=16:=U;rw[if_pos U];omega
theorem Xh(s:St):s.log.length<=2000->(AI s (Bp s)).length<=2000:=by
 intro h;rw[Fr];unfold Bp;omega
theorem Zw{s:St}(h:OkS s):OkS (Ct s):=by
 have q:=JL s (Bp s);have u:Aq s.log s.self+Bp s<=s.sent:=by have:=h.own;unfold Bp;omega
 refine⟨h.vs,h.st0,?_,?_,h.sent,?_,h.pn,Xh s h.log,Oc h.lp h.pp _,h.pp,λx j=>⟨(h.mks x j).1,?_⟩,h.mem⟩
 .have:=h.st1;show s.stable<=((AI s (Bp s)).length:Int);rw[Fr];omega
 .show (Aq (AI s (Bp s)) s.self:Int)<=s.sent;rw[q];omega
 .show (s.pend.length:Int)=s.sent - Aq ((AI s (Bp s)).take s.stable.toNat) s.self;have F:=h.st1;have D:=h.st0;unfold AI;rw[List.take_append_of_le_length U];exact h.pend
 .have:=(h.mks x j).2;show x.2<=((AI s (Bp s)).length:Int);rw[Fr];omega
theorem No(c:Cs)(n:Int):(Be c n).s.log=c.s.log/\(Be c n).s.marks=c.s.marks/\(Be c n).s.views=c.s.views/\(Be c n).s.base=c.s.base/\(Be c n).s.self=c.s.self/\(Be c n).s.fls=c.s.fls/\(Be c n).pk=c.pk/\(Be c n).s.sent=c.s.sent:=by
 unfold Be;split<;>exact⟨rfl,rfl,rfl,rfl,rfl,rfl,rfl,rfl⟩
theorem Mj(c:Cs):(Cf c).s.log=c.s.log/\(Cf c).s.marks=c.s.marks/\(Cf c).s.views=c.s.views/\(Cf c).s.base=c.s.base/\(Cf c).s.self=c.s.self/\(Cf c).s.fls=c.s.fls/\(Cf c).pk=c.pk/\(Cf c).s.sent=c.s.sent:=by
 unfold Cf;split
 .exact⟨rfl,rfl,rfl,rfl,rfl,rfl,rfl,rfl⟩
 .exact No _ _
theorem Vh(c:Cs)(x:Int):(Cl c x).s=c.s/\(Cl c x).dl=c.dl/\(Cl c x).pk.length<=c.pk.length+1:=by
 unfold Cl;split
 .exact⟨rfl,rfl,U⟩
 .split<;>exact⟨rfl,rfl,by simp[Db]⟩
theorem Nl(l:List Int):∀c:Cs,(l.foldl Cl c).s=c.s/\(l.foldl Cl c).dl=c.dl/\(l.foldl Cl c).pk.length<=c.pk.length+l.length:=by
 induction l with
 | nil=>intro c;exact⟨rfl,rfl,zj⟩
 | cons x l h=>
  intro c;obtain⟨F,D,u⟩:=h (Cl c x);obtain⟨j,q,y⟩:=Vh c x;exact⟨F.trans j,D.trans q,by simp only[List.foldl_cons,zK];omega⟩
theorem VC{α:Type}{l:List Int}{k:Nat}{x:Int}(f:α->Int->α)(c:α)(h:l[k]?=some x):(l.take (k+1)).foldl f c=f ((l.take k).foldl f c) x:=by
 rw[List.take_add_one,h];simp
end Go.Proofs.YtponbabbabnaeaaGreat
