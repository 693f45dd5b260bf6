/- Part 10 of the proof: contracts of functions that the statement reaches. Conditions: as each theorem says. -/
import Derived.Shelf.Sort.Plain
import Derived.Test.YtponbabbabnaeaaGreatProg
import Derived.Test.YtponbabbabnaeaaGreatQf01
import Derived.Test.YtponbabbabnaeaaGreatQf09
import Derived.Test.YtponbabbabnaeaaGreatQf06
import Derived.Test.YtponbabbabnaeaaGreatQf02
set_option maxRecDepth 100000
set_option maxHeartbeats 40000000
namespace Go.Proofs.YtponbabbabnaeaaGreat
open Go.RowKit
theorem qji {P : Prop} (h : P := by
 go_wp2_with fail;refine(qcF b _ R0.out HFT.out).mono ?_;rintro en w1 ⟨rfl,hx1⟩;have X1:=hJ hx1;have BR1:Hid (BIs w1 (w.heap.size+1) Yq 28):=hJ (by have:=BIs.ext (BIs.new (w.alloc (.cells b.cells 28)) Yq 28) hx1;simpa using this);have BP1:Hid (BIs w1 w.heap.size b.cells 28):=hJ (((BIs.new w b.cells 28).ext (Ext.new _ _)).ext hx1);clear hx1;obtain⟨q0,q1,q2,q3,q4,q5,q6,q7,q8⟩:=qbU BP1.out;obtain⟨y0,y1,y2,y3,y4,y5,y6,y7,y8⟩:=qbU BR1.out;obtain⟨z0,z1,z2,z3,z4,z5,z6,z7,z8⟩:=BR1.out.free9;rw[HV.out];go_wp2;generalize hQ:(((((((((w1.setCell (Pv w 0) (Jq 0)).setCell (Pv w 1) Zq).setCell (Pv w 2) (Jq 0)).setCell (Pv w 3) Zq).setCell (Pv w 4) (Jq 0)).setCell (Pv w 5) (Jq 0)).setCell (Pv w 6) Zq).setCell (Pv w 7) Zq).setCell (Pv w 8) Zq)=W at *;have BF:Hid (BIs W (w.heap.size+1) Yq 28):=(by subst hQ;exact hJ (qaO BR1.out));have XFF:Hid (Ext w W):=(by subst hQ;exact hJ (qaj.ext (E0.out.trans X1.out) (by omega)));clear hQ;obtain⟨e0,e1,e2,e3,e4,e5,e6,e7,e8⟩:=qbU BF.out;refine bodyPost_ret (v:=.tuple #[.agg Yq,Jq 5]) (by simp[results,Tryz.results12,go_sem,e0,e1,e2,e3,e4,e5,e6,e7,e8]) rfl ?_;exact qd3 HF.out XFF.out) : P := h
theorem qlS {P : Prop} (h : P := by
 obtain⟨e0,e1,e2,e3,e4,e5,e6,e7,e8⟩:=qbU BF.out;refine bodyPost_ret (v:=.tuple #[.agg #[Jq self,.slice Av vs.length cv,Jq base,.slice Al log.length cl,Jq stable,Jq (sent+1),.slice A5 ND.length c5,.slice Am marks.length cm,.slice Af fls.length cf],Jq 0]) (by simp[results,Tryz.results12,go_sem,e0,e1,e2,e3,e4,e5,e6,e7,e8]) rfl ?_;rw[HR.out];exact⟨⟨self,base,stable,sent+1,Av,cv,vs,Al,cl,log,A5,c5,ND,Am,cm,marks,Af,cf,fls⟩,rfl,HST6.out,LF.out.reads,HF6.out,XFF.out,LF.out.new (fun k hk=>by have h1:=hp12.out;have h2:=hlt2.out;rw[qah (by omega),qah (by omega)];exact HC8.out k (by omega))⟩) : P := h
def NewAt(B:Nat)(A:Option Addr)(xs:List Value):Prop:=∀p,xs≠[]→A=some p→B≤p.block
structure BM.New(b:BM)(B:Nat):Prop where
 vs:NewAt B b.Av (qaC.cells b.vs)
 vi:∀v∈b.vs,NewAt B v.A (qaq v.xs)
 log:NewAt B b.Al (qaH.cells b.log)
 pend:NewAt B b.Ap (qdC.cells b.pend)
 marks:NewAt B b.Am (qat.cells b.marks)
 fls:NewAt B b.Af (flE.cells b.fls)
 fi:∀f∈b.fls,NewAt B f.A (qaH.cells f.log)
theorem ColR.new{col:Nat→Nat}{N k:Nat}{A:Option Addr}{xs:List Value}(h:ColR col k A xs)(hc:∀q,q<N→col q=8)(hk:k≠8):NewAt N A xs:=by
 intro p hx hp;rcases Nat.lt_or_ge p.block N with hl|hl
 ·exact absurd ((h p hx hp).symm.trans (hc _ hl)) hk
 ·exact hl
theorem BM.Lies.new{w:World}{B N:Nat}{col:Nat→Nat}{b:BM}(h:b.Lies w B col)(hc:∀q,q<N→col q=8):b.New N:=
 ⟨h.vc.new hc (by decide),fun v hv=>(h.vi v hv).new hc (by decide),(h.lc.row h.log).new hc (by decide),h.pc.new hc (by decide),(h.mc.row h.marks).new hc (by decide),(h.fc.row h.fls).new hc (by decide),fun f hf=>(h.fi f hf).2.2.new hc (by decide)⟩
def qkC(w:World)(r:St×Int)(en:Ending)(w':World):Prop:=
 ∃b:BM,en=.returned (.tuple #[.agg b.cells,Jq r.2])∧b.st=r.1∧b.Reads w'∧b.Fits∧Ext w w'∧b.New w.heap.size
def qdD:BM:=⟨0,0,0,0,none,0,[],none,0,[],none,0,[],none,0,[],none,0,[]⟩
theorem qhk(w:World):qdD.Reads w:=⟨Elem.Box.nil _ _,Row.nil _ _,Row.nil _ _,Row.nil _ _,Elem.Box.nil _ _⟩
theorem qiV:qdD.Fits:=⟨by decide,fun _ h=>by simp[qdD] at h,by decide,fun _ h=>by simp[qdD] at h,by decide,fun _ h=>by simp[qdD] at h,by decide,by decide,fun _ h=>by simp[qdD] at h,by unfold maxLen;decide⟩
theorem qd3{w w':World}{r:St×Int}{e:Int}(h:r=(qc7,e))(hx:Ext w w'):qkC w r (.returned (.tuple #[.agg Yq,Jq e])) w':=by
 subst h;exact⟨qdD,rfl,rfl,qhk _,qiV,hx,⟨fun _ h=>by simp[qdD,Elem.cells] at h,fun _ h=>by simp[qdD] at h,fun _ h=>by simp[qdD,Elem.cells] at h,fun _ h=>by simp[qdD,Elem.cells] at h,fun _ h=>by simp[qdD,Elem.cells] at h,fun _ h=>by simp[qdD,Elem.cells] at h,fun _ h=>by simp[qdD] at h⟩⟩
theorem qgF{s:St}(h:qbF s=true):qcl s.self=true∧qaw s.views=true∧0≤s.sent∧s.sent≤1099511627776∧qaY s.log s.base=true∧(s.base = -1∨∃v,qaQ s.views s.base=some v∧qbN v.2 s.self=true)∧(qar s.log s.self:Int)≤s.sent∧0≤s.stable∧s.stable≤s.log.length∧s.pend.length≤32∧(s.pend.length:Int)=s.sent - qar (s.log.take s.stable.toNat) s.self∧(∀p∈s.pend,p.length≤6000)∧qcx s=true:=by
 unfold qbF at h;simp only[zB,zE,Bool.or_eq_true,List.all_eq_true] at h;obtain⟨h1,h2,h3,h4,h5,h6,h7,h8,h9,h10,h11,h12,h13⟩:=h;refine⟨h1,h2,h3,h4,h5,?_,h7,h8,h9,h10,h11,h12,h13⟩;rcases h6 with h6|h6
 ·exact .inl h6
 ·right;cases hk:qaQ s.views s.base with
  | none=>rw[hk] at h6;cases h6
  | some v=>rw[hk] at h6;exact⟨v,rfl,h6⟩
theorem qfu{l:List Vw}(h:qaw l=true):0<l.length∧l.length≤2000:=by
 unfold qaw at h;simp only[zB,zE] at h;exact⟨by omega,h.2.1⟩
theorem qcp(l:List Ent)(n:Nat)(o:Int):qar (l.take n) o≤qar l o:=by
 unfold qar;exact List.Sublist.countP_le (List.take_sublist n l)
theorem qdh{l:List Ent}{b:Int}(h:qaY l b=true):l.length≤2000:=by
 unfold qaY at h;split at h
 ·simp at h;simp[h]
 ·simp only[zB] at h;exact(qc6 h.2.1).1
-- SUBMIT
theorem BM.Lies.repend2{B:Nat}{cs:List Nat}{col col':Nat→Nat}{w w':World}{b:BM}(h:b.Lies w B col)(s:Stp B cs col w col' w')(h0:0∉cs)(h2:2∉cs)(h3:3∉cs)(h4:4∉cs){A:Option Addr}{c:Nat}{l:List (List UInt8)}(hr:Row w' A (qdC.cells l))(hc:ColR col' 6 A (qdC.cells l))(n:Int) :
  ({b with sent:=n,Ap:=A,cp:=c,pend:=l}:BM).Lies w' B col':=
 ⟨(h.vsK s h0).1,(h.vsK s h0).2.1,(h.vsK s h0).2.2,s.own h.log h.lc h2,s.colV h.log h.lc,hr,hc,s.own h.marks h.mc h3,s.colV h.marks h.mc,s.own h.fls h.fc h4,s.colV h.fls h.fc,h.fiK s h0⟩
theorem qro(p:List UInt8)(w:World):Row (w.alloc (.cells #[.string (qaF p)] 9)) (some (Pq w.heap.size 0)) (qdC.cells [p]):=by
 intro _;refine⟨w.heap.size,0,rfl,by simp,fun j q hj=>?_⟩;simp only[Elem.cells,qdC,List.flatMap_cons,List.flatMap_nil,List.append_nil] at hj
 match j,hj with
 | 0,hj=>simpa using hj
theorem qvm{w:World}{n m off:Nat}{xs:List Value}(h:Row w (some (Pq m off)) xs)(hn:n=m):Row w (some (Pq n off)) xs:=by subst hn;exact h
theorem qki{s:St}{m:Nat}(hl:∀e∈s.log,e.p.length≤m)(hp:∀q∈s.pend,q.length≤m)(j:Nat):∀e∈qbc s j,e.p.length≤m:=by
 intro e he;unfold qbc at he;rcases List.mem_append.1 he with he|he
 ·exact hl e he
 ·obtain⟨i,_,rfl⟩:=List.mem_map.1 he;simp only[qcg];cases hq:s.pend[((s.pend.length:Int) - 1 - (s.sent - ((qar s.log s.self:Int)+1+(i:Int)))).toNat]? with
  | none=>simp
  | some q=>exact hp q (zX hq)
theorem qrs{W:World}{v:Value}{l:List (List UInt8)}:∀q∈l,qdC.ok q∧∀r∈qdC.inn q,Row W r.1 r.2∧Apt v r:=fun _ _=>⟨trivial,fun r hr=>by simp[qdC] at hr⟩
theorem qd8(b:BM)(pl:List UInt8)(w:World)(h:b.Reads w)(hf:b.Fits)(hpl:pl.length≤1000000) :
  Calls Tryz.prog 12 #[.agg b.cells,.string (qaF pl)] w (qkC w (qaI b.st pl)):=by
 have E0:Hid (Ext w ((w.alloc (.cells b.cells 28)).alloc (.cells Yq 28))):=hJ ((Ext.new _ _).trans (Ext.new _ _));have R0:=hJ (h.ext E0.out);have HFT:=hJ hf;have HRD:=hJ h;have hsz:=qbE pl;clear h hf;unfold BM.cells;by_cases hv:qbF b.st=true
 ·obtain⟨_,hv2,hv3,hv4,hv5,_,hv7,hv8,hv9,hv10,hv11,hv12,_⟩:=qgF hv;by_cases hlim:6000<pl.length∨b.pend.length=32∨b.sent=1099511627776
  ·have HF:Hid (qaI b.st pl=(qc7,5)):=hJ (by unfold qaI;rw[if_neg (by rw[hv];simp)];exact if_pos hlim);have HV:=hJ hv;by_cases h1:6000<pl.length
   ·clear hv hlim hv2 hv3 hv4 hv5 hv7 hv8 hv9 hv10 hv11 hv12;go_enter Tryz.func12,Tryz.ntmps12;exact qji
   ·by_cases h2:b.pend.length=32
    ·have h2':((b.pend.length:Int) == 32)=true:=by simp[h2]
     have h1':decide ((6000:Int)<(pl.length:Int))=false:=by simp;omega
     clear hv hlim hv2 hv3 hv4 hv5 hv7 hv8 hv9 hv10 hv11 hv12 h2;go_enter Tryz.func12,Tryz.ntmps12;exact qji
    ·have h3:b.sent=1099511627776:=by rcases hlim with h|h|h;exact absurd h h1;exact absurd h h2;exact h
     have h2':((b.pend.length:Int) == 32)=false:=by simp;omega
     have h1':decide ((6000:Int)<(pl.length:Int))=false:=by simp;omega
     have h3':(b.sent == 1099511627776)=true:=by simpa using h3
     clear hv hlim hv2 hv3 hv4 hv5 hv7 hv8 hv9 hv10 hv11 hv12 h2 h3;go_enter Tryz.func12,Tryz.ntmps12;exact qji
  ·have h1:¬6000<pl.length:=fun h=>hlim (.inl h);have h2:¬b.pend.length=32:=fun h=>hlim (.inr (.inl h));have h3:¬b.sent=1099511627776:=fun h=>hlim (.inr (.inr h));have HV:=hJ hv;have HS:Hid (qaI b.st pl=(if qan {b.st with sent:=b.sent+1,pend:=b.pend++[pl]}&&qas {b.st with sent:=b.sent+1,pend:=b.pend++[pl]} then qbo {b.st with sent:=b.sent+1,pend:=b.pend++[pl]} else {b.st with sent:=b.sent+1,pend:=b.pend++[pl]},0)):=hJ (by unfold qaI;rw[if_neg (by rw[hv];simp)];exact if_neg hlim);have h1':decide ((6000:Int)<(pl.length:Int))=false:=by simp;omega
   have h2':((b.pend.length:Int) == 32)=false:=by simp;omega
   have h3':(b.sent == 1099511627776)=false:=by simpa using h3
   have hvl:0<b.vs.length:=by have:=(qfu hv2).1;simpa[BM.st,qaX] using this
   have hlg:b.log.length≤2000:=qdh hv5;have hot:=qcp b.st.log b.st.stable.toNat b.st.self;simp only[BM.st] at hv3 hv4 hv7 hv8 hv9 hv10 hv11 hv12 hot;have HN3:=hJ h3;have HALL:=hJ (And.intro hv3 (And.intro hv4 (And.intro hv7 (And.intro hv8 (And.intro hv9 (And.intro hv10 (And.intro hv11 (And.intro hv12 hot))))))));clear hv hlim hv2 hv5 h2 h3 hv3 hv4 hv7 hv8 hv9 hv10 hv11 hv12 hot;go_enter Tryz.func12,Tryz.ntmps12;go_wp2_with fail;refine(qcF b _ R0.out HFT.out).mono ?_;rintro en w1 ⟨rfl,hx1⟩;have X1:=hJ hx1;have BR1:Hid (BIs w1 (w.heap.size+1) Yq 28):=hJ (by have:=BIs.ext (BIs.new (w.alloc (.cells b.cells 28)) Yq 28) hx1;simpa using this);have BP1:Hid (BIs w1 w.heap.size b.cells 28):=hJ (((BIs.new w b.cells 28).ext (Ext.new _ _)).ext hx1);clear hx1;obtain⟨q0,q1,q2,q3,q4,q5,q6,q7,q8⟩:=qbU BP1.out;obtain⟨y0,y1,y2,y3,y4,y5,y6,y7,y8⟩:=qbU BR1.out;obtain⟨z0,z1,z2,z3,z4,z5,z6,z7,z8⟩:=BR1.out.free9;rw[HV.out];have hp12:Hid (w.heap.size+1<w1.heap.size):=hJ BR1.out.lt;go_wp2_with fail;refine(qge b w1 (R0.out.ext X1.out) HFT.out).mono ?_;rintro en w2 ⟨b',col,rfl,hst',hft',hli,hc8,hpo,hpc,hx2⟩;have L2:=hJ hli;have X2:=hJ hx2;have HC8:=hJ hc8;have HPO:=hJ hpo;have HPC:=hJ hpc;have HST:=hJ hst';have HFT':=hJ hft';obtain⟨self,base,stable,sent,Av,cv,vs,Al,cl,log,Ap,cp,pend,Am,cm,marks,Af,cf,fls⟩:=b';have HEQ:Hid (self=b.self∧sent=b.sent∧pend=b.pend∧log=b.log∧vs.length=b.vs.length∧stable=b.stable):=hJ (by
    have h:=hst';simp only[BM.st,St.mk.injEq] at h;obtain⟨e1,e2,e3,e4,e5,e6,e7,e8,e9⟩:=h;exact⟨e1,e6,e7,e4,by rw[←qaX,e2,qaX],e5⟩)
   clear hli hx2 hc8 hpo hpc hst' hft';have hws:IntKind.i64.wrap (sent+1)=sent+1:=IntWalk.i64_in _ (by have:=HALL.out;have:=HEQ.out;omega);unfold BM.cells;simp only at HPO HPC;go_wp2_with (first
    | (at_builtin;refine qcr qdC rfl (.tmp 35) (.tmp 37) rfl _ w1.heap.size _ pend (by rfl) _ 1 1 [pl] (by rfl) rfl (by exact qvm (qro pl _) (by simp)) (by exact⟨HPO.out.ext ((Ext.new _ _).trans (Ext.new _ _)),fun _ _=>⟨trivial,fun r hr=>by simp[qdC] at hr⟩⟩) qrs (by have:=HALL.out;have:=HEQ.out;have h9:=congrArg List.length this.2.2.1;omega) (by have:=X2.out.size;simp;omega) ?_;intro v5 w5 ho5 hg5 hs5;obtain⟨ND,hnd⟩:∃l,l=pend++[pl]:=⟨_,rfl⟩;rw[←hnd] at ho5;have HND:=hJ hnd;clear hnd;obtain⟨A5,c5,rfl,h51,h52,_⟩:=ho5.slice;have BX5:Hid (BIs w5 w2.heap.size #[.int .i64 self,.slice Av vs.length cv,.int .i64 base,.slice Al log.length cl,.int .i64 stable,.int .i64 (sent+1),.slice Ap pend.length cp,.slice Am marks.length cm,.slice Af fls.length cf] 28):=hJ (((BIs.new w2 _ _).ext (Ext.new _ _)).same (hg5.block w2.heap.size (by simp;omega) (fun e=>by have:=(HPO.out.lt _ e.symm).2;omega)));obtain⟨u0,u1,u2,u3,u4,u5,u6,u7,u8⟩:=qbU BX5.out;have f6:=BX5.out.free 6))
   have hlt2:Hid (w1.heap.size≤w2.heap.size):=hJ X2.out.size;have W56:Hid (Wrote w2.heap.size w5 (w5.setCell (Pw w2 6) (.slice A5 ND.length c5))):=hJ (Wrote.set _ _ _ _);have BX6:Hid (BIs (w5.setCell (Pw w2 6) (.slice A5 ND.length c5)) w2.heap.size (⟨self,base,stable,sent+1,Av,cv,vs,Al,cl,log,A5,c5,ND,Am,cm,marks,Af,cf,fls⟩:BM).cells 28):=hJ (BX5.out.set 6 _);have HCV:Hid (ColV (qai (qai col w2.heap.size 1) (w2.heap.size+1) 6) 6 (.slice A5 ND.length c5)):=hJ (by
    intro q hq;rcases hs5 with h|⟨k,hk,hle⟩
    ·rw[h] at hq;have hlt:=(HPO.out.lt q hq).2;rw[qah (by omega),qah hlt];exact HPC.out q hq
    ·rw[hk] at hq;cases hq;simp at hle;exact qbB (by omega))
   have hq1:Hid ((qai (qai col w2.heap.size 1) (w2.heap.size+1) 6) w2.heap.size=1):=hJ (by rw[qah (by omega),qbB (zR _)]);have S5:Hid (Stp w1.heap.size [1,6] col w2 (qai (qai col w2.heap.size 1) (w2.heap.size+1) 6) w5):=hJ (by
    refine(Stp.ext (cs:=[1,6]) hlt2.out ((Ext.new _ _).trans (Ext.new _ _)) (fun k hk=>by rw[qah (by omega),qah hk])).trans (Stp.grew hg5 (by simp;have:=hlt2.out;omega) (fun k hk=>(HPO.out.lt k hk).1) (c:=6) (fun q hq=>?_) (by simp));have hlt:=(HPO.out.lt q hq).2;rw[qah (by omega),qah hlt];exact HPC.out q hq)
   have HO5:=hJ ho5;clear u0 u1 u2 u3 u4 u5 u6 u7 u8 f6 hs5 hg5 ho5;generalize w5.setCell (Pw w2 6) (.slice A5 ND.length c5)=w6 at *;have S6:Hid (Stp w1.heap.size [1,6] col w2 (qai (qai col w2.heap.size 1) (w2.heap.size+1) 6) w6):=hJ (S5.out.trans (Stp.wrote W56.out hlt2.out (zL hlt2.out S5.out.size) (by rw[hq1.out];simp)));have HO6:Hid (qdC.Own w6 w1.heap.size (.slice A5 ND.length c5) ND):=hJ (HO5.out.1.keep fun q hq hlt=>W56.out.blk hlt (fun e=>by subst e;have:=HCV.out _ hq;rw[hq1.out] at this;cases this));have L6:Hid ((⟨self,base,stable,sent+1,Av,cv,vs,Al,cl,log,A5,c5,ND,Am,cm,marks,Af,cf,fls⟩:BM).Lies w6 w1.heap.size (qai (qai col w2.heap.size 1) (w2.heap.size+1) 6)):=hJ (L2.out.repend2 S6.out (by simp) (by simp) (by simp) (by simp) HO6.out.row (HCV.out.row HO6.out) (sent+1));have HF6:Hid ((⟨self,base,stable,sent+1,Av,cv,vs,Al,cl,log,A5,c5,ND,Am,cm,marks,Af,cf,fls⟩:BM).Fits):=hJ (by
    have hf:=HFT'.out;refine⟨hf.vs,hf.vx,hf.log,hf.lp,?_,fun q hq=>?_,hf.marks,hf.fls,hf.fl,hf.cl⟩
    ·have:=hf.pend;rw[HND.out];simp at this⊢;have:=HALL.out;have:=HEQ.out;have h9:=congrArg List.length this.2.2.1;omega
    ·simp only at hq;rw[HND.out] at hq;rcases List.mem_append.1 hq with hq|hq
     ·exact hf.pp q hq
     ·simp only[zC,zN,or_false] at hq;subst hq;exact hpl)
   have HST6:Hid ((⟨self,base,stable,sent+1,Av,cv,vs,Al,cl,log,A5,c5,ND,Am,cm,marks,Af,cf,fls⟩:BM).st={b.st with sent:=b.sent+1,pend:=b.pend++[pl]}):=hJ (by
    have h:=HST.out;simp only[BM.st,St.mk.injEq] at h⊢;obtain⟨e1,e2,e3,e4,e5,e6,e7,e8,e9⟩:=h;exact⟨e1,e2,e3,e4,e5,by rw[e6],by rw[HND.out,e7],e8,e9⟩)
   have BR6:Hid (BIs w6 (w.heap.size+1) Yq 28):=hJ (S6.out.bis (BR1.out.ext X2.out) (by rw[HC8.out _ hp12.out];simp));have hvs6:0<vs.length:=by have:=HEQ.out.2.2.2.2.1;omega
   refine(qdU ⟨self,base,stable,sent+1,Av,cv,vs,Al,cl,log,A5,c5,ND,Am,cm,marks,Af,cf,fls⟩ w6 L6.out.reads hvs6 HF6.out).mono ?_;rintro en w7 ⟨rfl,hx7⟩;rw[HST6.out];have X7:=hJ hx7;have BX7:=hJ (BX6.out.ext hx7);have L7:Hid ((⟨self,base,stable,sent+1,Av,cv,vs,Al,cl,log,A5,c5,ND,Am,cm,marks,Af,cf,fls⟩:BM).Lies w7 w1.heap.size (qai (qai col w2.heap.size 1) (w2.heap.size+1) 6)):=hJ (L6.out.ext hx7 (fun _ _=>rfl));have BR7:=hJ (BR6.out.ext hx7);have XW7:Hid (Ext w w7):=hJ (Ext.trans (show Ext w w6 from Below.trans ((E0.out.trans X1.out).trans X2.out) (S6.out.below.mono (by have:=hp12.out;omega))) hx7);clear hx7;cases hop:qan {b.st with sent:=b.sent+1,pend:=b.pend++[pl]} with
   | false=>
    have HR:Hid (qaI b.st pl=({b.st with sent:=b.sent+1,pend:=b.pend++[pl]},0)):=hJ (by rw[HS.out,hop];rfl);obtain⟨u0,u1,u2,u3,u4,u5,u6,u7,u8⟩:=qbU BX7.out;obtain⟨y0,y1,y2,y3,y4,y5,y6,y7,y8⟩:=qbU BR7.out;obtain⟨z0,z1,z2,z3,z4,z5,z6,z7,z8⟩:=BR7.out.free9;go_wp2;generalize hQ:(((((((((w7.setCell (Pv w 0) (Jq self)).setCell (Pv w 1) (.slice Av vs.length cv)).setCell (Pv w 2) (Jq base)).setCell (Pv w 3) (.slice Al log.length cl)).setCell (Pv w 4) (Jq stable)).setCell (Pv w 5) (Jq (sent+1))).setCell (Pv w 6) (.slice A5 ND.length c5)).setCell (Pv w 7) (.slice Am marks.length cm)).setCell (Pv w 8) (.slice Af fls.length cf))=W at *;have BF:Hid (BIs W (w.heap.size+1) #[Jq self,.slice Av vs.length cv,Jq base,.slice Al log.length cl,Jq stable,Jq (sent+1),.slice A5 ND.length c5,.slice Am marks.length cm,.slice Af fls.length cf] 28):=(by subst hQ;exact hJ (qaO BR7.out));have XFF:Hid (Ext w W):=(by subst hQ;exact hJ (qaj.ext XW7.out (by omega)));have LF:Hid ((⟨self,base,stable,sent+1,Av,cv,vs,Al,cl,log,A5,c5,ND,Am,cm,marks,Af,cf,fls⟩:BM).Lies W w.heap.size (qai (qai col w2.heap.size 1) (w2.heap.size+1) 6)):=(by subst hQ;exact hJ ((L7.out.base (by have:=hp12.out;omega)).keep (cs:=[8]) (Stp.wrote qaj (by omega) (by have:=XW7.out.size;omega) (by have h1:=hp12.out;have h2:=hlt2.out;rw[qah (by omega),qah (by omega),HC8.out _ h1];simp)) (by simp) (by simp) (by simp) (by simp) (by simp)));clear hQ;exact qlS
   | true=>
    obtain⟨u0,u1,u2,u3,u4,u5,u6,u7,u8⟩:=qbU BX7.out;go_wp2_with fail;refine(qdt ⟨self,base,stable,sent+1,Av,cv,vs,Al,cl,log,A5,c5,ND,Am,cm,marks,Af,cf,fls⟩ w7 L7.out.reads hvs6 HF6.out).mono ?_;rintro en w8 ⟨rfl,hx8⟩;rw[HST6.out];have BX8:=hJ (BX7.out.ext hx8);have L8:Hid ((⟨self,base,stable,sent+1,Av,cv,vs,Al,cl,log,A5,c5,ND,Am,cm,marks,Af,cf,fls⟩:BM).Lies w8 w1.heap.size (qai (qai col w2.heap.size 1) (w2.heap.size+1) 6)):=hJ (L7.out.ext hx8 (fun _ _=>rfl));have BR8:=hJ (BR7.out.ext hx8);have XW8:Hid (Ext w w8):=hJ (XW7.out.trans hx8);clear hx8 u0 u1 u2 u3 u4 u5 u6 u7 u8;cases hle:qas {b.st with sent:=b.sent+1,pend:=b.pend++[pl]} with
    | false=>
     have HR:Hid (qaI b.st pl=({b.st with sent:=b.sent+1,pend:=b.pend++[pl]},0)):=hJ (by rw[HS.out,hop,hle];rfl);obtain⟨u0,u1,u2,u3,u4,u5,u6,u7,u8⟩:=qbU BX8.out;obtain⟨y0,y1,y2,y3,y4,y5,y6,y7,y8⟩:=qbU BR8.out;obtain⟨z0,z1,z2,z3,z4,z5,z6,z7,z8⟩:=BR8.out.free9;go_wp2;generalize hQ:(((((((((w8.setCell (Pv w 0) (Jq self)).setCell (Pv w 1) (.slice Av vs.length cv)).setCell (Pv w 2) (Jq base)).setCell (Pv w 3) (.slice Al log.length cl)).setCell (Pv w 4) (Jq stable)).setCell (Pv w 5) (Jq (sent+1))).setCell (Pv w 6) (.slice A5 ND.length c5)).setCell (Pv w 7) (.slice Am marks.length cm)).setCell (Pv w 8) (.slice Af fls.length cf))=W at *;have BF:Hid (BIs W (w.heap.size+1) #[Jq self,.slice Av vs.length cv,Jq base,.slice Al log.length cl,Jq stable,Jq (sent+1),.slice A5 ND.length c5,.slice Am marks.length cm,.slice Af fls.length cf] 28):=(by subst hQ;exact hJ (qaO BR8.out));have XFF:Hid (Ext w W):=(by subst hQ;exact hJ (qaj.ext XW8.out (by omega)));have LF:Hid ((⟨self,base,stable,sent+1,Av,cv,vs,Al,cl,log,A5,c5,ND,Am,cm,marks,Af,cf,fls⟩:BM).Lies W w.heap.size (qai (qai col w2.heap.size 1) (w2.heap.size+1) 6)):=(by subst hQ;exact hJ ((L8.out.base (by have:=hp12.out;omega)).keep (cs:=[8]) (Stp.wrote qaj (by omega) (by have:=XW8.out.size;omega) (by have h1:=hp12.out;have h2:=hlt2.out;rw[qah (by omega),qah (by omega),HC8.out _ h1];simp)) (by simp) (by simp) (by simp) (by simp) (by simp)));clear hQ;exact qlS
    | true=>
     have HR:Hid (qaI b.st pl=(qbo {b.st with sent:=b.sent+1,pend:=b.pend++[pl]},0)):=hJ (by rw[HS.out,hop,hle];rfl);have hnl:Hid (ND.length=b.pend.length+1):=hJ (by rw[HND.out,HEQ.out.2.2.1];simp);go_wp2_with fail;refine(qme ⟨self,base,stable,sent+1,Av,cv,vs,Al,cl,log,A5,c5,ND,Am,cm,marks,Af,cf,fls⟩ #[] 28 w2.heap.size w1.heap.size _ w8 (by rw[Array.append_empty];exact BX8.out) hq1.out hlt2.out L8.out HF6.out ?_ ?_ ?_ ?_).mono ?_
     ·have:=HALL.out;have:=HEQ.out;simp only;rw[this.2.2.2.1,this.1];omega
     ·have:=HALL.out;have:=HEQ.out;have:=HN3.out;simp only;omega
     ·have:=HALL.out;have:=HEQ.out;have:=hnl.out;simp only;rw[HEQ.out.2.2.2.1,HEQ.out.1];omega
     ·have:=HEQ.out;simp only;rw[this.2.2.2.1];exact hlg
     rintro en w9 ⟨A9,c9,rfl,hb9,ho9,hc9,hs9⟩;rw[HST6.out] at hb9 ho9 hc9;obtain⟨TL,htl⟩:∃l,l=qbc {b.st with sent:=b.sent+1,pend:=b.pend++[pl]} (qbV {b.st with sent:=b.sent+1,pend:=b.pend++[pl]}):=⟨_,rfl⟩;rw[←htl] at hb9 ho9 hc9;have HTL:=hJ htl;rw[Array.append_empty] at hb9;have BX9:Hid (BIs w9 w2.heap.size (⟨self,base,stable,sent+1,Av,cv,vs,A9,c9,TL,A5,c5,ND,Am,cm,marks,Af,cf,fls⟩:BM).cells 28):=hJ hb9;have S9:=hJ hs9;have L9:Hid ((⟨self,base,stable,sent+1,Av,cv,vs,A9,c9,TL,A5,c5,ND,Am,cm,marks,Af,cf,fls⟩:BM).Lies w9 w1.heap.size (qai (qai (qai col w2.heap.size 1) (w2.heap.size+1) 6) w8.heap.size 2)):=hJ (L8.out.relog hs9 (by simp) (by simp) (by simp) (by simp) ho9 hc9);have BR9:Hid (BIs w9 (w.heap.size+1) Yq 28):=hJ (hs9.bis BR8.out (by have h1:=hp12.out;have h2:=hlt2.out;rw[qah (by omega),qah (by omega),HC8.out _ h1];simp));have XW9:Hid (Ext w w9):=hJ (Below.trans XW8.out (hs9.below.mono (by have:=hp12.out;omega)));have HF9:Hid ((⟨self,base,stable,sent+1,Av,cv,vs,A9,c9,TL,A5,c5,ND,Am,cm,marks,Af,cf,fls⟩:BM).Fits):=hJ (by
      have hf:=HF6.out;obtain⟨A',c',hv',h1,h2,_⟩:=ho9.slice;simp only[Value.slice.injEq] at hv';refine⟨hf.vs,hf.vx,?_,fun e he=>?_,hf.pend,hf.pp,hf.marks,hf.fls,hf.fl,?_⟩
      ·simp only;rw[HTL.out,qcR];unfold qbV;simp only[BM.st];omega
      ·simp only at he;rw[HTL.out] at he;exact qki (s:={b.st with sent:=b.sent+1,pend:=b.pend++[pl]}) (HFT.out.lp) (fun q hq=>by rcases List.mem_append.1 hq with hq|hq;exact HFT.out.pp q hq;simp only[zC,zN,or_false] at hq;subst hq;exact hpl) _ e he
      ·exact⟨by simp only;omega,by simp only;omega⟩)
     have HST9:Hid ((⟨self,base,stable,sent+1,Av,cv,vs,A9,c9,TL,A5,c5,ND,Am,cm,marks,Af,cf,fls⟩:BM).st=qbo {b.st with sent:=b.sent+1,pend:=b.pend++[pl]}):=hJ (by
      have h:=HST6.out;unfold qbo;simp only[BM.st,St.mk.injEq] at h⊢;obtain⟨e1,e2,e3,e4,e5,e6,e7,e8,e9⟩:=h;exact⟨e1,e2,e3,HTL.out,e5,e6,e7,e8,e9⟩)
     clear hb9 ho9 hc9 hs9 htl;obtain⟨u0,u1,u2,u3,u4,u5,u6,u7,u8⟩:=qbU BX9.out;obtain⟨y0,y1,y2,y3,y4,y5,y6,y7,y8⟩:=qbU BR9.out;obtain⟨z0,z1,z2,z3,z4,z5,z6,z7,z8⟩:=BR9.out.free9;go_wp2;generalize hQ:(((((((((w9.setCell (Pv w 0) (Jq self)).setCell (Pv w 1) (.slice Av vs.length cv)).setCell (Pv w 2) (Jq base)).setCell (Pv w 3) (.slice A9 TL.length c9)).setCell (Pv w 4) (Jq stable)).setCell (Pv w 5) (Jq (sent+1))).setCell (Pv w 6) (.slice A5 ND.length c5)).setCell (Pv w 7) (.slice Am marks.length cm)).setCell (Pv w 8) (.slice Af fls.length cf))=W at *;have BF:Hid (BIs W (w.heap.size+1) #[Jq self,.slice Av vs.length cv,Jq base,.slice A9 TL.length c9,Jq stable,Jq (sent+1),.slice A5 ND.length c5,.slice Am marks.length cm,.slice Af fls.length cf] 28):=(by subst hQ;exact hJ (qaO BR9.out));have XFF:Hid (Ext w W):=(by subst hQ;exact hJ (qaj.ext XW9.out (by omega)));have LF:Hid ((⟨self,base,stable,sent+1,Av,cv,vs,A9,c9,TL,A5,c5,ND,Am,cm,marks,Af,cf,fls⟩:BM).Lies W w.heap.size (qai (qai (qai col w2.heap.size 1) (w2.heap.size+1) 6) w8.heap.size 2)):=(by subst hQ;exact hJ ((L9.out.base (by have:=hp12.out;omega)).keep (cs:=[8]) (Stp.wrote qaj (by omega) (by have:=XW9.out.size;omega) (by have h1:=hp12.out;have h2:=hlt2.out;rw[qah (by have:=XW8.out.size;have:=BR8.out.lt;omega),qah (by omega),qah (by omega),HC8.out _ h1];simp)) (by simp) (by simp) (by simp) (by simp) (by simp)));clear hQ;obtain⟨e0,e1,e2,e3,e4,e5,e6,e7,e8⟩:=qbU BF.out;refine bodyPost_ret (v:=.tuple #[.agg #[Jq self,.slice Av vs.length cv,Jq base,.slice A9 TL.length c9,Jq stable,Jq (sent+1),.slice A5 ND.length c5,.slice Am marks.length cm,.slice Af fls.length cf],Jq 0]) (by simp[results,Tryz.results12,go_sem,e0,e1,e2,e3,e4,e5,e6,e7,e8]) rfl ?_;rw[HR.out];exact⟨⟨self,base,stable,sent+1,Av,cv,vs,A9,c9,TL,A5,c5,ND,Am,cm,marks,Af,cf,fls⟩,rfl,HST9.out,LF.out.reads,HF9.out,XFF.out,LF.out.new (fun k hk=>by have h1:=hp12.out;have h2:=hlt2.out;rw[qah (by have:=XW8.out.size;have:=BR8.out.lt;omega),qah (by omega),qah (by omega)];exact HC8.out k (by omega))⟩
 ·have HV:Hid (qbF b.st=false):=hJ (by simpa using hv);have HF:Hid (qaI b.st pl=(qc7,1)):=hJ (by unfold qaI;rw[if_pos HV.out]);clear hv;go_enter Tryz.func12,Tryz.ntmps12;go_wp2_with fail;refine(qcF b _ R0.out HFT.out).mono ?_;rintro en w1 ⟨rfl,hx1⟩;have X1:=hJ hx1;have BR1:Hid (BIs w1 (w.heap.size+1) Yq 28):=hJ (by have:=BIs.ext (BIs.new (w.alloc (.cells b.cells 28)) Yq 28) hx1;simpa using this);have BP1:Hid (BIs w1 w.heap.size b.cells 28):=hJ (((BIs.new w b.cells 28).ext (Ext.new _ _)).ext hx1);clear hx1;obtain⟨q0,q1,q2,q3,q4,q5,q6,q7,q8⟩:=qbU BP1.out;obtain⟨y0,y1,y2,y3,y4,y5,y6,y7,y8⟩:=qbU BR1.out;obtain⟨z0,z1,z2,z3,z4,z5,z6,z7,z8⟩:=BR1.out.free9;rw[HV.out];go_wp2;generalize hQ:(((((((((w1.setCell (Pv w 0) (Jq 0)).setCell (Pv w 1) Zq).setCell (Pv w 2) (Jq 0)).setCell (Pv w 3) Zq).setCell (Pv w 4) (Jq 0)).setCell (Pv w 5) (Jq 0)).setCell (Pv w 6) Zq).setCell (Pv w 7) Zq).setCell (Pv w 8) Zq)=W at *;have BF:Hid (BIs W (w.heap.size+1) Yq 28):=(by subst hQ;exact hJ (qaO BR1.out));have XFF:Hid (Ext w W):=(by subst hQ;exact hJ (qaj.ext (E0.out.trans X1.out) (by omega)));clear hQ;obtain⟨e0,e1,e2,e3,e4,e5,e6,e7,e8⟩:=qbU BF.out;refine bodyPost_ret (v:=.tuple #[.agg Yq,Jq 1]) (by simp[results,Tryz.results12,go_sem,e0,e1,e2,e3,e4,e5,e6,e7,e8]) rfl ?_;exact qd3 HF.out XFF.out
structure OkS(s:St):Prop where
 vs:0<s.views.length
 st0:0≤s.stable
 st1:s.stable≤s.log.length
 own:(qar s.log s.self:Int)≤s.sent
 sent:s.sent≤1099511627776
 pend:(s.pend.length:Int)=s.sent - qar (s.log.take s.stable.toNat) s.self
 pn:s.pend.length≤32
 log:s.log.length≤2000
 lp:∀e∈s.log,e.p.length≤6000
 pp:∀p∈s.pend,p.length≤6000
 mks:∀x∈s.marks,0≤x.2∧x.2≤(s.log.length:Int)
 mem:qap (qad s.views).1 (qad s.views).2=true
theorem qbI(a b:List Ent)(o:Int):qar (a++b) o=qar a o+qar b o:=by unfold qar;rw[List.countP_append]
theorem qnD(l:List Ent)(n:Nat)(o:Int):qar l o=qar (l.take n) o+qar (l.drop n) o:=by rw[←qbI,List.take_append_drop]
theorem qcL(s:St)(j:Nat):qar (qbc s j) s.self=qar s.log s.self+j:=by
 unfold qbc;rw[qbI];congr 1;unfold qar;rw[List.countP_map,List.countP_eq_length.2 (fun i _=>by simp)];simp
theorem qpA{s:St}(h:OkS s)(n:Int):qar (qcQ s.log s.stable n) s.self≤s.pend.length:=by
 have h1:qar (qcQ s.log s.stable n) s.self≤qar (s.log.drop s.stable.toNat) s.self:=by
  unfold qcQ qar;exact List.Sublist.countP_le ((List.take_sublist _ _).drop _)
 have h2:=qnD s.log s.stable.toNat s.self;have h3:=h.own;have h4:=h.pend;omega
theorem qeK{s:St}(h:OkS s):1≤qfB (qad s.views).2.length∧(qad s.views).2.length≤16∧1≤(qad s.views).2.length:=by
 have hm:=h.mem;unfold qap at hm;simp only[zB] at hm;have h1:=qc9 (m:=16) hm.2;unfold qfB;have h2:1≤(qad s.views).2.length∧(qad s.views).2.length≤16:=by omega
 rw[if_pos (by omega)];omega
theorem qqU(s:St):s.log.length≤2000→(qbc s (qbV s)).length≤2000:=by
 intro h;rw[qcR];unfold qbV;omega
theorem qsq{s:St}(h:OkS s):OkS (qbo s):=by
 have ho:=qcL s (qbV s);have hn:qar s.log s.self+qbV s≤s.sent:=by have:=h.own;unfold qbV;omega
 refine⟨h.vs,h.st0,?_,?_,h.sent,?_,h.pn,qqU s h.log,qki h.lp h.pp _,h.pp,fun x hx=>⟨(h.mks x hx).1,?_⟩,h.mem⟩
 ·have:=h.st1;show s.stable≤((qbc s (qbV s)).length:Int);rw[qcR];omega
 ·show (qar (qbc s (qbV s)) s.self:Int)≤s.sent;rw[ho];omega
 ·show (s.pend.length:Int)=s.sent - qar ((qbc s (qbV s)).take s.stable.toNat) s.self;have h1:=h.st1;have h2:=h.st0;unfold qbc;rw[List.take_append_of_le_length (by omega)];exact h.pend
 ·have:=(h.mks x hx).2;show x.2≤((qbc s (qbV s)).length:Int);rw[qcR];omega
theorem qdj(c:Cs)(n:Int):(raiseF c n).s.log=c.s.log∧(raiseF c n).s.marks=c.s.marks∧(raiseF c n).s.views=c.s.views∧(raiseF c n).s.base=c.s.base∧(raiseF c n).s.self=c.s.self∧(raiseF c n).s.fls=c.s.fls∧(raiseF c n).pk=c.pk∧(raiseF c n).s.sent=c.s.sent:=by
 unfold raiseF;split<;>exact⟨rfl,rfl,rfl,rfl,rfl,rfl,rfl,rfl⟩
theorem qaK(c:Cs):(qam c).s.log=c.s.log∧(qam c).s.marks=c.s.marks∧(qam c).s.views=c.s.views∧(qam c).s.base=c.s.base∧(qam c).s.self=c.s.self∧(qam c).s.fls=c.s.fls∧(qam c).pk=c.pk∧(qam c).s.sent=c.s.sent:=by
 unfold qam;split
 ·exact⟨rfl,rfl,rfl,rfl,rfl,rfl,rfl,rfl⟩
 ·exact qdj _ _
theorem qh6(c:Cs)(x:Int):(qaP c x).s=c.s∧(qaP c x).dl=c.dl∧(qaP c x).pk.length≤c.pk.length+1:=by
 unfold qaP;split
 ·exact⟨rfl,rfl,by omega⟩
 ·split<;>exact⟨rfl,rfl,by simp[qcm]⟩
theorem qcj(l:List Int):∀c:Cs,(l.foldl qaP c).s=c.s∧(l.foldl qaP c).dl=c.dl∧(l.foldl qaP c).pk.length≤c.pk.length+l.length:=by
 induction l with
 | nil=>intro c;exact⟨rfl,rfl,by simp⟩
 | cons x l ih=>
  intro c;obtain⟨h1,h2,h3⟩:=ih (qaP c x);obtain⟨k1,k2,k3⟩:=qh6 c x;exact⟨h1.trans k1,h2.trans k2,by simp only[List.foldl_cons,zK];omega⟩
theorem qnT{α:Type}{l:List Int}{k:Nat}{x:Int}(f:α→Int→α)(c:α)(h:l[k]?=some x):(l.take (k+1)).foldl f c=f ((l.take k).foldl f c) x:=by
 rw[List.take_add_one,h];simp
theorem qgP{a b:Vw}(h:qbD a b=true):qap b.1 b.2=true∧b.1=a.1+1:=by
 unfold qbD at h;simp only[zE] at h;have h1:=qhP h;exact⟨h1.2.2.2.2.2.2.2.2,h1.2.1⟩
theorem qa8{l:List Vw}(h:qaw l=true):1≤l.length∧l.length≤2000∧qap (qbu l 0).1 (qbu l 0).2=true∧∀i,i<l.length - 1→qbD (qbu l i) (qbu l (i+1))=true:=by
 unfold qaw at h;simp only[zB,zE,List.all_eq_true,List.mem_range] at h;exact⟨h.1,h.2.1,h.2.2.1,h.2.2.2⟩
theorem qel{l:List Vw}(h:qaw l=true):∀i,i<l.length→qap (qbu l i).1 (qbu l i).2=true:=by
 obtain⟨h1,h2,h3,h4⟩:=qa8 h;intro i hi
 match i with
 | 0=>exact h3
 | i+1=>exact(qgP (h4 i (by omega))).1
theorem qeY{l:List Vw}(h:qaw l=true):qap (qad l).1 (qad l).2=true:=qel h _ (by have:=(qa8 h).1;omega)
theorem qnn{xs:List Int}(h:∀x∈xs,I64 x):(qgk xs).length≤11*xs.length:=by
 have:=ql6 h xs.length;rwa [List.take_length] at this
theorem qe9(n:Int)(xs:List Int):(qqe n xs).length≤200:=by
 unfold qqe;split
 ·next h=>
  have h1:=qaU h;have h2:=qaV h;have h3:∀x∈xs,I64 x:=by
   intro x hx;unfold qap at h;simp only[zB] at h;have:=((qcN (m:=16)).1 h.2).2.2.2 x hx;unfold I64;omega
  have h4:=qnn h3;have h5:=qaz (v:=n.toNat) (by unfold U64;omega);have h6:=qaz (v:=xs.length) (by unfold U64;omega);simp only[zA];omega
 ·simp
theorem qtd{l:List Ent}(h:qax l=true):∀e∈l,e.p.length≤6000:=by
 intro e he;obtain⟨i,hi,rfl⟩:=List.mem_iff_getElem.1 he;have h1:=(qc6 h).2 i hi;rw[qcK (zY hi)] at h1;unfold qcP at h1;split at h1
 ·simp only[zB] at h1;have h2:=h1.2;unfold qcq at h2;simp only[zB,zE] at h2;have h3:=congrArg Ent.p h2.2.2;unfold qab at h3;simp only at h3;rw[h3];have:=qe9 (qhc (l[i]).p).1 (qhc (l[i]).p).2.1;omega
 ·simp only[zB,zE] at h1;exact h1.2.1
theorem qkn{l:List Ent}{b:Int}(h:qaY l b=true):∀e∈l,e.p.length≤6000:=by
 unfold qaY at h;split at h
 ·intro e he;simp only[zE] at h;have:l=[]:=List.eq_nil_of_length_eq_zero h;subst this;simp at he
 ·simp only[zB] at h;exact qtd h.2.1
theorem qp0{s:St}(h:qcx s=true):(s.marks.length=0∨(qan s=true∧qas s=true))∧(s.fls.length=0∨(qan s=false∧qas s=true))∧(∀i x,s.marks[i]?=some x→qfY s i x=true)∧∀i f,s.fls[i]?=some f→qtt s i f=true:=by
 unfold qcx at h;simp only[zB,Bool.or_eq_true,zE,List.all_eq_true,List.mem_range,Bool.not_eq_true'] at h;obtain⟨h1,h2,h3,h4⟩:=h;refine⟨h1,h2,fun i x hx=>?_,fun i f hf=>?_⟩
 ·have:=h3 i (zZ hx).1;unfold qbA at this;rw[hx] at this;exact this
 ·have:=h4 i (zZ hf).1;unfold qdH at this;rw[hf] at this;exact this
theorem qf0{s:St}(h:qbF s=true):OkS s:=by
 obtain⟨h1,h2,h3,h4,h5,h6,h7,h8,h9,h10,h11,h12,h13⟩:=qgF h;refine⟨(qfu h2).1,h8,h9,h7,h4,h11,h10,qdh h5,qkn h5,h12,fun x hx=>?_,qeY h2⟩;obtain⟨i,hi,rfl⟩:=List.mem_iff_getElem.1 hx;have:=(qp0 h13).2.2.1 i _ (zY hi);unfold qfY at this;simp only[zB,zE] at this;exact this.2.2.2
theorem qfU{l:List Ent}{e:Ent}{i:Nat}(h:i≤l.length)(h0:0<i):qev (l++[e]) i=qev l i:=by
 unfold qev;rw[List.getElem?_append_left (by omega)]
theorem qpO{l:List Ent}{e x:Ent}{i:Nat}(h:i<l.length):qcP (l++[e]) i x=qcP l i x:=by
 unfold qcP;by_cases h0:i=0
 ·subst h0;simp
 ·rw[qfU (by omega) (by omega),List.take_append_of_le_length (by omega)]
theorem qko{l:List Ent}{e:Ent}(h:qax l=true)(hl:l.length<2000)(he:qcP (l++[e]) l.length e=true):qax (l++[e])=true:=by
 unfold qax at *;simp only[zB,zE,List.all_eq_true,List.mem_range] at h⊢;refine⟨by simp;omega,fun i hi=>?_⟩;simp only[zA,zK,List.length_nil] at hi;by_cases hlt:i<l.length
 ·obtain⟨x,hx⟩:∃x,l[i]?=some x:=⟨l[i],by simp[hlt]⟩;have h1:=h.2 i hlt;rw[qcK hx] at h1;rw[qcK (e:=x) (by rw[List.getElem?_append_left hlt];exact hx),qpO hlt];exact h1
 ·have:i=l.length:=by omega
  subst this;rw[qcK (e:=e) (by simp)];exact he
theorem qmk{l:List Ent}{e:Ent}{o:Int}(h:e.o=o):qar (l++[e]) o=qar l o+1:=by
 unfold qar;rw[List.countP_append];simp[h]
theorem qmm{l:List Ent}{base self:Int}{p:List UInt8}(h:qax l=true)(hl:l.length<2000)(h0:0<l.length)(hb:qca l=base)(hi:qcl self=true)(hp:p.length≤6000) :
  qax (l++[⟨base,self,(qar l self:Int)+1,p⟩])=true∧qca (l++[⟨base,self,(qar l self:Int)+1,p⟩])=base:=by
 have hpv:qev (l++[⟨base,self,(qar l self:Int)+1,p⟩]) l.length=base:=by
  rw[qfU (zR _) h0];exact hb
 refine⟨qko h hl ?_,?_⟩
 ·unfold qcP;rw[hpv,if_neg (by rintro(h|h)<;>first|omega|exact h rfl),List.take_left];simp[hi,hp]
 ·unfold qca;simp
theorem qnJ(s:St)(j:Nat):qbc s (j+1)=qbc s j++[⟨s.base,s.self,(qar (qbc s j) s.self:Int)+1,qcg s (qar s.log s.self+1+j)⟩]:=by
 rw[qcL,show ((qar s.log s.self+j:Nat):Int)+1=(qar s.log s.self:Int)+1+j by omega];unfold qbc;rw[List.range_succ,List.map_append,←List.append_assoc];simp only[List.map_cons,List.map_nil]
theorem qfW{s:St}(h:∀p∈s.pend,p.length≤6000)(q:Int):(qcg s q).length≤6000:=by
 unfold qcg;cases hx:s.pend[((s.pend.length:Int) - 1 - (s.sent - q)).toNat]? with
 | none=>simp
 | some p=>exact h p (zX hx)
theorem qlF{s:St}(h:qax s.log=true)(h0:0<s.log.length)(hb:qca s.log=s.base)(hi:qcl s.self=true)(hp:∀p∈s.pend,p.length≤6000):∀j,s.log.length+j≤2000→qax (qbc s j)=true∧qca (qbc s j)=s.base:=by
 intro j;induction j with
 | zero=>intro _;simp only[qbc,List.range_zero,List.map_nil,List.append_nil];exact⟨h,hb⟩
 | succ j ih=>
  intro hj;obtain⟨h1,h2⟩:=ih (by omega);rw[qnJ];exact qmm h1 (by rw[qcR];omega) (by rw[qcR];omega) h2 hi (qfW hp _)
theorem qew(l:List Nat):∀c:Cs,(l.foldl qaZ c).s=c.s∧(l.foldl qaZ c).dl=c.dl:=by
 induction l with
 | nil=>intro c;exact⟨rfl,rfl⟩
 | cons x l ih=>intro c;obtain⟨h1,h2⟩:=ih (qaZ c x);exact⟨h1,h2⟩
theorem qn5(n:Nat):∀(i v:Nat) (r:List UInt8),i≤8→(i=0∨0<n)→n<2 ^ (7*(9 - i))→qd4 (qa4 n++r) i v=(v+n*2 ^ (7*i),i+(qa4 n).length,0):=by
 induction n using Nat.strongRecOn with
 | ind n ih=>
  intro i v r hi h0 hn;by_cases hlt:n<128
  ·rw[qeV hlt];have ht:(UInt8.ofNat n).toNat=n:=by rw[UInt8.toNat_ofNat'];omega
   simp only[List.cons_append,List.nil_append,qd4,ht];rw[if_neg (by omega),if_pos hlt,Nat.mod_eq_of_lt hlt];rfl
  ·have h128:128≤n:=by omega
   rw[qlJ h128];have ht:(UInt8.ofNat (n % 128+128)).toNat=n % 128+128:=by rw[UInt8.toNat_ofNat'];omega
   have hi8:i<8:=by
    rcases Nat.lt_or_ge i 8 with h|h
    ·exact h
    ·have:i=8:=by omega
     subst this;simp at hn;omega
   simp only[List.cons_append,qd4,ht];rw[if_neg (by omega),if_neg (by omega)];have hp:2 ^ (7*(9 - i))=128*2 ^ (7*(9 - (i+1))):=by rw[show 7*(9 - i)=7+7*(9 - (i+1)) by omega,Nat.pow_add]
   rw[ih (n / 128) (by omega) (i+1) _ r (by omega) (.inr (by omega)) (by rw[hp] at hn;omega)];have hq:2 ^ (7*(i+1))=128*2 ^ (7*i):=by rw[show 7*(i+1)=7+7*i by omega,Nat.pow_add]
   have e1:(n % 128+128) % 128=n % 128:=by omega
   simp only[Prod.mk.injEq,and_true,zK];refine⟨?_,by omega⟩;rw[e1,hq,Nat.add_assoc,←Nat.mul_assoc,←Nat.add_mul];congr 2;omega
theorem qff{n:Nat}(h:n<2 ^ 63)(r:List UInt8):qbt (qa4 n++r)=(n,(qa4 n).length,0):=by
 unfold qbt;rw[qn5 n 0 0 r (by omega) (.inl rfl) (by simpa using h)];simp
theorem qpG{x:Int}(h:0≤x)(h2:x≤1000):qly (zig x)=x∧zig x<2 ^ 63:=by
 unfold qly zig;constructor
 ·split<;>split<;>omega
 ·split<;>omega
theorem qpe(xs:List Int):∀(pre:List UInt8) (l:List Int),(∀x∈xs,0≤x∧x≤1000)→qf7 (pre++qgk xs) xs.length l pre.length=(l++xs,(pre++qgk xs).length,0):=by
 induction xs with
 | nil=>intro pre l _;simp[qf7,qgk]
 | cons x xs ih=>
  intro pre l h;obtain⟨u1,u2⟩:=qpG (h x (by simp)).1 (h x (by simp)).2;have e:qgk (x::xs)=qa4 (zig x)++qgk xs:=by simp[qgk]
  have d:qeO ((pre++qgk (x::xs)).drop pre.length)=(x,(qa4 (zig x)).length,0):=by
   rw[List.drop_left,e];unfold qeO;rw[qff u2,u1]
  show (if (qeO ((pre++qgk (x::xs)).drop pre.length)).2.2=0 then _ else _)=_;rw[d,if_pos rfl];have:=ih (pre++qa4 (zig x)) (l++[x]) (fun y hy=>h y (by simp[hy]));rw[e,←List.append_assoc];simp only[zA,List.append_assoc] at this⊢;simpa using this
theorem qqG{n:Int}{xs:List Int}(h:qap n xs=true):qhc (qqe n xs)=(n,xs,(qqe n xs).length,0):=by
 have h':=h;unfold qap at h';simp only[zB,zE] at h';obtain⟨⟨h1,h2⟩,h3⟩:=h';have hl:=qc9 (m:=16) h3;have hr:∀x∈xs,0≤x∧x≤1000:=by
  rw[qha (by omega) (by omega)] at h3;intro x hx;have:=((qfJ xs 0).1 h3).2 x hx;omega
 rw[ql7 h,List.append_assoc];have d1:=qff (n:=n.toNat) (by omega) (qa4 xs.length++qgk xs);have d2:=qff (n:=xs.length) (by omega) (qgk xs);have d3:qgg (qa4 xs.length++qgk xs) 16=(xs,(qa4 xs.length++qgk xs).length,0):=by
  have d4:qdE (qa4 xs.length++qgk xs) 16=(xs.length,(qa4 xs.length).length,0):=by
   unfold qdE;rw[d2];simp only[ne_eq,not_true_eq_false,if_false];exact if_neg (by omega)
  unfold qgg;rw[d4];simp only[ne_eq,not_true_eq_false,if_false];have:=qpe xs (qa4 xs.length) [] hr;simpa using this
 unfold qhc;rw[d1];simp only[List.drop_left,d3,ne_eq,not_true_eq_false,if_false];rw[if_neg (by omega),if_neg (by rw[h3];simp)];simp only[Prod.mk.injEq,and_true,zA];omega
def qtU(l:List Int):Prop:=l.Pairwise (·<·)∧∀k∈l,0<k
theorem qpc{l:List Int}:(∀i k,l[i]?=some k→(if i=0 then 0 else (l[i - 1]?).getD 0)<k)↔qtU l:=by
 constructor
 ·intro h;have h2:∀(j i:Nat) (hj:j<l.length) (hi:i<j),l[i]'(by omega)<l[j]:=by
   intro j;induction j with
   | zero=>intro i hj hi;omega
   | succ j ih=>
    intro i hj hi;have h3:=h (j+1) l[j+1] (zY hj);rw[if_neg (by omega),Nat.add_sub_cancel,zY (by omega)] at h3;simp only[Option.getD_some] at h3;by_cases he:i=j
    ·subst he;exact h3
    ·have:=ih i (by omega) (by omega);omega
  refine⟨List.pairwise_iff_getElem.2 (fun i j hi hj hij=>h2 j i hj hij),fun k hk=>?_⟩;obtain⟨i,hi,rfl⟩:=List.mem_iff_getElem.1 hk;have h0:=h 0 l[0] (zY (by omega));rw[if_pos rfl] at h0;by_cases he:i=0
  ·subst he;exact h0
  ·have:=h2 i 0 hi (by omega);omega
 ·rintro⟨h1,h2⟩ i k hk;obtain⟨hi,rfl⟩:=zZ hk;split
  ·exact h2 _ (List.getElem_mem hi)
  ·rw[zY (by omega)];exact List.pairwise_iff_getElem.1 h1 (i - 1) i (by omega) hi (by omega)
theorem qhw{α:Type}(key:α→Int)(x:α):∀(l:List α),(l.map key).Pairwise (·<·)→
  (((l[(l.takeWhile fun y=>decide (key y<key x)).length]?).map key=some (key x)→((l.set (l.takeWhile fun y=>decide (key y<key x)).length x).map key).Pairwise (·<·))∧
   ((l[(l.takeWhile fun y=>decide (key y<key x)).length]?).map key≠some (key x)→((l.take (l.takeWhile fun y=>decide (key y<key x)).length++x::l.drop (l.takeWhile fun y=>decide (key y<key x)).length).map key).Pairwise (·<·)))
 | [],_=>by simp
 | y::l,h=>by
  have hl:(l.map key).Pairwise (·<·):=by simp only[List.map_cons,List.pairwise_cons] at h;exact h.2
  have hy:∀z∈l,key y<key z:=by
   simp only[List.map_cons,List.pairwise_cons,List.mem_map,forall_exists_index,and_imp,forall_apply_eq_imp_iff₂] at h;exact h.1
  obtain⟨i1,i2⟩:=qhw key x l hl;by_cases hlt:key y<key x
  ·simp only[List.takeWhile_cons,hlt,decide_true,if_true,zK,List.getElem?_cons_succ,List.set_cons_succ,List.take_succ_cons,List.drop_succ_cons,List.map_cons,List.cons_append,List.pairwise_cons];refine⟨fun he=>⟨fun a ha=>?_,i1 he⟩,fun he=>⟨fun a ha=>?_,i2 he⟩⟩
   ·obtain⟨z,hz,rfl⟩:=List.mem_map.1 ha;rcases List.mem_or_eq_of_mem_set hz with hz|rfl
    ·exact hy z hz
    ·exact hlt
   ·obtain⟨z,hz,rfl⟩:=List.mem_map.1 ha;rcases List.mem_append.1 hz with hz|hz
    ·exact hy z (List.mem_of_mem_take hz)
    ·rcases zC.1 hz with rfl|hz
     ·exact hlt
     ·exact hy z (List.mem_of_mem_drop hz)
  ·simp only[List.takeWhile_cons,hlt,decide_false,Bool.false_eq_true,if_false,List.length_nil,List.getElem?_cons_zero,Option.map_some,zJ,List.set_cons_zero,List.map_cons,List.take_zero,List.nil_append,List.drop_zero,List.pairwise_cons];refine⟨fun he=>⟨fun a ha=>?_,hl⟩,fun he=>⟨fun a ha=>?_,?_,hl⟩⟩
   ·obtain⟨z,hz,rfl⟩:=List.mem_map.1 ha;rw[←he];exact hy z hz
   ·rcases zC.1 ha with rfl|ha
    ·exact Int.lt_iff_le_and_ne.2 ⟨Int.not_lt.1 hlt,fun e=>he (congrArg some e.symm)⟩
    ·obtain⟨z,hz,rfl⟩:=List.mem_map.1 ha;have:=hy z hz;show key x<key z;omega
   ·intro a ha;obtain⟨z,hz,rfl⟩:=List.mem_map.1 ha;exact hy z hz
theorem qgp{α:Type}{l:List α}{k:Nat}{x z:α}(h:z∈l.take k++x::l.drop k):z=x∨z∈l:=by
 rcases List.mem_append.1 h with h|h
 ·exact .inr (List.mem_of_mem_take h)
 ·rcases zC.1 h with h|h
  ·exact .inl h
  ·exact .inr (List.mem_of_mem_drop h)
def qvp(s:St)(m:Int×Int):Prop:=m.1≠s.self∧qbN (qad s.views).2 m.1=true∧0≤m.2∧m.2≤s.log.length
theorem qkt{s:St}:qcx s=true↔(s.marks=[]∨(qan s=true∧qas s=true))∧(s.fls=[]∨(qan s=false∧qas s=true))∧(qtU (s.marks.map Prod.fst)∧∀m∈s.marks,qvp s m)∧(qtU (s.fls.map Prod.fst)∧∀f∈s.fls,qcl f.1=true∧qbL s.views f=true):=by
 unfold qcx;simp only[zB,Bool.or_eq_true,zE,List.all_eq_true,List.mem_range,Bool.not_eq_true',List.length_eq_zero_iff];refine and_congr Iff.rfl (and_congr Iff.rfl (and_congr ?_ ?_))
 ·rw[←qpc];constructor
  ·intro h;have h1:∀i m,s.marks[i]?=some m→qfY s i m=true:=by
    intro i m hm;have:=h i (zZ hm).1;unfold qbA at this;rw[hm] at this;exact this
   refine⟨fun i k hk=>?_,fun m hm=>?_⟩
   ·rw[zM] at hk;obtain⟨m,hm,rfl⟩:=Option.map_eq_some_iff.1 hk;have:=h1 i m hm;unfold qfY qsn at this;simp only[zB,zE] at this;have h2:=this.1;rw[zM];cases hx:s.marks[i - 1]? with
    | none=>rw[hx] at h2;simpa using h2
    | some y=>rw[hx] at h2;simpa using h2
   ·obtain⟨i,hi,rfl⟩:=List.mem_iff_getElem.1 hm;have:=h1 i _ (zY hi);unfold qfY at this;simp only[zB,zE] at this;exact this.2
  ·rintro⟨h1,h2⟩ i hi;unfold qbA;rw[zY hi];have h3:=h1 i (s.marks[i]).1 (by rw[zM,zY hi];rfl);have h4:=h2 _ (List.getElem_mem hi);unfold qfY qsn;simp only[zB,zE];refine⟨?_,h4⟩;rw[zM] at h3;cases hx:s.marks[i - 1]? with
   | none=>rw[hx] at h3;simpa using h3
   | some y=>rw[hx] at h3;simpa using h3
 ·rw[←qpc];constructor
  ·intro h;have h1:∀i m,s.fls[i]?=some m→qtt s i m=true:=by
    intro i m hm;have:=h i (zZ hm).1;unfold qdH at this;rw[hm] at this;exact this
   refine⟨fun i k hk=>?_,fun m hm=>?_⟩
   ·rw[zM] at hk;obtain⟨m,hm,rfl⟩:=Option.map_eq_some_iff.1 hk;have:=h1 i m hm;unfold qtt qrR at this;simp only[zB,zE] at this;have h2:=this.1;rw[zM];cases hx:s.fls[i - 1]? with
    | none=>rw[hx] at h2;simpa using h2
    | some y=>rw[hx] at h2;simpa using h2
   ·obtain⟨i,hi,rfl⟩:=List.mem_iff_getElem.1 hm;have:=h1 i _ (zY hi);unfold qtt at this;simp only[zB,zE] at this;exact this.2
  ·rintro⟨h1,h2⟩ i hi;unfold qdH;rw[zY hi];have h3:=h1 i (s.fls[i]).1 (by rw[zM,zY hi];rfl);have h4:=h2 _ (List.getElem_mem hi);unfold qtt qrR;simp only[zB,zE];refine⟨?_,h4⟩;rw[zM] at h3;cases hx:s.fls[i - 1]? with
   | none=>rw[hx] at h3;simpa using h3
   | some y=>rw[hx] at h3;simpa using h3
structure VS(s:St):Prop where
 self:qcl s.self=true
 vs:qaw s.views=true
 sent0:0≤s.sent
 sent:s.sent≤1099511627776
 based:qaY s.log s.base=true
 known:s.base = -1∨∃v,qaQ s.views s.base=some v∧qbN v.2 s.self=true
 own:(qar s.log s.self:Int)≤s.sent
 st0:0≤s.stable
 st:s.stable≤s.log.length
 pl:s.pend.length≤32
 pd:(s.pend.length:Int)=s.sent - qar (s.log.take s.stable.toNat) s.self
 pp:∀p∈s.pend,p.length≤6000
 mk0:s.marks=[]∨(qan s=true∧qas s=true)
 fl0:s.fls=[]∨(qan s=false∧qas s=true)
 mka:qtU (s.marks.map Prod.fst)
 mks:∀m∈s.marks,qvp s m
 fla:qtU (s.fls.map Prod.fst)
 fls:∀f∈s.fls,qcl f.1=true∧qbL s.views f=true
theorem qb2{s:St}:qbF s=true↔VS s:=by
 constructor
 ·intro h;obtain⟨h1,h2,h3,h4,h5,h6,h7,h8,h9,h10,h11,h12,h13⟩:=qgF h;obtain⟨k1,k2,⟨k3,k4⟩,k5,k6⟩:=qkt.1 h13;exact⟨h1,h2,h3,h4,h5,h6,h7,h8,h9,h10,h11,h12,k1,k2,k3,k4,k5,k6⟩
 ·intro h;unfold qbF;simp only[zB,zE,Bool.or_eq_true,List.all_eq_true];refine⟨h.self,h.vs,h.sent0,h.sent,h.based,?_,h.own,h.st0,h.st,h.pl,h.pd,h.pp,qkt.2 ⟨h.mk0,h.fl0,⟨h.mka,h.mks⟩,h.fla,h.fls⟩⟩;rcases h.known with hk|⟨v,hk,hv⟩
  ·exact .inl hk
  ·right;rw[hk];exact hv
theorem qsx{l:List Vw}(h:qaw l=true):∀i,i<l.length→(qbu l i).1=(qbu l 0).1+i:=by
 obtain⟨_,_,_,h4⟩:=qa8 h;intro i;induction i with
 | zero=>intro _;simp
 | succ i ih=>intro hi;have h5:=(qgP (h4 i (by omega))).2;have:=ih (by omega);rw[h5,this];push_cast;omega
theorem qes{l:List Vw}{i:Nat}(h:i<l.length):qbu l i=l[i]:=by unfold qbu;rw[zY h];rfl
theorem qjr{l:List Vw}(h:qaw l=true){i:Nat}(hi:i<l.length):qaQ l (qbu l i).1=some (qbu l i):=by
 unfold qaQ;refine List.find?_eq_some_iff_getElem.2 ⟨by simp,i,hi,(qes hi).symm,fun j hj=>?_⟩;have h1:=qsx h i hi;have h2:=qsx h j (by omega);rw[qes (by omega)] at h2;simp;omega
theorem qdf{l:List Vw}(h:qaw l=true):qaQ l (qad l).1=some (qad l):=qjr h (by have:=(qa8 h).1;omega)
theorem VS.last{s:St}(h:VS s):qap (qad s.views).1 (qad s.views).2=true:=qeY h.vs
theorem VS.open_base{s:St}(h:VS s)(ho:qan s=true):s.base=(qad s.views).1∧s.base≠-1:=by
 unfold qan at ho;simp only[zE] at ho;have:=qaV h.last;exact⟨ho,by omega⟩
theorem VS.log{s:St}(h:VS s)(hb:s.base≠-1):0<s.log.length∧qax s.log=true∧qca s.log=s.base:=by
 have:=h.based;unfold qaY at this;rw[if_neg hb] at this;simp only[zB,zE] at this;exact this
theorem VS.lead_has{s:St}(h:VS s)(hl:qas s=true):qbN (qad s.views).2 s.self=true:=by
 unfold qas qa1 at hl;rw[if_pos h.last] at hl;simp only[zE] at hl;have h1:=(qaU h.last).1;rw[zY (by omega)] at hl;rw[qbq,←hl];exact List.getElem_mem _
theorem qfa{l:List Ent}{b:Int}(h0:0<l.length)(hv:qax l=true)(hb:qca l=b)(hn:b≠-1):qaY l b=true:=by
 unfold qaY;rw[if_neg hn,hv,hb];simp[h0]
theorem VS.extend{s:St}(h:VS s){ex:List Ent}(hb:qaY (s.log++ex) s.base=true)(ho:(qar (s.log++ex) s.self:Int)≤s.sent):VS {s with log:=s.log++ex}:=by
 have h1:=h.st;have h0:=h.st0;refine⟨h.self,h.vs,h.sent0,h.sent,hb,h.known,ho,h.st0,by simp;omega,h.pl,?_,h.pp,h.mk0,h.fl0,h.mka,fun m hm=>?_,h.fla,h.fls⟩
 ·show (s.pend.length:Int)=s.sent - qar ((s.log++ex).take s.stable.toNat) s.self;rw[List.take_append_of_le_length (by omega)];exact h.pd
 ·obtain⟨m1,m2,m3,m4⟩:=h.mks m hm;exact⟨m1,m2,m3,by simp;omega⟩
theorem VS.raise{s:St}(h:VS s){n:Int}(hn:s.stable<n)(hl:n≤s.log.length):VS {s with pend:=s.pend.drop (qar (qcQ s.log s.stable n) s.self),stable:=n}:=by
 have h1:=h.st;have h0:=h.st0;have hd:=h.pd;have hp:=h.pl;have ho:=h.own;have e1:s.log.take n.toNat=s.log.take s.stable.toNat++qcQ s.log s.stable n:=by
  unfold qcQ;rw[show s.log.take s.stable.toNat=(s.log.take n.toNat).take s.stable.toNat by rw[List.take_take,Nat.min_eq_left (by omega)],List.take_append_drop]
 have e2:qar (s.log.take n.toNat) s.self=qar (s.log.take s.stable.toNat) s.self+qar (qcQ s.log s.stable n) s.self:=by rw[e1,qbI]
 have e3:=qcp s.log n.toNat s.self;refine⟨h.self,h.vs,h.sent0,h.sent,h.based,h.known,h.own,by show 0≤n;omega,hl,?_,?_,fun p hp=>h.pp p (List.mem_of_mem_drop hp),h.mk0,h.fl0,h.mka,h.mks,h.fla,h.fls⟩
 ·simp only[zD];omega
 ·show ((s.pend.drop (qar (qcQ s.log s.stable n) s.self)).length:Int)=s.sent - qar (s.log.take n.toNat) s.self;rw[zD];omega
theorem VS.relog{s:St}(h:VS s){l:List Ent}(hm:s.marks=[])(hb:qaY l (qad s.views).1=true)(hs:qbN (qad s.views).2 s.self=true)(hp:qgs l (s.log.take s.stable.toNat)=true)(ho:(qar l s.self:Int)≤s.sent) :
  VS {s with base:=(qad s.views).1,log:=l,fls:=[]}∧l.take s.stable.toNat=s.log.take s.stable.toNat:=by
 have h1:=h.st;have h0:=h.st0;unfold qgs at hp;simp only[zB,zE,zT] at hp;have e:l.take s.stable.toNat=s.log.take s.stable.toNat:=by
  have:=hp.2;rwa [Nat.min_eq_left (by omega)] at this
 refine⟨⟨h.self,h.vs,h.sent0,h.sent,hb,.inr ⟨_,qdf h.vs,hs⟩,ho,h.st0,?_,h.pl,?_,h.pp,.inl hm,.inl rfl,h.mka,fun m hm'=>?_,⟨List.Pairwise.nil,fun k hk=>by cases hk⟩,fun f hf=>by cases hf⟩,e⟩
 ·show s.stable≤(l.length:Int);have:=hp.1;omega
 ·show (s.pend.length:Int)=s.sent - qar (l.take s.stable.toNat) s.self;rw[e];exact h.pd
 ·have:m∈s.marks:=hm';rw[hm] at this;cases this
end Go.Proofs.YtponbabbabnaeaaGreat
namespace Go.Proofs
open Go.Shelf
def Tryz.lays189_ren:Go.Shelf.Ren:=⟨fun|189=>170|125=>201|257=>200|128=>221|129=>222|294=>212|295=>213|296=>214|297=>215|298=>216|299=>217|216=>218|300=>219|301=>220|328=>226|329=>227|330=>228|331=>229|332=>230|215=>231|343=>234|n=>n,fun|28=>44|3=>3|46=>61|0=>0|51=>202|53=>146|4=>4|183=>231|182=>230|131=>156|5=>5|9=>9|218=>239|222=>243|228=>247|229=>182|n=>n,fun|n=>n⟩
theorem Tryz.lays189:Go.Proofs.Lays.n189 Tryz.prog Tryz.lays189_ren:={
 mixed:=by kernel_rfl
 f125:=Tryz.func201.trans (congrArg some (by kernel_rfl))
 f128:=Tryz.func221.trans (congrArg some (by kernel_rfl))
 f129:=Tryz.func222.trans (congrArg some (by kernel_rfl))
 f189:=Tryz.func170.trans (congrArg some (by kernel_rfl))
 f215:=Tryz.func231.trans (congrArg some (by kernel_rfl))
 f216:=Tryz.func218.trans (congrArg some (by kernel_rfl))
 f257:=Tryz.func200.trans (congrArg some (by kernel_rfl))
 f294:=Tryz.func212.trans (congrArg some (by kernel_rfl))
 f295:=Tryz.func213.trans (congrArg some (by kernel_rfl))
 f296:=Tryz.func214.trans (congrArg some (by kernel_rfl))
 f297:=Tryz.func215.trans (congrArg some (by kernel_rfl))
 f298:=Tryz.func216.trans (congrArg some (by kernel_rfl))
 f299:=Tryz.func217.trans (congrArg some (by kernel_rfl))
 f300:=Tryz.func219.trans (congrArg some (by kernel_rfl))
 f301:=Tryz.func220.trans (congrArg some (by kernel_rfl))
 f328:=Tryz.func226.trans (congrArg some (by kernel_rfl))
 f329:=Tryz.func227.trans (congrArg some (by kernel_rfl))
 f330:=Tryz.func228.trans (congrArg some (by kernel_rfl))
 f331:=Tryz.func229.trans (congrArg some (by kernel_rfl))
 f332:=Tryz.func230.trans (congrArg some (by kernel_rfl))
 f343:=Tryz.func234.trans (congrArg some (by kernel_rfl))
 t0:=Tryz.underlying0
 a0:=Tryz.isAgg0
 z0:=Tryz.sizeOf0
 v0:=Tryz.zeroValue0
 t3:=Tryz.underlying3
 a3:=Tryz.isAgg3
 z3:=Tryz.sizeOf3
 v3:=Tryz.zeroValue3
 t4:=Tryz.underlying4
 a4:=Tryz.isAgg4
 z4:=Tryz.sizeOf4
 v4:=Tryz.zeroValue4
 t5:=Tryz.underlying5
 a5:=Tryz.isAgg5
 z5:=Tryz.sizeOf5
 v5:=Tryz.zeroValue5
 t9:=Tryz.underlying9
 a9:=Tryz.isAgg9
 z9:=Tryz.sizeOf9
 v9:=Tryz.zeroValue9
 t28:=Tryz.underlying44
 a28:=Tryz.isAgg44
 z28:=Tryz.sizeOf44
 v28:=Tryz.zeroValue44
 t46:=Tryz.underlying61
 a46:=Tryz.isAgg61
 z46:=Tryz.sizeOf61
 v46:=Tryz.zeroValue61
 t51:=Tryz.underlying202
 a51:=Tryz.isAgg202
 z51:=Tryz.sizeOf202
 v51:=Tryz.zeroValue202
 t53:=Tryz.underlying146
 a53:=Tryz.isAgg146
 z53:=Tryz.sizeOf146
 v53:=Tryz.zeroValue146
 t131:=Tryz.underlying156
 a131:=Tryz.isAgg156
 z131:=Tryz.sizeOf156
 v131:=Tryz.zeroValue156
 t182:=Tryz.underlying230
 a182:=Tryz.isAgg230
 z182:=Tryz.sizeOf230
 v182:=Tryz.zeroValue230
 t183:=Tryz.underlying231
 a183:=Tryz.isAgg231
 z183:=Tryz.sizeOf231
 v183:=Tryz.zeroValue231
 t218:=Tryz.underlying239
 a218:=Tryz.isAgg239
 z218:=Tryz.sizeOf239
 v218:=Tryz.zeroValue239
 t222:=Tryz.underlying243
 a222:=Tryz.isAgg243
 z222:=Tryz.sizeOf243
 v222:=Tryz.zeroValue243
 t228:=Tryz.underlying247
 a228:=Tryz.isAgg247
 z228:=Tryz.sizeOf247
 v228:=Tryz.zeroValue247
 t229:=Tryz.underlying182
 a229:=Tryz.isAgg182
 z229:=Tryz.sizeOf182
 v229:=Tryz.zeroValue182}
end Go.Proofs
