/- Part 6 of the proof: contracts of functions that the statement reaches. Conditions: as each theorem says. -/
import Derived.Lib.AppendStr
import Derived.Laws.BitsAllLaws
import Derived.Test.YtponbabbabnaeaaGreatQf05
import Derived.Test.YtponbabbabnaeaaGreatQf03
import Derived.Test.YtponbabbabnaeaaGreatQf01
import Derived.Test.YtponbabbabnaeaaGreatQf04
set_option maxRecDepth 100000
set_option maxHeartbeats 40000000
namespace Go.Proofs.YtponbabbabnaeaaGreat
open Go.RowKit
abbrev BM.cells3(b:BM)(st:Int)(Ap:Option Addr):Array Value:=#[.int .i64 b.self,.slice b.Av b.vs.length b.cv,.int .i64 b.base,.slice b.Al b.log.length b.cl,.int .i64 st,.int .i64 b.sent,.slice Ap b.pend.length b.cp,.slice b.Am b.marks.length b.cm,.slice b.Af b.fls.length b.cf]
theorem qdu{w w':World}{b:BM}{st:Int}{Ap:Option Addr}(h:Ext (w.alloc (.cells (b.cells3 st Ap) 28)) w') :
  w'.cell? (Pq w.heap.size 0)=some (Jq b.self)∧w'.cell? (Pq w.heap.size 1)=some (.slice b.Av b.vs.length b.cv)∧w'.cell? (Pq w.heap.size 2)=some (Jq b.base)∧w'.cell? (Pq w.heap.size 3)=some (.slice b.Al b.log.length b.cl)∧w'.cell? (Pq w.heap.size 4)=some (Jq st)∧w'.cell? (Pq w.heap.size 5)=some (Jq b.sent)∧w'.cell? (Pq w.heap.size 6)=some (.slice Ap b.pend.length b.cp)∧w'.cell? (Pq w.heap.size 7)=some (.slice b.Am b.marks.length b.cm)∧w'.cell? (Pq w.heap.size 8)=some (.slice b.Af b.fls.length b.cf)∧w.heap.size<w'.heap.size:=by
 refine⟨?_,?_,?_,?_,?_,?_,?_,?_,?_,?_⟩
 ·simpa using h.cell_new 0
 ·simpa using h.cell_new 1
 ·simpa using h.cell_new 2
 ·simpa using h.cell_new 3
 ·simpa using h.cell_new 4
 ·simpa using h.cell_new 5
 ·simpa using h.cell_new 6
 ·simpa using h.cell_new 7
 ·simpa using h.cell_new 8
 ·have:=h.size;simp at this;omega
theorem qn6(A:Option Addr)(c:Nat)(l:List Ent)(o:Int)(w:World)(h:Row w A (qaH.cells l))(hn:l.length≤1000000000)(n:Nat)(hr:qar l o=n) :
  Calls Tryz.prog 91 #[.slice A l.length c,Jq o] w fun e w'=>e=.returned (Jq n)∧Ext w w':=by
 subst hr;exact qcD A c l o w h hn
theorem quD(A:Option Addr)(k c:Nat)(l:List Ent)(o:Int)(w:World)(hk:k=l.length)(h:Row w A (qaH.cells l))(hn:l.length≤1000000000)(n:Nat)(hr:qar l o=n) :
  Calls Tryz.prog 91 #[.slice A k c,Jq o] w fun e w'=>e=.returned (Jq n)∧Ext w w':=by
 subst hk;exact qn6 A c l o w h hn n hr
def knB(s:St):Bool:=decide (s.base = -1)||(match qaQ s.views s.base with|none=>false|some v=>qbN v.2 s.self)
theorem qn4(s:St):qbF s=(qcl s.self&&(qaw s.views&&(decide (0≤s.sent)&&(decide (s.sent≤1099511627776)&&(qaY s.log s.base&&(knB s&&(decide ((qar s.log s.self:Int)≤s.sent)&&(decide (0≤s.stable)&&(decide (s.stable≤s.log.length)&&(decide (s.pend.length≤32)&&(decide ((s.pend.length:Int)=s.sent - qar (s.log.take s.stable.toNat) s.self)&&((s.pend.all fun p=>decide (p.length≤6000))&&qcx s)))))))))))):=by
 unfold qbF knB;rfl
theorem quC{s:St}(h:s.base = -1):knB s=true:=by unfold knB;rw[decide_eq_true h];rfl
theorem qsT{s:St}(hb:s.base≠-1)(h:qaQ s.views s.base=none):knB s=false:=by unfold knB;rw[decide_eq_false hb,h];rfl
theorem qtM{s:St}{v:Vw}(hb:s.base≠-1)(h:qaQ s.views s.base=some v):knB s=qbN v.2 s.self:=by unfold knB;rw[decide_eq_false hb,h];rfl
theorem quy{l:List Vw}(h:qaw l=true):0<l.length:=by
 unfold qaw at h;simp only[zB,zE] at h;omega
theorem qpH{w:World}{A:Option Addr}{l:List (List UInt8)}{i:Nat}(h:Row w A (qdC.cells l))(hi:i<l.length) :
  ∃b off p,A=some (Pq b off)∧b<w.heap.size∧w.cell? (Pq b (off+i))=some (.string (qaF p))∧Hid (l[i]?=some p):=by
 obtain⟨b,off,p,h1,h2,h3,_,h5⟩:=Elem.Box.at_ (E:=qdC) (w:=w) (A:=A) (l:=l) ⟨h,fun a _=>⟨trivial,fun r hr=>by simp[qdC] at hr⟩⟩ hi;have h3':∀j u,(qdC.f p)[j]?=some u→w.cell? (Pq b (off+i*1+j))=some u:=h3.out;exact⟨b,off,p,h1,h2,by simpa using h3' 0 _ rfl,h5⟩
theorem qtf{l:List (List UInt8)}{k:Nat}{p:List UInt8}(h:l[k]?=some p)(hp:¬p.length≤6000):(l.all fun p=>decide (p.length≤6000))=false:=by
 rw[List.all_eq_false];exact⟨p,zX h,by simpa using hp⟩
theorem qp8{l:List (List UInt8)}{k:Nat}{p:List UInt8}(h:l[k]?=some p)(hp:p.length≤6000)(h1:((l.take k).all fun p=>decide (p.length≤6000))=true):((l.take (k+1)).all fun p=>decide (p.length≤6000))=true:=by
 rw[qbv h,List.all_append,h1];simp[hp]
theorem qjY(b:BM)(st:Int)(Ap:Option Addr)(w:World)(h1:b.stable=st)(h2:b.Ap=Ap)(h:b.Reads w)(hp:0<b.vs.length)(hf:b.Fits) :
  Calls Tryz.prog 92 #[.agg #[Jq b.self,.slice b.Av b.vs.length b.cv,Jq b.base,.slice b.Al b.log.length b.cl,Jq st,Jq b.sent,.slice Ap b.pend.length b.cp,.slice b.Am b.marks.length b.cm,.slice b.Af b.fls.length b.cf]] w fun e w'=>e=.returned (.bool (qcx b.st))∧Ext w w':=by
 subst h1 h2;exact qir b w h hp hf
theorem qlH(b:BM)(st:Int)(Ap:Option Addr)(w:World)(hst:b.stable=st)(hAp:b.Ap=Ap)(h:b.Reads w)(hf:b.Fits) :
  Calls Tryz.prog 23 #[.agg #[Jq b.self,.slice b.Av b.vs.length b.cv,Jq b.base,.slice b.Al b.log.length b.cl,Jq st,Jq b.sent,.slice Ap b.pend.length b.cp,.slice b.Am b.marks.length b.cm,.slice b.Af b.fls.length b.cf]] w fun e w'=>e=.returned (.bool (qbF b.st))∧Ext w w':=by
 have H0:=hJ (Ext.new w (.cells (b.cells3 st Ap) 28));have HR:=hJ (h.ext H0.out);have hn:b.vs.length≤1000000000:=by have:=hf.vs;omega
 have hll:b.log.length≤1000000000:=by have:=hf.log;omega
 have hpl:b.pend.length≤1000000000:=by have:=hf.pend;omega
 have hlc:b.log.length≤b.cl:=hf.cl.1;have HFT:=hJ hf;have HST:=hJ hst;have HAP:=hJ hAp;have HE:=hJ (qn4 b.st);clear h hf hst hAp;unfold BM.cells3 at H0 HR;go_enter Tryz.func23,Tryz.ntmps23;go_wp2_with fail;refine(qcM b.self _).mono ?_;cases h1:qcl b.self
 ·have H1:=hJ (show qcl b.st.self=false from h1);clear h1;rintro e w1 ⟨rfl,rfl⟩;go_wp2;go_ret;exact⟨qae (by rw[HE.out,H1.out];rfl),H0.out⟩
 have H1:=hJ (show qcl b.st.self=true from h1);clear h1;rintro e w1 ⟨rfl,rfl⟩;go_wp2_with fail;refine(qfo b.Av b.cv b.vs _ HR.out.vs hn HFT.out.vx).mono ?_;cases h2:qaw (vws b.vs)
 ·have H2:=hJ (show qaw b.st.views=false from h2);clear h2;rintro e w1 ⟨rfl,hx1⟩;have X1:=hJ hx1;clear hx1;go_wp2;go_ret;exact⟨qae (by rw[HE.out,H2.out];simp),H0.out.trans X1.out⟩
 have H2:=hJ (show qaw b.st.views=true from h2);have hp:0<b.vs.length:=by have:=quy h2;rwa [qaX] at this
 clear h2;rintro e w1 ⟨rfl,hx1⟩;have X1:=hJ hx1;clear hx1;obtain⟨p0,p1,p2,p3,p4,p5,p6,p7,p8,zz⟩:=qdu X1.out;by_cases h3:b.sent<0
 ·have h3':decide (b.sent<0)=true:=decide_eq_true h3;have H3:=hJ (show decide (0≤b.st.sent)=false from decide_eq_false (by show ¬0≤b.sent;omega));clear h3;go_wp2;go_ret;exact⟨qae (by rw[HE.out,H3.out];simp),H0.out.trans X1.out⟩
 have h3':decide (b.sent<0)=false:=decide_eq_false h3;have H3:=hJ (show decide (0≤b.st.sent)=true from decide_eq_true (by show 0≤b.sent;omega));by_cases h4:1099511627776<b.sent
 ·have h4':decide (1099511627776<b.sent)=true:=decide_eq_true h4;have H4:=hJ (show decide (b.st.sent≤1099511627776)=false from decide_eq_false (by show ¬b.sent≤1099511627776;omega));clear h4 h3;go_wp2;go_ret;exact⟨qae (by rw[HE.out,H4.out];simp),H0.out.trans X1.out⟩
 have h4':decide (1099511627776<b.sent)=false:=decide_eq_false h4;have H4:=hJ (show decide (b.st.sent≤1099511627776)=true from decide_eq_true (by show b.sent≤1099511627776;omega));have HSB:=hJ (show 0≤b.sent∧b.sent≤1099511627776 by omega);clear h3 h4;go_wp2_with fail;refine(qdl b.Al b.cl b.log b.base _ (HR.out.ext X1.out).log hll HFT.out.lp).mono ?_;cases h5:qaY b.log b.base
 ·have H5:=hJ (show qaY b.st.log b.st.base=false from h5);clear h5;rintro e w2 ⟨rfl,hx2⟩;have X2:=hJ (X1.out.trans hx2);clear hx2;go_wp2;go_ret;exact⟨qae (by rw[HE.out,H5.out];simp),H0.out.trans X2.out⟩
 have H5:=hJ (show qaY b.st.log b.st.base=true from h5);clear h5;rintro e w2 ⟨rfl,hx2⟩;have X2:=hJ (X1.out.trans hx2);clear hx2 h3' h4' X1;clear p0 p1 p2 p3 p4 p5 p6 p7 p8 zz;obtain⟨p0,p1,p2,p3,p4,p5,p6,p7,p8,zz⟩:=qdu X2.out;go_upto_if 37 with fail;go_cut [2] (fun _ wx=>Hid (knB b.st=true)∧Ext (w.alloc (.cells (b.cells3 st Ap) 28)) wx)
 case first=>
  by_cases hb:b.base = -1
  ·have HB:=hJ (quC (s:=b.st) hb);have hb':(b.base != -1)=false:=by simp[hb]
   clear hb;go_wp2;go_meet
   case rel=>exact⟨HB,X2.out⟩
  ·have HB:=hJ hb;have hb':(b.base != -1)=true:=by simp[hb]
   clear hb;go_wp2_with fail;refine(qkd b.Av b.cv b.vs b.base _ (HR.out.ext X2.out).vs hn).mono ?_;cases hk:qaQ (vws b.vs) b.base with
   | none=>
    have HK:=hJ (qsT (s:=b.st) HB.out hk);clear hk;rintro e w3 ⟨A3,c3,rfl,_,_,_,hx3⟩;have X3:=hJ (X2.out.trans hx3);clear hx3;simp only[Option.getD_none,Option.isSome_none,List.length_nil];go_wp2;go_ret;exact⟨qae (by rw[HE.out,HK.out];simp),H0.out.trans (X3.out.alloc _)⟩
   | some v=>
    obtain⟨vn,xs⟩:=v;have HK:=hJ (qtM (s:=b.st) HB.out hk);have hxl:xs.length≤9223372036854775807:=by
     have:=List.mem_of_find?_eq_some hk;obtain⟨u,hu,hv⟩:=List.mem_map.1 this;have:=HFT.out.vx u hu;have e:u.xs=xs:=by have:=congrArg Prod.snd hv;exact this
     rw[e] at this;omega
    clear hk;rintro e w3 ⟨A3,c3,rfl,_,_,HR3,hx3⟩;have X3:=hJ (X2.out.trans hx3);clear hx3;simp only[Option.getD_some,Option.isSome_some] at HR3⊢;obtain⟨y0,_,_,_,_,_,_,_,_,yz⟩:=qdu X3.out;go_wp2_with fail;refine(qbi A3 c3 xs b.self _ (HR3.out.ext (Ext.new _ _)) hxl _ rfl).mono ?_;cases hh:qbN xs b.self
    ·have HH:=hJ (show qbN (vn,xs).2 b.st.self=false from hh);clear hh;rintro e w4 ⟨rfl,rfl⟩;go_wp2;go_ret;exact⟨qae (by rw[HE.out,HK.out,HH.out];simp),H0.out.trans (X3.out.alloc _)⟩
    ·have HH:=hJ (show qbN (vn,xs).2 b.st.self=true from hh);clear hh;rintro e w4 ⟨rfl,rfl⟩;go_wp2;go_meet
     case rel=>exact⟨hJ (by rw[HK.out];exact HH.out),X3.out.alloc _⟩
 case rest=>
  obtain⟨HKN,HX3⟩:=hcut;have X3:=hJ HX3;clear HX3 X2 p0 p1 p2 p3 p4 p5 p6 p7 p8 zz;obtain⟨p0,p1,p2,p3,p4,p5,p6,p7,p8,zz⟩:=qdu X3.out;have RL:=hJ ((HR.out.ext X3.out.drew).log);obtain⟨no,hno⟩:∃n,qar b.log b.self=n:=⟨_,rfl⟩;have HNO:=hJ hno;have HNO':Hid (qar b.st.log b.st.self=no):=hJ hno;have hnb:no≤b.log.length:=by rw[←hno];exact qmj _ _
  clear hno;by_cases h6:b.sent<(no:Int)
  ·have h6':decide (b.sent<(no:Int))=true:=decide_eq_true h6;have H6:=hJ (show decide ((qar b.st.log b.st.self:Int)≤b.st.sent)=false from decide_eq_false (by rw[HNO'.out];show ¬(no:Int)≤b.sent;omega));clear h6;go_wp2;refine wp_region_held_drew (S:=fun w'=>w'.cell? (Pw w 0)=some (Jq b.self)∧w'.cell? (Pw w 3)=some (.slice b.Al b.log.length b.cl)∧w'.cell? (Pw w 4)=some (Jq st)∧w'.cell? (Pw w 5)=some (Jq b.sent)∧w'.cell? (Pw w 6)=some (.slice Ap b.pend.length b.cp)) (by kernel_rfl) ⟨p0,p3,p4,p5,p6⟩ (fun yH=>?_);refine qaJ 0 56 ?_;refine qaJ 1 57 ?_;refine qaJ 2 58 ?_;refine qaJ 3 59 ?_;refine qaJ 5 61 ?_;refine qaJ 6 62 ?_;refine wpAnyH_ready (rs:=[4]) (by kernel_rfl) (by simp) ?_;refine AllReadyH.cons (o:=⟨some 60,_,_,_,_,_⟩) rfl (fun K hK=>?_) AllReadyH.nil;go_simp;go_at_call 91;refine(qn6 b.Al b.cl b.log b.self _ RL.out hll no HNO.out).mono ?_;rintro e w4 ⟨rfl,hx4⟩;have X4:=hJ ((X3.out.drew).trans hx4);clear yH hx4 p0 p1 p2 p3 p4 p5 p6 p7 p8 zz;obtain⟨p0,p1,p2,p3,p4,p5,p6,p7,p8,zz⟩:=qdu X4.out;refine hK.out _ _ ⟨p0,p3,p4,p5,p6⟩ (fun yH=>?_)
   try simp only[Act.put,l1,l2,l3]
   refine qaJ 7 63 ?_;refine qaJ 8 64 ?_;refine wpAnyH_take (i:=9) (oi:=⟨some 65,_,_,_,_,_⟩) (v:=undef) rfl (by kernel_rfl) (by kernel_rfl) (by kernel_rfl) (fun _ _ _ h=>h) (Or.inr ⟨by rfl,rfl⟩) (by assumption) ?_
   try simp only[Act.put,l1,l2,l3]
   refine wpAnyH_take (i:=10) (oi:=⟨some 66,_,_,_,_,_⟩) (v:=undef) rfl (by kernel_rfl) (by kernel_rfl) (by kernel_rfl) (fun _ _ _ h=>h) (Or.inr ⟨by rfl,rfl⟩) (by assumption) ?_
   try simp only[Act.put,l1,l2,l3]
   refine wpAnyH_take (i:=11) (oi:=⟨some 67,_,_,_,_,_⟩) (v:=undef) rfl (by kernel_rfl) (by kernel_rfl) (by kernel_rfl) (fun _ _ _ h=>h) (Or.inr ⟨by rfl,rfl⟩) (by assumption) ?_
   try simp only[Act.put,l1,l2,l3]
   refine qaJ 12 68 ?_;refine qaJ 13 69 ?_;refine wpAnyH_take (i:=14) (oi:=⟨some 70,_,_,_,_,_⟩) (v:=undef) rfl (by kernel_rfl) (by kernel_rfl) (by kernel_rfl) (fun _ _ _ h=>h) (Or.inr ⟨by rfl,rfl⟩) (by assumption) ?_
   try simp only[Act.put,l1,l2,l3]
   refine wpAnyH_take (i:=15) (oi:=⟨some 71,_,_,_,_,_⟩) (v:=undef) rfl (by kernel_rfl) (by kernel_rfl) (by kernel_rfl) (fun _ _ _ h=>h) (Or.inr ⟨by rfl,rfl⟩) (by assumption) ?_
   try simp only[Act.put,l1,l2,l3]
   refine wpAnyH_take (i:=16) (oi:=⟨some 72,_,_,_,_,_⟩) (v:=undef) rfl (by kernel_rfl) (by kernel_rfl) (by kernel_rfl) (fun _ _ _ h=>h) (Or.inr ⟨by rfl,rfl⟩) (by assumption) ?_
   try simp only[Act.put,l1,l2,l3]
   refine wpAnyH_take (i:=17) (oi:=⟨some 73,_,_,_,_,_⟩) (v:=undef) rfl (by kernel_rfl) (by kernel_rfl) (by kernel_rfl) (fun _ _ _ h=>h) (Or.inr ⟨by rfl,rfl⟩) (by assumption) ?_
   try simp only[Act.put,l1,l2,l3]
   refine wpAnyH_take (i:=18) (oi:=⟨some 74,_,_,_,_,_⟩) (v:=undef) rfl (by kernel_rfl) (by kernel_rfl) (by kernel_rfl) (fun _ _ _ h=>h) (Or.inr ⟨by rfl,rfl⟩) (by assumption) ?_
   try simp only[Act.put,l1,l2,l3]
   refine wpAnyH_take (i:=19) (oi:=⟨some 75,_,_,_,_,_⟩) (v:=undef) rfl (by kernel_rfl) (by kernel_rfl) (by kernel_rfl) (fun _ _ _ h=>h) (Or.inr ⟨by rfl,rfl⟩) (by assumption) ?_
   try simp only[Act.put,l1,l2,l3]
   refine qaJ 20 76 ?_;refine wpAnyH_done (by kernel_rfl) ?_ _;go_wp2;go_ret;exact⟨qae (by rw[HE.out,H6.out];simp),H0.out.trans X4.out⟩
  have h6':decide (b.sent<(no:Int))=false:=decide_eq_false h6;have H6:=hJ (show decide ((qar b.st.log b.st.self:Int)≤b.st.sent)=true from decide_eq_true (by rw[HNO'.out];show (no:Int)≤b.sent;omega));clear h6;by_cases h7:st<0
  ·have h7':decide (st<0)=true:=decide_eq_true h7;have H7:=hJ (show decide (0≤b.st.stable)=false from decide_eq_false (by show ¬0≤b.stable;rw[HST.out];omega));clear h7;go_wp2;refine wp_region_held_drew (S:=fun w'=>w'.cell? (Pw w 0)=some (Jq b.self)∧w'.cell? (Pw w 3)=some (.slice b.Al b.log.length b.cl)∧w'.cell? (Pw w 4)=some (Jq st)∧w'.cell? (Pw w 5)=some (Jq b.sent)∧w'.cell? (Pw w 6)=some (.slice Ap b.pend.length b.cp)) (by kernel_rfl) ⟨p0,p3,p4,p5,p6⟩ (fun yH=>?_);refine qaJ 0 56 ?_;refine qaJ 1 57 ?_;refine qaJ 2 58 ?_;refine qaJ 3 59 ?_;refine qaJ 5 61 ?_;refine qaJ 6 62 ?_;refine wpAnyH_ready (rs:=[4]) (by kernel_rfl) (by simp) ?_;refine AllReadyH.cons (o:=⟨some 60,_,_,_,_,_⟩) rfl (fun K hK=>?_) AllReadyH.nil;go_simp;go_at_call 91;refine(qn6 b.Al b.cl b.log b.self _ RL.out hll no HNO.out).mono ?_;rintro e w4 ⟨rfl,hx4⟩;have X4:=hJ ((X3.out.drew).trans hx4);clear yH hx4 p0 p1 p2 p3 p4 p5 p6 p7 p8 zz;obtain⟨p0,p1,p2,p3,p4,p5,p6,p7,p8,zz⟩:=qdu X4.out;refine hK.out _ _ ⟨p0,p3,p4,p5,p6⟩ (fun yH=>?_)
   try simp only[Act.put,l1,l2,l3]
   refine qaJ 7 63 ?_;refine qaJ 8 64 ?_;refine qaJ 9 65 ?_;refine qaJ 10 66 ?_;refine qaJ 11 67 ?_;refine qaJ 12 68 ?_;refine qaJ 13 69 ?_;refine wpAnyH_take (i:=14) (oi:=⟨some 70,_,_,_,_,_⟩) (v:=undef) rfl (by kernel_rfl) (by kernel_rfl) (by kernel_rfl) (fun _ _ _ h=>h) (Or.inr ⟨by rfl,rfl⟩) (by assumption) ?_
   try simp only[Act.put,l1,l2,l3]
   refine wpAnyH_take (i:=15) (oi:=⟨some 71,_,_,_,_,_⟩) (v:=undef) rfl (by kernel_rfl) (by kernel_rfl) (by kernel_rfl) (fun _ _ _ h=>h) (Or.inr ⟨by rfl,rfl⟩) (by assumption) ?_
   try simp only[Act.put,l1,l2,l3]
   refine wpAnyH_take (i:=16) (oi:=⟨some 72,_,_,_,_,_⟩) (v:=undef) rfl (by kernel_rfl) (by kernel_rfl) (by kernel_rfl) (fun _ _ _ h=>h) (Or.inr ⟨by rfl,rfl⟩) (by assumption) ?_
   try simp only[Act.put,l1,l2,l3]
   refine wpAnyH_take (i:=17) (oi:=⟨some 73,_,_,_,_,_⟩) (v:=undef) rfl (by kernel_rfl) (by kernel_rfl) (by kernel_rfl) (fun _ _ _ h=>h) (Or.inr ⟨by rfl,rfl⟩) (by assumption) ?_
   try simp only[Act.put,l1,l2,l3]
   refine wpAnyH_take (i:=18) (oi:=⟨some 74,_,_,_,_,_⟩) (v:=undef) rfl (by kernel_rfl) (by kernel_rfl) (by kernel_rfl) (fun _ _ _ h=>h) (Or.inr ⟨by rfl,rfl⟩) (by assumption) ?_
   try simp only[Act.put,l1,l2,l3]
   refine wpAnyH_take (i:=19) (oi:=⟨some 75,_,_,_,_,_⟩) (v:=undef) rfl (by kernel_rfl) (by kernel_rfl) (by kernel_rfl) (fun _ _ _ h=>h) (Or.inr ⟨by rfl,rfl⟩) (by assumption) ?_
   try simp only[Act.put,l1,l2,l3]
   refine qaJ 20 76 ?_;refine wpAnyH_done (by kernel_rfl) ?_ _;go_wp2;go_ret;exact⟨qae (by rw[HE.out,H7.out];simp),H0.out.trans X4.out⟩
  have h7':decide (st<0)=false:=decide_eq_false h7;have H7:=hJ (show decide (0≤b.st.stable)=true from decide_eq_true (by show 0≤b.stable;rw[HST.out];omega));by_cases h8:(b.log.length:Int)<st
  ·have h8':decide ((b.log.length:Int)<st)=true:=decide_eq_true h8;have H8:=hJ (show decide (b.st.stable≤(b.st.log.length:Int))=false from decide_eq_false (by show ¬b.stable≤(b.log.length:Int);rw[HST.out];omega));clear h8 h7;go_wp2;go_region_held3 (fun w'=>w'.cell? (Pw w 0)=some (Jq b.self)∧w'.cell? (Pw w 3)=some (.slice b.Al b.log.length b.cl)∧w'.cell? (Pw w 4)=some (Jq st)∧w'.cell? (Pw w 5)=some (Jq b.sent)∧w'.cell? (Pw w 6)=some (.slice Ap b.pend.length b.cp))
    (first|exact⟨p0,p3,p4,p5,p6⟩)
    (first
     | (go_at_call 91;(with_reducible refine(qn6 b.Al b.cl b.log b.self _ (by exact RL.out) hll no (by exact HNO.out)).mono ?_);rintro e w4 ⟨rfl,hx4⟩;have X4:=hJ (Ext.trans (X3.out.drew) hx4);clear hx4;obtain⟨p0,p1,p2,p3,p4,p5,p6,p7,p8,zz⟩:=qdu X4.out))
   go_wp2;go_ret;exact⟨qae (by rw[HE.out,H8.out];simp),H0.out.trans X4.out⟩
  have h8':decide ((b.log.length:Int)<st)=false:=decide_eq_false h8;have H8:=hJ (show decide (b.st.stable≤(b.st.log.length:Int))=true from decide_eq_true (by show b.stable≤(b.log.length:Int);rw[HST.out];omega));have HSR:=hJ (show 0≤st∧st≤(b.log.length:Int) by omega);clear h8 h7;go_wp2;go_region_held3 (fun w'=>w'.cell? (Pw w 0)=some (Jq b.self)∧w'.cell? (Pw w 3)=some (.slice b.Al b.log.length b.cl)∧w'.cell? (Pw w 4)=some (Jq st)∧w'.cell? (Pw w 5)=some (Jq b.sent)∧w'.cell? (Pw w 6)=some (.slice Ap b.pend.length b.cp))
   (first|exact⟨p0,p3,p4,p5,p6⟩)
   (first
    | (go_at_call 91;(with_reducible refine(qn6 b.Al b.cl b.log b.self _ (by exact RL.out) hll no (by exact HNO.out)).mono ?_);rintro e w4 ⟨rfl,hx4⟩;have X4:=hJ (Ext.trans (X3.out.drew) hx4);clear hx4;obtain⟨p0,p1,p2,p3,p4,p5,p6,p7,p8,zz⟩:=qdu X4.out))
  have X5:=X4;clear X3 RL h6' h7' h8' X4;have X3:=X5;clear X5;obtain⟨n,hn0⟩:∃n:Nat,st=(n:Int):=⟨st.toNat,by have:=HSR.out;omega⟩;subst hn0;have hnl:n≤b.log.length:=by have:=HSR.out;omega
  have k1:(0:Int)≤(n:Int):=by omega
  have k2:(n:Int)≤(b.cl:Int):=by omega
  have k3:n≤b.cl:=by omega
  have htl:n=(b.log.take n).length:=by rw[zT];omega
  have HTL:=hJ htl;clear htl;obtain⟨nb,hnb2⟩:∃k,qar (b.log.take n) b.self=k:=⟨_,rfl⟩;have HNB:=hJ hnb2;have HNB':Hid (qar (b.st.log.take b.st.stable.toNat) b.st.self=nb):=hJ (by
   show qar (b.log.take b.stable.toNat) b.self=nb;rw[HST.out];exact hnb2)
  have hnb3:nb≤b.log.length:=by rw[←hnb2];exact zL (qi8 _ _ _) hnl
  have hlb:=HFT.out.log;have hsb:=HSB.out;have hwb:IntKind.i64.wrap (b.sent - (nb:Int))=b.sent - (nb:Int):=IntWalk.i64_in _ (by omega);clear hnb2 hsb hlb;have RL2:=hJ ((HR.out.ext X3.out.drew).log.take_ents n);have hll2:(b.log.take n).length≤1000000000:=by rw[zT];omega
  by_cases h9:32<b.pend.length
  ·have h9':decide ((32:Int)<(b.pend.length:Int))=true:=decide_eq_true (by omega);have H9:=hJ (show decide (b.st.pend.length≤32)=false from decide_eq_false (by show ¬b.pend.length≤32;omega));go_wp2;go_quiet (fail);go_wp2;go_ret;exact⟨qae (by rw[HE.out,H9.out];simp),H0.out.trans (X3.out.drewN _)⟩
  have h9':decide ((32:Int)<(b.pend.length:Int))=false:=decide_eq_false (by omega);have H9:=hJ (show decide (b.st.pend.length≤32)=true from decide_eq_true (by show b.pend.length≤32;omega));clear h9;by_cases h10:(b.pend.length:Int)=b.sent - (nb:Int);rotate_left
  ·have h10':((b.pend.length:Int) != b.sent - (nb:Int))=true:=by simp[h10]
   have H10:=hJ (show decide ((b.st.pend.length:Int)=b.st.sent - qar (b.st.log.take b.st.stable.toNat) b.st.self)=false from decide_eq_false (by rw[HNB'.out];exact h10));clear h10;go_wp2;go_region_held3 (fun w'=>w'.cell? (Pw w 0)=some (Jq b.self)∧w'.cell? (Pw w 3)=some (.slice b.Al b.log.length b.cl)∧w'.cell? (Pw w 4)=some (Jq (n:Int))∧w'.cell? (Pw w 5)=some (Jq b.sent)∧w'.cell? (Pw w 6)=some (.slice Ap b.pend.length b.cp))
    (first|exact⟨p0,p3,p4,p5,p6⟩)
    (first
     | (go_at_call 91;(with_reducible refine(quD b.Al n b.cl (b.log.take n) b.self _ (by exact HTL.out) (by exact RL2.out) hll2 nb (by exact HNB.out)).mono ?_);rintro e w4 ⟨rfl,hx4⟩;have X4:=hJ (Ext.trans (X3.out.drew) hx4);clear hx4;obtain⟨p0,p1,p2,p3,p4,p5,p6,p7,p8,zz⟩:=qdu X4.out))
   go_wp2;go_ret;exact⟨qae (by rw[HE.out,H10.out];simp),H0.out.trans X4.out⟩
  have h10':((b.pend.length:Int) != b.sent - (nb:Int))=false:=by simp[h10]
  have H10:=hJ (show decide ((b.st.pend.length:Int)=b.st.sent - qar (b.st.log.take b.st.stable.toNat) b.st.self)=true from decide_eq_true (by rw[HNB'.out];exact h10));clear h10;go_wp2;go_region_held3 (fun w'=>w'.cell? (Pw w 0)=some (Jq b.self)∧w'.cell? (Pw w 3)=some (.slice b.Al b.log.length b.cl)∧w'.cell? (Pw w 4)=some (Jq (n:Int))∧w'.cell? (Pw w 5)=some (Jq b.sent)∧w'.cell? (Pw w 6)=some (.slice Ap b.pend.length b.cp))
   (first|exact⟨p0,p3,p4,p5,p6⟩)
   (first
    | (go_at_call 91;(with_reducible refine(quD b.Al n b.cl (b.log.take n) b.self _ (by exact HTL.out) (by exact RL2.out) hll2 nb (by exact HNB.out)).mono ?_);rintro e w4 ⟨rfl,hx4⟩;have X4:=hJ (Ext.trans (X3.out.drew) hx4);clear hx4;obtain⟨p0,p1,p2,p3,p4,p5,p6,p7,p8,zz⟩:=qdu X4.out))
  have X6:=X4;clear X3 RL2 h9' h10' X4 hwb;go_wp2;go_loopw [101] (fun i wr=>∃k:Nat,k≤b.pend.length∧i=Jq k∧Hid (((b.pend.take k).all fun p=>decide (p.length≤6000))=true)∧Ext (w.alloc (.cells (b.cells3 (n:Int) Ap) 28)) wr) (fun i _=>b.pend.length - (intOf i).toNat)
  case atStart=>exact⟨0,zO _,rfl,hJ rfl,X6.out⟩
  case round=>
   obtain⟨k,hk,rfl,HT,HS0⟩:=hrel;have HS:=hJ HS0;clear HS0;by_cases hlt:k<b.pend.length
   ·obtain⟨bb,off,p,rfl,hb,c0,HP⟩:=qpH (show Row wr Ap (qdC.cells b.pend) by rw[←HAP.out];exact(HR.out.ext HS.out).pend) hlt;have hsz:=qbE p;by_cases h11:p.length≤6000
    ·have H11:=hJ h11;have h11':¬6000<p.length:=by omega
     have h11i:decide ((6000:Int)<(p.length:Int))=false:=decide_eq_false (by omega);clear h11;go_wp2;go_roundw
     case rel=>exact⟨k+1,by omega,by go_num,hJ (qp8 HP.out H11.out HT.out),HS.out⟩
     case measure=>simp[intOf];omega
    ·have H11:=hJ (show (b.st.pend.all fun p=>decide (p.length≤6000))=false from qtf HP.out h11);have h11':6000<p.length:=by omega
     have h11i:decide ((6000:Int)<(p.length:Int))=true:=decide_eq_true (by omega);clear h11;go_wp2;go_ret;exact⟨qae (by rw[HE.out,H11.out];simp),H0.out.trans HS.out⟩
   ·have HALL:=hJ (show (b.st.pend.all fun p=>decide (p.length≤6000))=true from by
     have:=HT.out;rw[List.take_of_length_le (by omega)] at this;exact this)
    obtain⟨t0,t1,t2,t3,t4,t5,t6,t7,t8,tz⟩:=qdu HS.out;go_wp2_with fail;refine(qjY b (n:Int) Ap _ HST.out HAP.out (HR.out.ext HS.out) hp HFT.out).mono ?_;rintro e w7 ⟨rfl,hx7⟩;have X7:=hJ (HS.out.trans hx7);clear hx7;go_wp2;go_ret;exact⟨qae (by rw[HE.out,H1.out,H2.out,H3.out,H4.out,H5.out,HKN.out,H6.out,H7.out,H8.out,H9.out,H10.out,HALL.out];simp),H0.out.trans X7.out⟩
theorem qcF(b:BM)(w:World)(h:b.Reads w)(hf:b.Fits) :
  Calls Tryz.prog 23 #[.agg b.cells] w fun e w'=>e=.returned (.bool (qbF b.st))∧Ext w w':=qlH b b.stable b.Ap w rfl rfl h hf
theorem qiq:∀(l:List VwM) (k:Nat) (a:VwM),k<l.length→qaC.cells (l.set k a)=((qaC.cells l).set (k*2) (Jq a.n)).set (k*2+1) (.slice a.A a.xs.length a.c):=by
 intro l;induction l with
 | nil=>intro k a h;simp at h
 | cons x l ih=>
  intro k a h
  match k with
  | 0=>rfl
  | k+1=>
   rw[List.set_cons_succ,qaC.cells_cons,qaC.cells_cons,ih k a (by simpa using h)];have e1:(k+1)*2=k*2+1+1:=by omega
   rw[e1];rfl
theorem qep{w:World}{p:Addr}{u:Value}{A:Option Addr}{vs:List Value}(h:Row w A vs)(hne:∀q,vs≠[]→A=some q→q.block≠p.block):Row (w.setCell p u) A vs:=by
 intro hx;obtain⟨b,off,h1,h2,h3⟩:=h hx;refine⟨b,off,h1,by rw[show (w.setCell p u).heap.size=w.heap.size from by simp[World.setCell]];exact h2,fun j v hj=>?_⟩;have hb:(w.setCell p u).heap[b]?=w.heap[b]?:=Below.heap_setCell _ _ _ _ (hne _ hx h1);exact(World.cell?_of_block (a:=⟨b,off+j,none⟩) hb).trans (h3 j v hj)
theorem qoE{w:World}{B g cap:Nat}{l:List VwM}{k:Nat}{a:VwM}(h:qaC.OB w B (.slice (some (Pq g 0)) l.length cap) l)(hk:k<l.length)(ha:qaC.ok a)(hr:Row w a.A (qaq a.xs))(hap:Apt (.slice (some (Pq g 0)) l.length cap) (a.A,qaq a.xs)) :
  qaC.OB ((w.setCell (Pq g (k*2)) (Jq a.n)).setCell (Pq g (k*2+1)) (.slice a.A a.xs.length a.c)) B (.slice (some (Pq g 0)) l.length cap) (l.set k a):=by
 have far:∀{r:Option Addr×List Value},Row w r.1 r.2→Apt (.slice (some (Pq g 0)) l.length cap) r→Row ((w.setCell (Pq g (k*2)) (Jq a.n)).setCell (Pq g (k*2+1)) (.slice a.A a.xs.length a.c)) r.1 r.2:=fun h1 h2=>
  qep (qep h1 (fun q hne hq=>Ne.symm (h2 q g hne hq rfl))) (fun q hne hq=>Ne.symm (h2 q g hne hq rfl))
 refine⟨?_,fun q hq=>?_⟩
 ·obtain⟨h1,h2⟩:=h.1;refine⟨by rw[qaC.cells_len],.inr ?_⟩;rcases h2 with ⟨h2,_⟩|⟨g',cap',cur,hv,h3,hh,h4,h5,h6,h7⟩
  ·cases h2
  ·simp only[Value.slice.injEq,zJ,Addr.mk.injEq,and_true,true_and] at hv;obtain⟨rfl,rfl⟩:=hv;refine⟨g,cap,(cur.setIfInBounds (k*2) (Jq a.n)).setIfInBounds (k*2+1) (.slice a.A a.xs.length a.c),by rw[List.length_set],h3,?_,by rw[List.length_set];exact h4,h5,by simpa using h6,?_⟩
   ·exact heap_setCell_same _ _ _ _ _ _ (heap_setCell_same _ _ _ _ _ _ hh)
   ·rw[List.length_set,Array.toList_setIfInBounds,Array.toList_setIfInBounds,List.take_set,List.take_set,h7,qiq l k a hk]
 ·rcases List.mem_or_eq_of_mem_set hq with hq|rfl
  ·exact⟨(h.2 q hq).1,fun r hr'=>⟨far ((h.2 q hq).2 r hr').1 ((h.2 q hq).2 r hr').2,((h.2 q hq).2 r hr').2⟩⟩
  ·refine⟨ha,fun r hr'=>?_⟩;simp only[qaC,zC,zN,or_false] at hr';subst hr';exact⟨far (r:=(q.A,qaq q.xs)) hr hap,hap⟩
theorem qtG{l:List VwM}{k:Nat}{n:Int}{X A:Option Addr}{cx c:Nat}{xs:List Int}(h:l[k]?=some ⟨n,X,cx,xs⟩):vws (l.set k ⟨n,A,c,xs⟩)=vws l:=by
 unfold vws;rw[List.map_set];apply List.ext_getElem?;intro i;by_cases hi:k=i
 ·subst hi;rw[List.getElem?_set];obtain⟨hk,he⟩:=zZ h;simp[hk,he,VwM.v]
 ·rw[List.getElem?_set];simp[hi]
theorem qqp{w:World}{B:Nat}{A:Option Addr}{n c:Nat}{l:List VwM}(h:qaC.OB w B (.slice A n c) l)(hp:0<l.length):∃g,A=some (Pq g 0)∧n=l.length∧g<w.heap.size∧w.frozen? (Pq g 0)=false:=by
 obtain⟨_,h2⟩:=h.1;rcases h2 with ⟨_,hn⟩|⟨g,cap,cur,hv,_,hh,_⟩
 ·omega
 ·simp only[Value.slice.injEq] at hv;have hg:g<w.heap.size:=by
   rcases Nat.lt_or_ge g w.heap.size with hlt|hge
   ·exact hlt
   ·rw[Array.getElem?_eq_none hge] at hh;cases hh
  exact⟨g,hv.1,hv.2.1,hg,by simp[World.frozen?,hh]⟩
theorem qmu{w:World}{B g c n:Nat}{l:List VwM}(h:qaC.OB w B (.slice (some (Pq g 0)) n c) l)(i:Nat):w.frozen? (Pq g i)=false:=by
 obtain⟨_,h2⟩:=h.1;rcases h2 with ⟨h2,_⟩|⟨g',cap,cur,hv,_,hh,_⟩
 ·cases h2
 ·simp only[Value.slice.injEq,zJ,Addr.mk.injEq,and_true] at hv;obtain⟨rfl,_⟩:=hv;simp[World.frozen?,hh]
def qtW(w:World)(A:Option Addr)(xs:List Value):Prop:=∀p,xs≠[]→A=some p→w.heap.size≤p.block
theorem qsA{w:World}{l:List VwM}{k:Nat}{a:VwM}(h:∀i v,i<k→l[i]?=some v→qtW w v.A (qaq v.xs))(ha:qtW w a.A (qaq a.xs)):∀i v,i<k+1→(l.set k a)[i]?=some v→qtW w v.A (qaq v.xs):=by
 intro i v hi hv;rw[List.getElem?_set] at hv;split at hv
 ·split at hv
  ·cases hv;exact ha
  ·cases hv
 ·exact h i v (by omega) hv
theorem qfp(A:Option Addr)(c:Nat)(l:List VwM)(w:World)(h:qaC.Box w A l)(hn:l.length≤1000000)(hx:∀v∈l,v.xs.length≤1000000) :
  Calls Tryz.prog 93 #[.slice A l.length c] w fun e w'=>∃l',Hid (vws l'=vws l)∧Hid (∀v∈l',qtW w v.A (qaq v.xs))∧qaC.Gives w l' e w':=by
 have H:=hJ h;have HXX:=hJ (show ∀v∈vws l,v.2.length≤1000000 from fun v hv=>by obtain⟨u,hu,rfl⟩:=List.mem_map.1 hv;exact hx u hu);clear h hx;go_enter Tryz.func93,Tryz.ntmps93;go_wp2_with fail;refine(qkP A c l _ H.out hn).mono ?_;rintro e w1 ⟨A1,c1,rfl,h11,h12,ho1,hx1⟩;have HO:=hJ ho1;have X1:=hJ hx1;clear ho1 hx1;go_wp2;go_loopw [9] (fun i wr=>∃(k:Nat) (l':List VwM),k≤l.length∧i=Jq k∧Hid (l'.length=l.length)∧Hid (vws l'=vws l)∧Hid (∀i v,i<k→l'[i]?=some v→qtW w v.A (qaq v.xs))∧Hid (qaC.OB wr w.heap.size (.slice A1 l.length c1) l')∧Ext w wr) (fun i _=>l.length - (intOf i).toNat)
 case atStart=>exact⟨0,l,zO _,rfl,hJ rfl,hJ rfl,hJ (fun i v hi=>absurd hi (Nat.not_lt_zero _)),HO,X1.out⟩
 case round=>
  obtain⟨k,l',hk,rfl,HLL,HVV,HNW,HOO,HS0⟩:=hrel;have HS:=hJ HS0;clear HS0;by_cases hlt:k<l.length
  ·have hlt':k<l'.length:=by rw[HLL.out];exact hlt
   obtain⟨g,rfl,hnn,hg,_⟩:=qqp HOO.out (by omega);clear hnn;have HBX:Hid (qaC.Box wr (some (Pq g 0)) l'):=hJ (by
    obtain⟨A',c',hv,_,_,hb⟩:=HOO.out.slice;simp only[Value.slice.injEq] at hv;rw[hv.1];exact hb)
   obtain⟨b,off,n,X,cx,xs,hA,hb,c0,c1',HR,hl1,hl2,HX⟩:=qdN HBX.out hlt';simp only[zJ,Addr.mk.injEq,and_true] at hA;obtain⟨rfl,rfl⟩:=hA;simp only[Nat.zero_add] at c0 c1';have hxl:xs.length≤1000000:=HXX.out _ (by rw[←HVV.out];exact zX (qgU HX.out));have f0:=qmu HOO.out (k*2);have f1:=qmu HOO.out (k*2+1);go_wp2_with fail;refine(qer n X cx xs _ HR.out hxl).mono ?_;rintro e w2 ⟨A2,c2,rfl,h21,h22,HR2,HN2,hx2⟩;have HO2:=hJ (HOO.out.ext hx2);have X2:=hJ (HS.out.trans hx2);have d0:w2.cell? (Pq g (k*2))=some (Jq n):=by rw[hx2.cell (by exact hb)];exact c0
   have d1:w2.cell? (Pq g (k*2+1))=some (.slice X xs.length cx):=by rw[hx2.cell (by exact hb)];exact c1'
   have g0:w2.frozen? (Pq g (k*2))=false:=by rw[hx2.frozen (by exact hb)];exact f0
   have g1:w2.frozen? (Pq g (k*2+1))=false:=by rw[hx2.frozen (by exact hb)];exact f1
   have HAP:Hid (Apt (.slice (some (Pq g 0)) l'.length c1) (A2,qaq xs)):=hJ (qhj (E:=qaC) (wc:=wr) (B:=w.heap.size) (l:=l') HN2.out (by rw[HLL.out];exact HOO.out.1));have HO3:=hJ (qoE (k:=k) (a:=⟨n,A2,c2,xs⟩) (by rw[HLL.out];exact HO2.out) hlt' ⟨h21,h22⟩ HR2.out HAP.out);have HGB:Hid (w.heap.size≤g):=hJ (HOO.out.1.lt g rfl).1;clear hx2 c0 c1' f0 f1;go_wp2;go_roundw
   case rel=>exact⟨k+1,l'.set k ⟨n,A2,c2,xs⟩,by omega,by go_num,hJ (by rw[List.length_set];exact HLL.out),hJ (by rw[qtG HX.out];exact HVV.out),hJ (qsA HNW.out (fun p hne hp=>zL HS.out.size (HN2.out p hne hp))),hJ (by have:=HO3.out;rw[HLL.out] at this;exact this),(X2.out.set (by exact HGB.out) _).set (by exact HGB.out) _⟩
   case measure=>simp[intOf];omega
  ·go_wp2;go_ret;exact⟨l',HVV,hJ (fun v hv=>by obtain⟨i,hi,he⟩:=List.mem_iff_getElem.1 hv;exact HNW.out i v (by have:=HLL.out;omega) (by rw[←he];exact zY hi)),A1,c1,by rw[HLL.out];rfl,by rw[HLL.out];exact h11,h12,by rw[HLL.out];exact HOO.out,HS.out⟩
def uN(n:Int):Nat:=(n % 18446744073709551616).toNat
def qav(l:List Int):List UInt8:=l.flatMap fun n=>qa4 (uN n)
def qeH(p:List UInt8):List UInt8:=qa4 p.length++p
def qhL(e:Ent):List UInt8:=qav [e.v,e.o,e.q]++qeH e.p
def qbe(l:List Ent):List UInt8:=qav [l.length]++l.flatMap qhL
def qiy(s:Nat):Nat:=(s / 2) ^^^ (3988292384*(s % 2))
def qsZ(s:Nat)(b:UInt8):Nat:=qiy (qiy (qiy (qiy (qiy (qiy (qiy (qiy (s ^^^ b.toNat))))))))
def qgM(bs:List UInt8):Nat:=4294967295 ^^^ bs.foldl qsZ 4294967295
def le4(v:Nat):List UInt8:=[UInt8.ofNat v,UInt8.ofNat (v / 256),UInt8.ofNat (v / 65536),UInt8.ofNat (v / 16777216)]
def qeJ(kind:Nat)(body:List UInt8):List UInt8:=[65,71,UInt8.ofNat kind]++qa4 body.length++body
def qa3(kind:Nat)(body:List UInt8):List UInt8:=if body.length≤16777216 then qeJ kind body++le4 (qgM (qeJ kind body)) else []
structure Cs where
 s:St
 pk:List (Int×List UInt8)
 dl:List Ent
 deriving DecidableEq
def qc7:St:=⟨0,[],0,[],0,0,[],[],[]⟩
def qcg(s:St)(seq:Int):List UInt8:=(s.pend[((s.pend.length:Int) - 1 - (s.sent - seq)).toNat]?).getD []
def qbV(s:St):Nat:=min (s.sent - qar s.log s.self).toNat (2000 - s.log.length)
def qbc(s:St)(j:Nat):List Ent:=s.log++(List.range j).map fun i=>⟨s.base,s.self,qar s.log s.self+1+i,qcg s (qar s.log s.self+1+i)⟩
def qbo(s:St):St:={s with log:=qbc s (qbV s)}
def qaI(s:St)(p:List UInt8):St×Int:=
 if qbF s=false then (qc7,1)
 else if 6000<p.length∨s.pend.length=32∨s.sent=1099511627776 then (qc7,5)
 else
  let o:St:={s with sent:=s.sent+1,pend:=s.pend++[p]}
  (if qan o&&qas o then qbo o else o,0)
def qaT(s:St)(v:Vw):St×Int:=
 if qbF s=false then (qc7,1)
 else if qaw (s.views++[v])=false then (qc7,8)
 else ({s with views:=s.views++[v],marks:=[],fls:=[]},0)
def qbl(v:Vw)(self:Int):St×Int:=
 if qap v.1 v.2&&qbN v.2 self then (⟨self,[v],v.1,[qab v.1 v.2],0,0,[],[],[]⟩,0) else (qc7,1)
def qcm(c:Cs)(tg:Int)(kind:Nat)(body:List UInt8):Cs:={c with pk:=c.pk++[(tg,qa3 kind body)]}
def qcQ(l:List Ent)(i j:Int):List Ent:=(l.take j.toNat).drop i.toNat
def raiseF(c:Cs)(n:Int):Cs:=
 if n≤c.s.stable then c
 else {c with s:={c.s with pend:=c.s.pend.drop (qar (qcQ c.s.log c.s.stable n) c.s.self),stable:=n},dl:=c.dl++qcQ c.s.log c.s.stable n}
def qtV(x:Int):List Int→List Int
 | []=>[x]
 | y::l=>if x≤y then x::y::l else y::qtV x l
def qeD:List Int→List Int
 | []=>[]
 | x::l=>qtV x (qeD l)
def qb8(s:St):List Int:=(s.log.length:Int)::s.marks.map fun m=>m.2
def qam(c:Cs):Cs:=
 if ((qb8 c.s).length:Int)<qfB (qad c.s.views).2.length then c
 else raiseF c (((qeD (qb8 c.s))[(((qb8 c.s).length:Int) - qfB (qad c.s.views).2.length).toNat]?).getD 0)
def qb0(l:List (Int×Int))(m:Int):Option Int:=(l.find? fun x=>x.1 == m).map fun x=>x.2
def qaA(l:List Fls):Int:=l.foldl (fun b f=>max b f.2.1) (-1)
def qhY(s:St):Bool:=s.fls.any fun f=>f.1 == s.self
def qc0(l:List Fls)(v:Vw):Bool:=decide (qfB v.2.length≤(l.countP fun f=>qbN v.2 f.1:Nat))
def qa0(l:List Fls)(base:Int):List Ent:=l.foldl (fun out f=>if f.2.1=base∧out.length<f.2.2.length then f.2.2 else out) []
def qgs(log pre:List Ent):Bool:=decide (pre.length≤log.length)&&decide (log.take pre.length=pre)
def qfd(s:St):Bool:=s.views.any fun v=>decide (qaA s.fls≤v.1)&&(decide (v.1<(qad s.views).1)&&!qc0 s.fls v)
def qgy(s:St)(log:List Ent):Bool:=decide (log.length<2000)&&(qgs log (s.log.take s.stable.toNat)&&decide ((qar log s.self:Int)≤s.sent))
def qaD(s:St):St:=
 if qhY s=false∨qaA s.fls = -1 then s
 else if qfd s then s
 else if qgy s (qa0 s.fls (qaA s.fls))=false then s
 else {s with base:=(qad s.views).1,log:=qa0 s.fls (qaA s.fls)++[qab (qad s.views).1 (qad s.views).2],fls:=[]}
def qf5(l:List Fls)(m:Int):Nat:=(l.takeWhile fun f=>decide (f.1<m)).length
def putF(l:List Fls)(f:Fls):List Fls:=
 if ((l[qf5 l f.1]?).map fun g=>g.1)=some f.1 then l.set (qf5 l f.1) f else l.take (qf5 l f.1)++f::l.drop (qf5 l f.1)
def qaP(c:Cs)(m:Int):Cs:=
 if m=c.s.self then c
 else match qb0 c.s.marks m with
  | none=>qcm c m 15 (qav [c.s.base]++qbe c.s.log)
  | some st=>qcm c m 12 (qav [c.s.base,st,c.s.stable]++qbe (qcQ c.s.log st (min (st+16) c.s.log.length)))
def qfR(c:Cs):Cs:=
 let c1:=qam {c with s:=qbo c.s}
 (qad c1.s.views).2.foldl qaP c1
def qbK(s:St):Nat:=(s.sent - qar s.log s.self).toNat
def qaZ(c:Cs)(j:Nat):Cs:=qcm c (qa1 (qad c.s.views)) 11 (qav [c.s.base,qar c.s.log c.s.self+1+j]++qeH (qcg c.s (qar c.s.log c.s.self+1+j)))
def qcV(c:Cs):Cs:=
 (List.range (qbK c.s)).foldl qaZ (qcm c (qa1 (qad c.s.views)) 13 (qav [c.s.base,c.s.log.length]))
def qdw(c:Cs):Cs:=
 if qan c.s then (if qas c.s then qfR c else qcV c)
 else if qas c.s then {c with s:=qaD (if qhY c.s then c.s else {c.s with fls:=putF c.s.fls (c.s.self,c.s.base,c.s.log)})}
 else qcm c (qa1 (qad c.s.views)) 14 (qav [(qad c.s.views).1]++qa4 (zig c.s.base)++qbe c.s.log)
def qaM(s:St):Cs:=if qbF s=false then ⟨qc7,[],[]⟩ else qdw ⟨s,[],[]⟩
structure Msg where
 kind:Int
 num:Int
 first:Int
 stable:Int
 pay:List UInt8
 ents:List Ent
 deriving DecidableEq
abbrev Rd:=List UInt8×Bool
def qlE(bs:List UInt8)(m:Nat):List UInt8×Nat×Int:=
 if (qdE bs m).2.2≠0 then ([],0,(qdE bs m).2.2)
 else if bs.length - (qdE bs m).2.1<(qdE bs m).1 then ([],0,2)
 else ((bs.drop (qdE bs m).2.1).take (qdE bs m).1,(qdE bs m).2.1+(qdE bs m).1,0)
def qeM(r:Rd)(n:Nat)(e:Int):Rd:=if e≠0 then (r.1,true) else (r.1.drop n,r.2)
def qdS(r:Rd):Int×Rd:=
 if 1099511627776<(qbt r.1).1 then (0,(qeM r (qbt r.1).2.1 (qbt r.1).2.2).1,true) else ((qbt r.1).1,qeM r (qbt r.1).2.1 (qbt r.1).2.2)
def qit(r:Rd):Int×Rd:=
 if (qeO r.1).1 < -1∨1099511627776<(qeO r.1).1 then ((qeO r.1).1,(qeM r (qeO r.1).2.1 (qeO r.1).2.2).1,true) else ((qeO r.1).1,qeM r (qeO r.1).2.1 (qeO r.1).2.2)
def qnO(r:Rd):List UInt8×Rd:=((qlE r.1 6000).1,qeM r (qlE r.1 6000).2.1 (qlE r.1 6000).2.2)
def qqd(r:Rd):Ent×Rd:=
 let a:=qdS r;let b:=qdS a.2;let c:=qdS b.2;let d:=qnO c.2
 (⟨a.1,b.1,c.1,d.1⟩,d.2)
def qcs:Nat→Rd→List Ent→List Ent×Rd
 | 0,r,out=>(out,r)
 | n+1,r,out=>if r.2 then (out,r) else qcs n (qqd r).2 (out++[(qqd r).1])
def qdo(r:Rd):List Ent×Rd:=
 qcs (qdS r).1.toNat (if 2000<(qdS r).1 then ((qdS r).2.1,true) else (qdS r).2) []
def qeN(b:List UInt8):Int×List UInt8×Nat×Int:=
 if b.length<3 then (0,[],0,2)
 else if b[0]?≠some 65∨b[1]?≠some 71∨b[2]?=some 0 then (0,[],0,3)
 else
  let d:=qdE (b.drop 3) 16777216
  if d.2.2≠0 then (0,[],0,d.2.2)
  else if b.length - (3+d.2.1)<d.1+4 then (0,[],0,2)
  else if le4 (qgM (b.take (3+d.2.1+d.1)))≠(b.drop (3+d.2.1+d.1)).take 4 then (0,[],0,4)
  else ((((b[2]?).getD 0).toNat:Int),(b.take (3+d.2.1+d.1)).drop (3+d.2.1),3+d.2.1+d.1+4,0)
def qeP(kind:Int)(r0:Rd):Option (Msg×Rd):=
 let a:=qdS r0
 if kind=11 then let b:=qdS a.2;let p:=qnO b.2;some (⟨kind,a.1,b.1,0,p.1,[]⟩,p.2)
 else if kind=12 then let b:=qdS a.2;let s:=qdS b.2;let l:=qdo s.2;some (⟨kind,a.1,b.1,s.1,[],l.1⟩,l.2)
 else if kind=13 then let b:=qdS a.2;some (⟨kind,a.1,b.1,0,[],[]⟩,b.2)
 else if kind=14 then let b:=qit a.2;let l:=qdo b.2;some (⟨kind,a.1,b.1,0,[],l.1⟩,l.2)
 else if kind=15 then let l:=qdo a.2;some (⟨kind,a.1,0,0,[],l.1⟩,l.2)
 else none
def qa7(frame:List UInt8):Option Msg:=
 let o:=qeN frame
 if o.2.2.2≠0∨o.2.2.1≠frame.length then none
 else match qeP o.1 (o.2.1,false) with
  | none=>none
  | some (m,r)=>if r.2=false∧r.1.length=0 then some m else none
def qa5(c:Cs)(fr:Int)(m:Msg):Cs:=
 if m.first=qar c.s.log fr+1∧c.s.log.length<2000 then {c with s:={c.s with log:=c.s.log++[⟨c.s.base,fr,m.first,m.pay⟩]}} else c
def qcH(c:Cs)(m:Msg):Nat:=min (c.s.log.length - m.first.toNat) m.ents.length
def qaS(c:Cs)(m:Msg):Cs:=
 if (c.s.log.length:Int)<m.first then c
 else if (c.s.log.drop m.first.toNat).take (qcH c m)≠m.ents.take (qcH c m) then c
 else if (m.ents.drop (qcH c m)).any (fun e=>decide (e.v≠c.s.base)||decide (e.o=0)) then c
 else if qax (c.s.log++m.ents.drop (qcH c m))=false∨c.s.sent<qar (c.s.log++m.ents.drop (qcH c m)) c.s.self then c
 else raiseF {c with s:={c.s with log:=c.s.log++m.ents.drop (qcH c m)}} (min m.stable (c.s.log++m.ents.drop (qcH c m)).length)
def qdF(l:List (Int×Int))(m:Int):Nat:=(l.takeWhile fun x=>decide (x.1<m)).length
def qfi(l:List (Int×Int))(fr n:Int):List (Int×Int):=
 match l[qdF l fr]? with
 | some (a,b)=>if a=fr then l.set (qdF l fr) (a,max b n) else l.take (qdF l fr)++(fr,max 0 n)::l.drop (qdF l fr)
 | none=>l++[(fr,max 0 n)]
def qco(c:Cs)(fr n:Int):Cs:=
 if (c.s.log.length:Int)<n then c else qam {c with s:={c.s with marks:=qfi c.s.marks fr n}}
def qbp(c:Cs)(m:Msg):Cs:=
 if 0<m.ents.length∧qaY m.ents m.num=true∧qgs m.ents (c.s.log.take c.s.stable.toNat)=true∧(qar m.ents c.s.self:Int)≤c.s.sent then {c with s:={c.s with base:=m.num,log:=m.ents}} else c
def qao(c:Cs)(fr:Int)(m:Msg):Cs:=
 if m.kind=11∧qan c.s=true∧qas c.s=true∧qbN (qad c.s.views).2 fr=true then qa5 c fr m
 else if m.kind=12∧qan c.s=true∧qas c.s=false∧fr=qa1 (qad c.s.views) then qaS c m
 else if m.kind=13∧qan c.s=true∧qas c.s=true∧qbN (qad c.s.views).2 fr=true then qco c fr m.first
 else if m.kind=14∧qan c.s=false∧qas c.s=true then
  (if qbL c.s.views (fr,m.first,m.ents) then {c with s:=qaD {c.s with fls:=putF c.s.fls (fr,m.first,m.ents)}} else c)
 else if m.kind=15∧qan c.s=false∧qas c.s=false∧fr=qa1 (qad c.s.views)∧qbN (qad c.s.views).2 c.s.self=true then qbp c m
 else c
def qak(s:St)(fr:Int)(frame:List UInt8):Cs×Int:=
 if qbF s=false∨qcl fr=false∨fr=s.self then (⟨qc7,[],[]⟩,1)
 else match qa7 frame with
  | none=>(⟨qc7,[],[]⟩,3)
  | some m=>(if m.num=(qad s.views).1 then qao ⟨s,[],[]⟩ fr m else ⟨s,[],[]⟩,0)
theorem qf4(p:List UInt8):Go.Lib.strCells (qaF p)=qac p:=by
 rw[qed];simp[Go.Lib.strCells,qac]
theorem qjq(B:Nat)(v:Value)(xs p:List UInt8)(w:World)(ho:Own w B 5 v (qac xs))(hB:B≤w.heap.size)(hl:xs.length≤100000000)(hp:p.length≤100000000) :
  Calls Tryz.prog 172 #[v,.string (qaF p)] w fun e w'=>∃v',e=.returned v'∧Own w' B 5 v' (qac (xs++qeH p))∧Grew w w' v:=by
 have HO:=hJ ho;clear ho;have hn:Hid (p.length<U64):=hJ (by unfold U64;omega);have HL:=hJ (qaz hn.out);have hsz:=qbE p;have hw:IntKind.u64.wrap (p.length:Int)=(p.length:Int):=qcU hn.out;go_enter Tryz.func172,Tryz.ntmps172;go_wp2_with fail;refine(qdx B v xs p.length w HO.out hB (by omega) hn).mono ?_;rintro e w1 ⟨v1,rfl,ho1,hg1,hs1⟩;have HO1:=hJ ho1;clear ho1;have hl1:(xs++qa4 p.length).length≤100000100:=by have:=HL.out;simp;omega
 obtain⟨i0,hi,hz0,hz1,hz2⟩:=info_parts qcY;go_wp2_with (first
  | (at_builtin;refine Go.Lib.wpList_append_own_string w1 rfl (.tmp 9) (.tmp 10) 29 9 rfl B 5 i0 Tryz.underlying29 Tryz.underlying9 hi hz0 hz1 hz2 v1 (xs++qa4 p.length).length (qac (xs++qa4 p.length)) (by rfl) (by have:=HO1.out;unfold Own at this;rw[qay] at this;exact this) (qaF p) (by rfl) (by rw[qbE];unfold maxLen;omega) (by rw[qbE];omega) (zL hB hg1.size) ?_;intro v2 w2 ho2 hg2 _))
 go_ret;refine⟨v2,rfl,?_,hg1.trans hs1 hg2⟩;have hb:qac (xs++qeH p)=qac (xs++qa4 p.length)++Go.Lib.strCells (qaF p):=by rw[qf4,←qbW];unfold qeH;rw[List.append_assoc]
 unfold Own;rw[hb,zA,qay,Go.Lib.strCells_length];exact ho2
theorem qeL(A:Option Addr)(c:Nat)(bs p:List UInt8)(w:World)(h:Row w A (qac bs))(hl:bs.length≤100000000)(hp:p.length≤100000000) :
  Calls Tryz.prog 120 #[.slice A bs.length c,.string (qaF p)] w (GivesB w (bs++qeH p)):=by
 have H:=hJ h;clear h;have hsz:=qbE p;have hw:IntKind.i64.wrap ((p.length:Int)+10)=((p.length+10:Nat):Int):=by rw[IntWalk.i64_in _ (by omega)];simp
 go_enter Tryz.func120,Tryz.ntmps120;go_wp2_with fail;refine(qdg A c bs (p.length+10) w H.out (by omega) (by omega)).mono ?_;rintro e w1 ⟨A1,c1,rfl,hc1,hm1,ho1,hx1⟩;go_wp2_with fail;refine(qjq w.heap.size _ bs p w1 ho1 hx1.size hl hp).mono ?_;rintro e w2 ⟨v2,rfl,ho2,hg2⟩;go_wp2;go_ret;exact qdz ho2 (hg2.below hx1 hx1.size (fun k hk=>(ho1.lt k hk).1))
def qpg:Nat→Nat→Nat
 | 0,s=>s
 | k+1,s=>qpg k (qiy s)
theorem qhx(k:Nat):∀s,qpg (k+1) s=qiy (qpg k s):=by
 induction k with
 | zero=>intro s;rfl
 | succ k ih=>intro s;rw[qpg,ih (qiy s),qpg]
theorem qlg(s:Nat)(b:UInt8):qsZ s b=qpg 8 (s ^^^ b.toNat):=rfl
theorem qs1{s:Nat}(h:s<4294967296):qiy s<4294967296:=by
 unfold qiy;refine Nat.xor_lt_two_pow (n:=32) (by omega) ?_;have:s % 2<2:=Nat.mod_lt _ (by decide);omega
theorem qle(k:Nat):∀s,s<4294967296→qpg k s<4294967296:=by
 induction k with
 | zero=>intro s h;exact h
 | succ k ih=>intro s h;exact ih _ (qs1 h)
theorem qfs{s:Nat}(b:UInt8)(h:s<4294967296):s ^^^ b.toNat<4294967296:=Nat.xor_lt_two_pow (n:=32) h (by have:=b.toNat_lt;omega)
theorem qiE(bs:List UInt8):∀s,s<4294967296→bs.foldl qsZ s<4294967296:=by
 induction bs with
 | nil=>intro s h;exact h
 | cons b l ih=>intro s h;exact ih _ (by rw[qlg];exact qle _ _ (qfs b h))
theorem qqz{s:Nat}(h:s<4294967296):bits .xor .u32 ((s:Int) / 2) (3988292384*bits .and .u32 (s:Int) 1 % 4294967296)=((qiy s:Nat):Int):=by
 have h1:bits .and .u32 (s:Int) 1=((s % 2:Nat):Int):=by
  have:=u32_and_nat s 1 h (by decide);rw[Nat.and_one_is_mod] at this;exact this
 rw[h1];have h2:(3988292384*((s % 2:Nat):Int)) % 4294967296=((3988292384*(s % 2):Nat):Int):=by
  have:s % 2<2:=Nat.mod_lt _ (by decide);omega
 rw[h2];have h3:((s:Int) / 2)=((s / 2:Nat):Int):=by omega
 rw[h3,u32_xor_nat _ _ (by omega) (by have:s % 2<2:=Nat.mod_lt _ (by decide);omega)];rfl
theorem qmt{s:Nat}(b:UInt8)(h:s<4294967296):bits .xor .u32 (s:Int) ((b.toNat:Int) % 4294967296)=((s ^^^ b.toNat:Nat):Int):=by
 have hb:=b.toNat_lt;rw[show ((b.toNat:Int) % 4294967296)=(b.toNat:Int) by omega];exact u32_xor_nat _ _ h (by omega)
theorem qg1(A:Option Addr)(c:Nat)(bs:List UInt8)(w:World)(h:Row w A (qac bs))(hl:bs.length≤1000000000) :
  Calls Tryz.prog 175 #[.slice A bs.length c] w fun e w'=>e=.returned (.int .u32 (qgM bs:Int))∧w=w':=by
 have H:=hJ h;clear h;go_enter Tryz.func175,Tryz.ntmps175;go_wp2;go_loopw [3,8] (fun s i wr=>∃(k n:Nat),k≤bs.length∧i=Jq (k:Int)∧s=.int .u32 (n:Int)∧Hid (n=(bs.take k).foldl qsZ 4294967295)∧w=wr) (fun _ i _=>bs.length - (intOf i).toNat)
 case atStart=>exact⟨0,4294967295,zO _,rfl,rfl,hJ rfl,rfl⟩
 case round=>
  obtain⟨k,n,hk,rfl,rfl,HN,rfl⟩:=hrel;have hn:Hid (n<4294967296):=hJ (by rw[HN.out];exact qiE _ _ (by decide));by_cases hlt:k<bs.length
  ·obtain⟨b,off,x,rfl,c0,HX⟩:=H.out.byte hlt;have hcb:=qmt x hn.out;have hfin:∀m j:Nat,m=qpg j (n ^^^ x.toNat)→j≤8→¬j<8→m=(bs.take (k+1)).foldl qsZ 4294967295:=by
    intro m j h1 h2 h3;have h8:j=8:=by omega
    subst h8;rw[h1,←qlg,HN.out,List.take_add_one,HX.out];simp
   go_wp2;go_loopw [3,16] (fun s i wr=>∃(j m:Nat),j≤8∧i=Jq (j:Int)∧s=.int .u32 (m:Int)∧Hid (m=qpg j (n ^^^ x.toNat))∧w=wr) (fun _ i _=>8 - (intOf i).toNat)
   case atStart=>exact⟨0,n ^^^ x.toNat,zO _,rfl,rfl,hJ rfl,by first|trivial|rfl⟩
   case round=>
    obtain⟨j,m,hj,rfl,rfl,HM,rfl⟩:=hrel;have hm:Hid (m<4294967296):=hJ (by rw[HM.out];exact qle _ _ (qfs x hn.out));by_cases hj8:j<8
    ·have hcs:=qqz hm.out;go_wp2;go_roundw
     case rel=>exact⟨j+1,qiy m,by omega,by go_num,rfl,hJ (by rw[qhx,HM.out]),by first|trivial|rfl⟩
     case measure=>simp[intOf];omega
    ·go_wp2;go_roundw
     case rel=>exact⟨k+1,m,by omega,by go_num,rfl,hJ (hfin m j HM.out hj hj8),by first|trivial|rfl⟩
     case measure=>simp[intOf];omega
  ·have hkl:k=bs.length:=by omega
   subst hkl;go_wp2;go_ret;refine⟨?_,rfl⟩;have hx:=u32_xor_nat 4294967295 n (by decide) hn.out;have hc:qgM bs=4294967295 ^^^ n:=by unfold qgM;rw[HN.out,List.take_length]
   rw[hc,←hx];rfl
theorem qsH(v:Nat)(w:World):Row (w.alloc (.cells #[.int .u8 ((v:Int) % 256),.int .u8 ((v:Int) / 256 % 256),.int .u8 ((v:Int) / 65536 % 256),.int .u8 ((v:Int) / 16777216 % 256)] 5)) (some (Pq w.heap.size 0)) (qac (le4 v)):=by
 intro _;refine⟨w.heap.size,0,rfl,by simp,fun j q hj=>?_⟩;simp only[qac,le4,List.map_cons,List.map_nil,UInt8.toNat_ofNat'] at hj;rw[show ((v % 2 ^ 8:Nat):Int)=(v:Int) % 256 by omega,show ((v / 256 % 2 ^ 8:Nat):Int)=(v:Int) / 256 % 256 by omega,show ((v / 65536 % 2 ^ 8:Nat):Int)=(v:Int) / 65536 % 256 by omega,show ((v / 16777216 % 2 ^ 8:Nat):Int)=(v:Int) / 16777216 % 256 by omega] at hj
 match j,hj with
 | 0,hj=>simpa using hj
 | 1,hj=>simpa using hj
 | 2,hj=>simpa using hj
 | 3,hj=>simpa using hj
theorem qlX(B:Nat)(v:Value)(xs:List UInt8)(n:Nat)(w:World)(ho:Own w B 5 v (qac xs))(hB:B≤w.heap.size)(hl:xs.length≤1000000000) :
  Calls Tryz.prog 174 #[v,.int .u32 (n:Int)] w fun e w'=>∃v',e=.returned v'∧Own w' B 5 v' (qac (xs++le4 n))∧Grew w w' v:=by
 have HO:=hJ ho;clear ho;go_enter Tryz.func174,Tryz.ntmps174;go_wp2_with (first
  | (at_builtin;refine qdP rfl (.tmp 5) (.tmp 17) _ 5 _ 1 rfl Tryz.underlying29 qcY rfl (by decide) _ B v (qac xs) (by rfl) _ _ _ (qac (le4 n)) (by rfl) (by rfl) (qsH n w) (qec _) (HO.out.ext (Ext.new _ _)) (by rw[qay];omega) (by simp;omega) ?_;intro v1 w1 ho1 hg1 hs1))
 go_ret;refine⟨v1,rfl,?_,?_⟩
 ·rw[qbW];exact ho1
 ·exact⟨hg1.os,hg1.tape,hg1.output,zL (by simp) hg1.size,fun k hk hne=>(hg1.block k (by simp;omega) hne).trans (Below.heap_alloc _ _ _ hk)⟩
theorem qtk(k:Nat)(hk:k≤255)(w:World):Row (w.alloc (.cells #[.int .u8 65,.int .u8 71,.int .u8 (k:Int)] 5)) (some (Pq w.heap.size 0)) (qac [65,71,UInt8.ofNat k]):=by
 intro _;refine⟨w.heap.size,0,rfl,by simp,fun j q hj=>?_⟩;simp only[qac,List.map_cons,List.map_nil,UInt8.toNat_ofNat'] at hj;rw[show ((k % 2 ^ 8:Nat):Int)=(k:Int) by omega] at hj
 match j,hj with
 | 0,hj=>simpa using hj
 | 1,hj=>simpa using hj
 | 2,hj=>simpa using hj
def qr8(w:World)(bs:List UInt8)(err:Int)(en:Ending)(w':World):Prop:=
 ∃A c,en=.returned (.tuple #[.slice A bs.length c,Jq err])∧bs.length≤c∧c≤maxLen∧Own w' w.heap.size 5 (.slice A bs.length c) (qac bs)∧Ext w w'
theorem qq6(k:Nat)(A:Option Addr)(c:Nat)(body:List UInt8)(w:World)(h:Row w A (qac body))(hl:body.length≤100000000)(hk:1≤k∧k≤255) :
  Calls Tryz.prog 124 #[Jq (k:Int),.slice A body.length c] w fun e w'=>∃err,qr8 w (qa3 k body) err e w':=by
 have H:=hJ h;clear h;by_cases hb:body.length≤16777216
 ·have HF:Hid (qa3 k body=qeJ k body++le4 (qgM (qeJ k body))):=hJ (by unfold qa3;rw[if_pos hb]);have hn:Hid (body.length<U64):=hJ (by unfold U64;omega);have HL:=hJ (qaz hn.out);have hw:IntKind.u64.wrap (body.length:Int)=(body.length:Int):=qcU hn.out;have hw8:IntKind.i64.wrap ((body.length:Int)+8)=((body.length+8:Nat):Int):=by rw[IntWalk.i64_in _ (by omega)];simp
  have E0:Hid (Ext w (w.alloc (.cells #[.int .u8 65,.int .u8 71,.int .u8 (k:Int)] 5))):=hJ (Ext.new _ _);go_enter Tryz.func124,Tryz.ntmps124;go_wp2_with fail;refine(qdg (some (Pw w 0)) 3 [65,71,UInt8.ofNat k] (body.length+8) _ (qtk k hk.2 w) (by simp) (by omega)).mono ?_;rintro e w1 ⟨A1,c1,rfl,hc1,hm1,ho1,hx1⟩;have X1:=hJ (E0.out.trans hx1);have HO1:=hJ (ho1.base (B':=w.heap.size) (by simp));clear ho1 hx1;go_wp2_with fail;refine(qdx w.heap.size _ _ body.length w1 HO1.out X1.out.size (by simp) hn).mono ?_;rintro e w2 ⟨v2,rfl,ho2,hg2,hs2⟩;have X2:=hJ (hg2.below X1.out X1.out.size (fun k hk=>(HO1.out.lt k hk).1));have HO2:=hJ ho2;clear ho2 hg2 hs2;go_wp2_with (first
   | (at_builtin;refine qdP rfl (.tmp 29) (.tmp 30) _ 5 _ 1 rfl Tryz.underlying29 qcY rfl (by decide) _ w.heap.size v2 _ (by rfl) A body.length c (qac body) (by rfl) (by rw[qay]) (H.out.ext X2.out) (qec _) HO2.out (by have:=HL.out;rw[qay];simp;omega) X2.out.size ?_;intro v3 w3 ho3 hg3 hs3))
  have X3:=hJ (hg3.below X2.out X2.out.size (fun k hk=>(HO2.out.lt k hk).1));have HO3:Hid (Own w3 w.heap.size 5 v3 (qac (qeJ k body))):=hJ (by rw[←qbW] at ho3;exact ho3);have hpl:(qeJ k body).length≤100000100:=by have:=HL.out;unfold qeJ;simp;omega
  clear ho3 hg3 hs3;obtain⟨A3,c3,rfl,h31,h32,HR3⟩:∃A c',v3=.slice A (qeJ k body).length c'∧(qeJ k body).length≤c'∧c'≤maxLen∧Hid (Row w3 A (qac (qeJ k body))):=by
   obtain⟨A,c',h1,h2,h3,h4⟩:=HO3.out.slice;rw[qay] at h1 h2;exact⟨A,c',h1,h2,h3,hJ h4⟩
  go_wp2_with fail;refine(qg1 A3 c3 (qeJ k body) w3 HR3.out (by omega)).mono ?_;rintro e w4 ⟨rfl,rfl⟩;go_wp2_with fail;refine(qlX w.heap.size _ (qeJ k body) (qgM (qeJ k body)) w3 HO3.out X3.out.size (by omega)).mono ?_;rintro e w5 ⟨v5,rfl,ho5,hg5⟩;have X5:=hJ (hg5.below X3.out X3.out.size (fun k hk=>(HO3.out.lt k hk).1));go_wp2;go_ret2
  obtain⟨A5,c5,h1,h2,h3,h4⟩:=ho5.slice;rw[qay] at h1 h2;subst h1;rw[HF.out];exact⟨0,A5,c5,rfl,h2,h3,ho5,X5.out⟩
 ·have HF:Hid (qa3 k body=[]):=hJ (by unfold qa3;rw[if_neg hb]);go_enter Tryz.func124,Tryz.ntmps124;go_wp2;go_ret2
  rw[HF.out];exact⟨1,none,0,rfl,zR _,zO _,Own.nil _ _ _,Ext.refl _⟩
def qo7:Elem UInt8 where
 f b:=[.int .u8 (b.toNat:Int)]
 k:=1
 ty:=5
 st:=29
 z:=.int .u8 0
 bytes:=1
 inn _:=[]
 ok _:=True
 len _:=rfl
 one a:=by intro u hu;simp only[zC,zN,or_false] at hu;rcases hu with rfl;rfl
 pos:=by decide
 und:=Tryz.underlying29
 info:=by kernel_rfl
 zk:=rfl
 small:=by decide
theorem qi0(xs:List UInt8):qo7.cells xs=qac xs:=by
 induction xs with
 | nil=>rfl
 | cons x l ih=>rw[qo7.cells_cons,ih];rfl
def qdk(A:Option Addr)(l c k:Nat):Option Addr:=if c=l then A else A.map (·.add (l*k))
theorem qnY(A:Option Addr)(c k:Nat):qdk A 0 c k=A:=by
 unfold qdk;split
 ·rfl
 ·cases A with
  | none=>rfl
  | some a=>simp[Addr.add]
section
variable {α:Type} (E:Elem α)
theorem Elem.size_run(W:World):(sizeOf (Tryz.prog.elem E.st)).run Tryz.prog W=.ok E.k W:=by
 obtain⟨i,hi,_,hz,_⟩:=E.info_parts;have:Tryz.prog.elem E.st=E.ty:=by unfold Program.elem;rw[E.und]
 rw[this];simp[sizeOf,typeInfo,hi,hz]
theorem Elem.und':Tryz.prog.underlying E.st=some (.slice (Tryz.prog.elem E.st)):=by
 have:Tryz.prog.elem E.st=E.ty:=by unfold Program.elem;rw[E.und]
 rw[this];exact E.und
theorem Elem.slice_lh(A:Option Addr)(n c lo hi:Nat)(li hI:Int)(e1:li=lo)(e2:hI=hi)(h1:lo≤hi)(h2:hi≤c)(W:World) :
  (Instr.slice E.st (.slice A n c) (some (Jq li)) (some (Jq hI)) none).run Tryz.prog W=.ok (.slice (qdk A lo c E.k) (hi - lo) (c - lo)) W:=by
 subst e1 e2;rw[run_slice_lh W _ A n c E.und' _ _ _ _ (by omega) (by omega) (by omega),E.size_run];simp[sliced,qdk,Result.andThen]
theorem Elem.slice_l(A:Option Addr)(n c lo:Nat)(li:Int)(e1:li=lo)(h1:lo≤n)(W:World) :
  (Instr.slice E.st (.slice A n c) (some (Jq li)) none none).run Tryz.prog W=.ok (.slice (qdk A lo c E.k) (n - lo) (c - lo)) W:=by
 subst e1;rw[run_slice_l W _ A n c E.und' _ _ (by omega) (by omega),E.size_run];simp[sliced,qdk,Result.andThen]
theorem Elem.slice_h(A:Option Addr)(n c hi:Nat)(hI:Int)(e2:hI=hi)(h2:hi≤c)(W:World) :
  (Instr.slice E.st (.slice A n c) none (some (Jq hI)) none).run Tryz.prog W=.ok (.slice A hi c) W:=by
 subst e2;rw[run_slice_h W _ A n c E.und' _ _ (by omega) (by omega),E.size_run];have:=qnY A c E.k;unfold qdk at this;simp only[sliced,Result.andThen,this,Int.toNat_natCast,Nat.sub_zero]
theorem Elem.slice_lhm(A:Option Addr)(n c lo hi mx:Nat)(li hI mI:Int)(e1:li=lo)(e2:hI=hi)(e3:mI=mx)(h1:lo≤hi)(h2:hi≤mx)(h3:mx≤c)(W:World) :
  (Instr.slice E.st (.slice A n c) (some (Jq li)) (some (Jq hI)) (some (Jq mI))).run Tryz.prog W=.ok (.slice (qdk A lo mx E.k) (hi - lo) (mx - lo)) W:=by
 subst e1 e2 e3;rw[run_slice_lhm W _ A n c E.und' _ _ _ _ _ _ (by omega) (by omega) (by omega) (by omega),E.size_run];simp[sliced,qdk,Result.andThen]
theorem Elem.cells_drop(l:List α)(n:Nat):E.cells (l.drop n)=(E.cells l).drop (n*E.k):=by
 induction l generalizing n with
 | nil=>simp[Elem.cells]
 | cons a l ih=>
  match n with
  | 0=>simp
  | n+1=>
   rw[List.drop_succ_cons,ih,E.cells_cons,Nat.succ_mul,Nat.add_comm (n*E.k) E.k,←List.drop_drop,List.drop_left' (E.len a)]
theorem Elem.cells_take(l:List α)(n:Nat):E.cells (l.take n)=(E.cells l).take (n*E.k):=by
 induction l generalizing n with
 | nil=>simp[Elem.cells]
 | cons a l ih=>
  match n with
  | 0=>simp[Elem.cells]
  | n+1=>
   rw[List.take_succ_cons,E.cells_cons,E.cells_cons,ih,Nat.succ_mul,Nat.add_comm (n*E.k) E.k,List.take_append,E.len];congr 1
   ·rw[List.take_of_length_le (by rw[E.len];omega)]
   ·congr 1;omega
end
theorem Row.take{w:World}{A:Option Addr}{xs:List Value}(h:Row w A xs)(n:Nat):Row w A (xs.take n):=by
 intro hne;have hx:xs≠[]:=by intro e;subst e;simp at hne
 obtain⟨b,off,h1,h2,h3⟩:=h hx;refine⟨b,off,h1,h2,fun j v hj=>h3 j v ?_⟩;rw[List.getElem?_take] at hj;split at hj
 ·exact hj
 ·cases hj
theorem Row.sub{w:World}{A:Option Addr}{xs:List Value}{l k c:Nat}(h:Row w A xs)(hc:xs.length≤c*k):Row w (qdk A l c k) (xs.drop (l*k)):=by
 intro hne;have hk:l*k<xs.length:=by
  rcases Nat.lt_or_ge (l*k) xs.length with h1|h1
  ·exact h1
  ·exact absurd (List.drop_eq_nil_of_le h1) hne
 obtain⟨b,off,rfl,hb,h3⟩:=h.addr hk;unfold qdk;rw[if_neg (by intro e;subst e;omega)];refine⟨b,off+l*k,?_,hb,fun j v hj=>?_⟩
 ·simp only[Option.map_some,zJ];unfold Addr.add;split<;>simp_all
 ·have:=h3 (l*k+j) v (by rw[←hj,List.getElem?_drop]);rw[Nat.add_assoc];exact this
theorem Elem.row_sub{α:Type}{E:Elem α}{w:World}{A:Option Addr}{l:List α}{c:Nat}(h:Row w A (E.cells l))(hc:l.length≤c)(lo hi:Nat):Row w (qdk A lo c E.k) (E.cells ((l.take hi).drop lo)):=by
 rw[E.cells_drop];refine Row.sub (c:=c) ?_ ?_
 ·rw[E.cells_take];exact h.take _
 ·rw[E.cells_len];exact Nat.mul_le_mul_right _ (by rw[zT];omega)
theorem Elem.row_from{α:Type}{E:Elem α}{w:World}{A:Option Addr}{l:List α}{c:Nat}(h:Row w A (E.cells l))(hc:l.length≤c)(lo:Nat):Row w (qdk A lo c E.k) (E.cells (l.drop lo)):=by
 have:=Elem.row_sub h hc lo l.length;rwa [List.take_length] at this
theorem Elem.row_upto{α:Type}{E:Elem α}{w:World}{A:Option Addr}{l:List α}(h:Row w A (E.cells l))(hi:Nat):Row w A (E.cells (l.take hi)):=by
 rw[E.cells_take];exact h.take _
theorem qd9{w:World}{A:Option Addr}{bs:List UInt8}(h:Row w A (qac bs)):Row w A (qo7.cells bs):=by rw[qi0];exact h
theorem qde{w:World}{A:Option Addr}{bs:List UInt8}(h:Row w A (qo7.cells bs)):Row w A (qac bs):=by rw[←qi0];exact h
end Go.Proofs.YtponbabbabnaeaaGreat
