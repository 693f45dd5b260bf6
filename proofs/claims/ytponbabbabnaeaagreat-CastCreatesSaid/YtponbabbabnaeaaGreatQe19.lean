/- Part 19 of the proof: contracts of functions that the statement reaches. Conditions: as each theorem says. -/
import Derived.Test.YtponbabbabnaeaaGreatQe01
import Derived.Test.YtponbabbabnaeaaGreatQe16
import Derived.Test.YtponbabbabnaeaaGreatQe17
import Derived.Test.YtponbabbabnaeaaGreatQe18
import Derived.Test.YtponbabbabnaeaaGreatQe15
import Derived.Test.YtponbabbabnaeaaGreatQe13
set_option maxRecDepth 100000
namespace Go.Proofs.YtponbabbabnaeaaGreat
open Go.RowKit
set_option maxHeartbeats 1000000 in
theorem qit(m:CM)(B:Nat)(col:Nat→Nat)(p:Nat)(fr kind num first mst:Int)(pay:List UInt8)(ents:List Ent)(Ae:Option Addr)(ce:Nat)(w:World)(h:CS w B col p m)(hll:m.b.log.length≤2000)(hpp:pay.length≤1000000) :
  Calls Tryz.prog 142 #[.pointer (some (Pq p 0)),Jq fr,qoK ⟨kind,num,first,mst,pay,ents⟩ Ae ce] w (qhw B col p w (qa4 m.cs fr ⟨kind,num,first,mst,pay,ents⟩)):=by
 obtain⟨⟨self,base,stable,sent,Av,cv,vs,Al,cl,log,Ap,cp,pend,Am,cm,marks,Af,cf,fls⟩,Ak,ck,pk,Ad,cd,dl⟩:=m
 have hpl:=h.lt
 have H:=hJ h
 have hfl:=h.fits.log
 simp only at hll hfl
 have E0:Hid (Ext w (w.alloc (.cells #[Jq kind,Jq num,Jq first,Jq mst,.string (qax pay),.slice Ae ents.length ce] 110))):=hJ (Ext.new _ _)
 have C0:Hid (CS (w.alloc (.cells #[Jq kind,Jq num,Jq first,Jq mst,.string (qax pay),.slice Ae ents.length ce] 110)) B col p ⟨⟨self,base,stable,sent,Av,cv,vs,Al,cl,log,Ap,cp,pend,Am,cm,marks,Af,cf,fls⟩,Ak,ck,pk,Ad,cd,dl⟩):=hJ (h.ext E0.out)
 have M0:Hid (BIs (w.alloc (.cells #[Jq kind,Jq num,Jq first,Jq mst,.string (qax pay),.slice Ae ents.length ce] 110)) w.heap.size #[Jq kind,Jq num,Jq first,Jq mst,.string (qax pay),.slice Ae ents.length ce] 110):=hJ (BIs.new _ _ _)
 clear h;obtain⟨on,hon⟩:∃k,k=qay log fr:=⟨_,rfl⟩
 have HON:=hJ hon
 have honl:on≤log.length:=by rw[hon];unfold qay;exact List.countP_le_length
 clear hon;have hwa:IntKind.i64.wrap ((on:Int)+1)=(on:Int)+1:=IntWalk.i64_in _ (by omega)
 go_enter Tryz.func142,Tryz.ntmps142
 go_upto_region 1 with fail
 generalize (w.alloc (.cells #[Jq kind,Jq num,Jq first,Jq mst,.string (qax pay),.slice Ae ents.length ce] 110))=u0 at *
 by_cases hc:first=(on:Int)+1∧log.length<2000
 rotate_left
 ·have HR:Hid (qa4 (⟨⟨self,base,stable,sent,Av,cv,vs,Al,cl,log,Ap,cp,pend,Am,cm,marks,Af,cf,fls⟩,Ak,ck,pk,Ad,cd,dl⟩:CM).cs fr ⟨kind,num,first,mst,pay,ents⟩=(⟨⟨self,base,stable,sent,Av,cv,vs,Al,cl,log,Ap,cp,pend,Am,cm,marks,Af,cf,fls⟩,Ak,ck,pk,Ad,cd,dl⟩:CM).cs):=hJ (by unfold qa4;refine if_neg ?_;intro h;exact hc ⟨by rw[HON.out];exact h.1,h.2⟩)
  by_cases h1:first=(on:Int)+1
  ·have h2:decide ((log.length:Int)<2000)=false:=by simp only[decide_eq_false_iff_not];have:¬log.length<2000:=fun e=>hc ⟨h1,e⟩;omega
   have h1':(first == (on:Int)+1)=true:=by simpa using h1
   clear hc h1;refine qac 20 (fun w'=>Cq w' p 3 (.slice Al log.length cl)∧Cq w' w.heap.size 2 (Jq first)) (by kernel_rfl) ⟨C0.out.cell 3,M0.out.cell 2⟩ (fun hHeld=>?_)
   have XD:Hid (Ext u0 u0.drew):=hJ Ext.drew1
   replace C0:=hJ (C0.out.ext XD.out);replace M0:=hJ (M0.out.ext XD.out);replace E0:=hJ (E0.out.trans XD.out);clear XD
   generalize u0.drew=u1 at *
   refine E_t 0 6 ?_;refine E_t 1 7 ?_;refine E_t 2 8 ?_;refine E_t 3 9 ?_;refine E_t 4 10 ?_;refine E_t 5 11 ?_;refine E_t 6 12 ?_;refine E_t 7 13 ?_;refine E_r 8 (some 14) fun K hK=>?_
   go_simp;go_at_call 91;refine(qck Al cl log fr _ C0.out.lies.log.row (by omega)).mono ?_
   rintro en w2 ⟨rfl,hx2⟩
   rw[←HON.out]
   replace C0:=hJ (C0.out.ext hx2);replace M0:=hJ (M0.out.ext hx2);replace E0:=hJ (E0.out.trans hx2);clear hx2
   clear hHeld;refine hK.out _ _ ⟨C0.out.cell 3,M0.out.cell 2⟩ (fun hHeld=>?_)
   clear hK K;try simp only[Act.put,aP1,aP2,aP3]
   refine E_t 9 15 ?_;refine E_t 10 16 ?_;refine E_t 11 17 ?_;refine E_t 12 18 ?_;refine E_t 13 19 ?_;refine E_t 14 20 ?_;refine E_t 15 21 ?_;refine E_t 16 22 ?_;refine E_t 17 23 ?_;refine E_t 18 24 ?_;refine E_t 19 25 ?_;refine qaE (by kernel_rfl) (by rfl) ?_
   go_wp2;go_end0;rw[HR.out]
   exact⟨_,col,rfl,C0.out,rfl,Stp.ext' H.out.Bsz E0.out⟩
  ·have h1':(first == (on:Int)+1)=false:=by simpa using h1
   clear hc h1;refine qac 20 (fun w'=>Cq w' p 3 (.slice Al log.length cl)∧Cq w' w.heap.size 2 (Jq first)) (by kernel_rfl) ⟨C0.out.cell 3,M0.out.cell 2⟩ (fun hHeld=>?_)
   have XD:Hid (Ext u0 u0.drew):=hJ Ext.drew1
   replace C0:=hJ (C0.out.ext XD.out);replace M0:=hJ (M0.out.ext XD.out);replace E0:=hJ (E0.out.trans XD.out);clear XD
   generalize u0.drew=u1 at *
   refine E_t 0 6 ?_;refine E_t 1 7 ?_;refine E_t 2 8 ?_;refine E_t 3 9 ?_;refine E_t 4 10 ?_;refine E_t 5 11 ?_;refine E_t 6 12 ?_;refine E_t 7 13 ?_;refine E_r 8 (some 14) fun K hK=>?_
   go_simp;go_at_call 91;refine(qck Al cl log fr _ C0.out.lies.log.row (by omega)).mono ?_
   rintro en w2 ⟨rfl,hx2⟩
   rw[←HON.out]
   replace C0:=hJ (C0.out.ext hx2);replace M0:=hJ (M0.out.ext hx2);replace E0:=hJ (E0.out.trans hx2);clear hx2
   clear hHeld;refine hK.out _ _ ⟨C0.out.cell 3,M0.out.cell 2⟩ (fun hHeld=>?_)
   clear hK K;try simp only[Act.put,aP1,aP2,aP3]
   refine E_t 9 15 ?_;refine E_t 10 16 ?_;refine E_t 11 17 ?_;refine E_s 12 18 ?_;refine E_s 13 19 ?_;refine E_s 14 20 ?_;refine E_s 15 21 ?_;refine E_s 16 22 ?_;refine E_s 17 23 ?_;refine E_s 18 24 ?_;refine E_t 19 25 ?_;refine qaE (by kernel_rfl) (by rfl) ?_
   go_wp2;go_end0;rw[HR.out]
   exact⟨_,col,rfl,C0.out,rfl,Stp.ext' H.out.Bsz E0.out⟩
 obtain⟨h1,h2⟩:=hc
 have HR:Hid (qa4 (⟨⟨self,base,stable,sent,Av,cv,vs,Al,cl,log,Ap,cp,pend,Am,cm,marks,Af,cf,fls⟩,Ak,ck,pk,Ad,cd,dl⟩:CM).cs fr ⟨kind,num,first,mst,pay,ents⟩={(⟨⟨self,base,stable,sent,Av,cv,vs,Al,cl,log,Ap,cp,pend,Am,cm,marks,Af,cf,fls⟩,Ak,ck,pk,Ad,cd,dl⟩:CM).cs with s:={(⟨⟨self,base,stable,sent,Av,cv,vs,Al,cl,log,Ap,cp,pend,Am,cm,marks,Af,cf,fls⟩,Ak,ck,pk,Ad,cd,dl⟩:CM).cs.s with log:=log++[⟨base,fr,first,pay⟩]}}):=hJ (by unfold qa4;refine if_pos ⟨by rw[h1,HON.out];rfl,h2⟩)
 have h1':(first == (on:Int)+1)=true:=by simpa using h1
 have h2':decide ((log.length:Int)<2000)=true:=by simp;omega
 have HF1:=hJ h1
 clear h1;refine qac 20 (fun w'=>Cq w' p 3 (.slice Al log.length cl)∧Cq w' w.heap.size 2 (Jq first)) (by kernel_rfl) ⟨C0.out.cell 3,M0.out.cell 2⟩ (fun hHeld=>?_)
 have XD:Hid (Ext u0 u0.drew):=hJ Ext.drew1
 replace C0:=hJ (C0.out.ext XD.out);replace M0:=hJ (M0.out.ext XD.out);replace E0:=hJ (E0.out.trans XD.out);clear XD
 generalize u0.drew=u1 at *
 refine E_t 0 6 ?_;refine E_t 1 7 ?_;refine E_t 2 8 ?_;refine E_t 3 9 ?_;refine E_t 4 10 ?_;refine E_t 5 11 ?_;refine E_t 6 12 ?_;refine E_t 7 13 ?_;refine E_r 8 (some 14) fun K hK=>?_
 go_simp;go_at_call 91;refine(qck Al cl log fr _ C0.out.lies.log.row (by omega)).mono ?_
 rintro en w2 ⟨rfl,hx2⟩
 rw[←HON.out]
 replace C0:=hJ (C0.out.ext hx2);replace M0:=hJ (M0.out.ext hx2);replace E0:=hJ (E0.out.trans hx2);clear hx2
 clear hHeld;refine hK.out _ _ ⟨C0.out.cell 3,M0.out.cell 2⟩ (fun hHeld=>?_)
 clear hK K;try simp only[Act.put,aP1,aP2,aP3]
 refine E_t 9 15 ?_;refine E_t 10 16 ?_;refine E_t 11 17 ?_;refine E_t 12 18 ?_;refine E_t 13 19 ?_;refine E_t 14 20 ?_;refine E_t 15 21 ?_;refine E_t 16 22 ?_;refine E_t 17 23 ?_;refine E_t 18 24 ?_;refine E_t 19 25 ?_;refine qaE (by kernel_rfl) (by rfl) ?_
 go_upto_region 2 with fail
 have hp1:p<_:=C0.out.lt
 have HLW:Hid (∀k,(Value.slice Al log.length cl).ownBlock=some k→k<w.heap.size):=hJ (fun k hk=>(H.out.lies.log.lt k hk).2)
 refine qac 19 (fun w'=>Cq w' p 2 (Jq base)∧Cq w' p 3 (.slice Al log.length cl)∧Cq w' w.heap.size 2 (Jq first)∧Cq w' w.heap.size 4 (.string (qax pay))) (by kernel_rfl) ⟨(C0.out.ext Ext.drew1).cell 2,(C0.out.ext Ext.drew1).cell 3,(M0.out.ext Ext.drew1).cell 2,(M0.out.ext Ext.drew1).cell 4⟩ (fun hHeld=>?_)
 refine E_t 0 26 ?_;refine E_t 1 27 ?_;refine E_t 2 28 ?_;refine E_t 3 29 ?_;refine E_t 4 30 ?_;refine E_t 5 31 ?_;refine E_t 6 32 ?_;refine E_t 7 33 ?_;refine E_t 8 34 ?_;refine E_t 9 35 ?_;refine E_t 10 36 ?_;refine E_t 11 37 ?_;refine E_t 12 38 ?_;refine E_t 13 39 ?_;refine E_t 14 40 ?_;refine E_t 15 41 ?_;refine E_t 16 42 ?_;refine E_r 17 (some 43) fun K hK=>?_
 go_simp;have EA:Hid (Ext w2 (w2.alloc (.cells #[Jq base,Jq fr,Jq first,.string (qax pay)] 66)).drew):=hJ ((Ext.new _ _).trans Ext.drew1)
 have HRE:Hid (Row (w2.alloc (.cells #[Jq base,Jq fr,Jq first,.string (qax pay)] 66)).drew (some (Pq w2.heap.size 0)) (qaz.cells [⟨base,fr,first,pay⟩])):=hJ ((qdl ⟨base,fr,first,pay⟩ w2).ext Ext.drew1)
 have C1:=hJ (C0.out.ext EA.out);have M1:=hJ (M0.out.ext EA.out);have E1:=hJ (E0.out.trans EA.out)
 generalize (w2.alloc (.cells #[Jq base,Jq fr,Jq first,.string (qax pay)] 66)).drew=u3 at *
 generalize w2.heap.size=r_e at *
 clear hHeld;refine hK.out _ _ ⟨C1.out.cell 2,C1.out.cell 3,M1.out.cell 2,M1.out.cell 4⟩ (fun hHeld=>?_)
 clear hK K;try simp only[Act.put,aP1,aP2,aP3]
 refine E_r 18 (some 44) fun K hK=>?_
 refine qby qaz rfl (.tmp 31) (.tmp 43) rfl u3 B _ log (by rfl) _ 1 1 [⟨base,fr,first,pay⟩] (by rfl) rfl HRE.out (by decide) ⟨C1.out.lies.log,fun _ _=>⟨trivial,fun r hr=>by simp[qaz] at hr⟩⟩ qfr (by omega) C1.out.Bsz ?_
 intro v3 w3 ho3 hg3 hs3
 obtain⟨NL,hNL⟩:∃l,l=log++[⟨base,fr,first,pay⟩]:=⟨_,rfl⟩
 have HNL:=hJ hNL
 rw[←hNL] at ho3
 clear hNL;obtain⟨A3,c3,rfl,h31,h32,_⟩:=ho3.slice
 have HO3:=hJ ho3.1
 have S3:Hid (Stp B [2] col u3 (qai col u3.heap.size 2) w3):=hJ ((Stp.grew hg3 C1.out.Bsz (fun q hq=>(C1.out.lies.log.lt q hq).1) C1.out.lies.lc (by simp)).recol (fun k hk=>qah hk))
 have HCV:Hid (ColV (qai col u3.heap.size 2) 2 (.slice A3 NL.length c3)):=hJ (qcj hs3 C1.out.lies.lc (Nat.le_refl _) (fun q hq=>(C1.out.lies.log.lt q hq).2))
 have BX3:Hid (BIs w3 p (⟨⟨self,base,stable,sent,Av,cv,vs,Al,cl,log,Ap,cp,pend,Am,cm,marks,Af,cf,fls⟩,Ak,ck,pk,Ad,cd,dl⟩:CM).cells 86):=hJ (S3.out.bis C1.out.box (by rw[C1.out.pc];simp))
 have M3:Hid (BIs w3 w.heap.size #[Jq kind,Jq num,Jq first,Jq mst,.string (qax pay),.slice Ae ents.length ce] 110):=hJ (M1.out.same (hg3.block _ M1.out.lt (fun e=>by have h1:=(C1.out.lies.log.lt _ e.symm);have h2:=HLW.out _ e.symm;omega)))
 clear ho3 hg3 hs3;clear hHeld;refine hK.out _ _ ⟨BX3.out.cell 2,BX3.out.cell 3,M3.out.cell 2,M3.out.cell 4⟩ (fun hHeld=>?_)
 clear hK K;try simp only[Act.put,aP1,aP2,aP3]
 refine qbc (by rfl) (by kernel_rfl) ?_
 have u3':w3.cell? (Pq p 3)=some (.slice Al log.length cl):=BX3.out.cell 3
 have f3:=BX3.out.free 3
 go_wp2;go_end0;have hpc3:(qai col u3.heap.size 2) p=1:=(S3.out.hue p C1.out.lt).trans C1.out.pc
 have S4:Stp B [1,2] (qai col u3.heap.size 2) w3 (qai col u3.heap.size 2) (w3.setCell (Pq p 3) (.slice A3 NL.length c3)):=Stp.wrote (Wrote.set _ _ _ _) H.out.bp (Nat.le_trans C1.out.Bsz S3.out.size) (by rw[hpc3];simp)
 have S34:=(S3.out.mono (cs':=[1,2]) (by simp)).trans S4
 refine⟨⟨⟨self,base,stable,sent,Av,cv,vs,A3,c3,NL,Ap,cp,pend,Am,cm,marks,Af,cf,fls⟩,Ak,ck,pk,Ad,cd,dl⟩,qai col u3.heap.size 2,rfl,?_,?_,?_⟩
 ·have h:=C1.out
  have hf:=h.fits
  refine⟨BX3.out.set 3 _,hpc3,h.bp,h.lies.relog S34 (by simp) (by simp) (by simp) (by simp) (HO3.out.keep fun q hq hlt=>(Wrote.set p 3 w3 _).blk hlt (fun e=>by subst e;have:=HCV.out q hq;rw[hpc3] at this;cases this)) HCV.out,S34.own h.pk h.kc (by simp),S34.colV h.pk h.kc,h.kiK S34 (by simp),S34.own h.dl h.dc (by simp),S34.colV h.dl h.dc,?_,h.cp⟩
  refine⟨hf.vs,hf.vx,?_,?_,hf.pend,hf.pp,hf.marks,hf.fls,hf.fl,h31,h32⟩
  ·show NL.length≤100000
   rw[HNL.out,List.length_append];simp;omega
  ·intro e he
   have he':e∈NL:=he
   rw[HNL.out] at he'
   rcases List.mem_append.1 he' with he'|he'
   ·exact hf.lp e he'
   ·simp only[List.mem_cons,List.not_mem_nil,or_false] at he'
    subst he';exact hpp
 ·rw[HR.out,←HNL.out];rfl
 ·exact((Stp.ext (cs:=[1,2]) H.out.Bsz E1.out (fun _ _=>rfl)).trans S34).mono (cs':=[1,2,3,4,5,7]) (by simp)
theorem qdb{w:World}{B:Nat}{col:Nat→Nat}{p:Nat}{m:CM}(h:CS w B col p m):w.cell? (Pq p 0)=some (Jq m.b.self)∧w.cell? (Pq p 1)=some (.slice m.b.Av m.b.vs.length m.b.cv)∧w.cell? (Pq p 2)=some (Jq m.b.base)∧w.cell? (Pq p 3)=some (.slice m.b.Al m.b.log.length m.b.cl)∧w.cell? (Pq p 4)=some (Jq m.b.stable)∧w.cell? (Pq p 5)=some (Jq m.b.sent)∧w.cell? (Pq p 6)=some (.slice m.b.Ap m.b.pend.length m.b.cp)∧w.cell? (Pq p 7)=some (.slice m.b.Am m.b.marks.length m.b.cm)∧w.cell? (Pq p 8)=some (.slice m.b.Af m.b.fls.length m.b.cf):=
 ⟨h.cell 0,h.cell 1,h.cell 2,h.cell 3,h.cell 4,h.cell 5,h.cell 6,h.cell 7,h.cell 8⟩
theorem qhk{w:World}{p:Nat}{a b:Value}{t:TypeId}(h:BIs w p #[a,b] t):w.cell? (Pq p 0)=some a∧w.cell? (Pq p 1)=some b:=⟨h.cell 0,h.cell 1⟩
theorem qdK(m:CM)(fr kind num first mst:Int)(pay:List UInt8)(ents:List Ent){nv:Int}{xs:List Int}(h:qaf (vws m.b.vs)=(nv,xs)) :
  qaP m.cs fr ⟨kind,num,first,mst,pay,ents⟩=if (kind == 11&&(qaL m.b.st&&(qaN m.b.st&&qbr xs fr)))=true then qa4 m.cs fr ⟨kind,num,first,mst,pay,ents⟩ else if (kind == 12&&(qaL m.b.st&&(!qaN m.b.st&&fr == qbl (nv,xs))))=true then qaM m.cs ⟨kind,num,first,mst,pay,ents⟩ else if (kind == 13&&(qaL m.b.st&&(qaN m.b.st&&qbr xs fr)))=true then qcC m.cs fr first else if (kind == 14&&(!qaL m.b.st&&qaN m.b.st))=true then (if qbL m.b.st.views (fr,first,ents)=true then {m.cs with s:=qaZ {m.cs.s with fls:=putF m.cs.s.fls (fr,first,ents)}} else m.cs) else if (kind == 15&&(!qaL m.b.st&&(!qaN m.b.st&&(fr == qbl (nv,xs)&&qbr xs m.b.self))))=true then qbt m.cs ⟨kind,num,first,mst,pay,ents⟩ else m.cs:=by
 have e:qaf m.cs.s.views=(nv,xs):=h
 have e1:qaL m.cs.s=qaL m.b.st:=rfl
 have e2:qaN m.cs.s=qaN m.b.st:=rfl
 have e3:m.cs.s.self=m.b.self:=rfl
 unfold qaP
 rw[e,e1,e2,e3]
 simp only[Bool.and_eq_true,beq_iff_eq,Bool.not_eq_true']
 rfl
theorem qsQ(Av:Option Addr)(cv:Nat)(vs:List VwM)(fm fb:Int)(A:Option Addr)(c:Nat)(l:List Ent)(w:World)(h:qas.Box w Av vs)(hf:Row w A (qaz.cells l))(hl:l.length≤1000000000)(hn:vs.length≤100000)(hx:∀v∈vs,v.xs.length≤1000000)(hlp:∀e∈l,e.p.length≤6000)(pb:Bool)(hp:qbL (vws vs) (fm,fb,l)=pb) :
  Calls Tryz.prog 145 #[.slice Av vs.length cv,.agg #[Jq fm,Jq fb,.slice A l.length c]] w fun e w'=>e=.returned (.bool pb)∧Ext w w':=by
 subst hp
 exact qgb Av cv vs ⟨fm,fb,A,c,l⟩ w h hf (by omega) hx hl (fun e he=>Nat.le_trans (hlp e he) (by omega))
theorem qk1{m m6:CM}{f:Fls}(ok:OkS m.b.st)(h:m6.cs={m.cs with s:={m.cs.s with fls:=putF m.cs.s.fls f}})(hn:m.b.fls.length≤49999)(hx:∀v∈m.b.vs,v.xs.length≤1000) :
  0<m6.b.vs.length∧(0≤m6.b.stable∧m6.b.stable≤m6.b.log.length)∧m6.b.fls.length≤50000∧∀v∈m6.b.vs,v.xs.length≤1000:=by
 have hs:m6.b.st={m.b.st with fls:=putF (m.b.fls.map FlM.v) f}:=congrArg Cs.s h
 have h1:vws m6.b.vs=vws m.b.vs:=congrArg St.views hs
 have h2:m6.b.stable=m.b.stable:=congrArg St.stable hs
 have h3:m6.b.log=m.b.log:=congrArg St.log hs
 have h4:m6.b.fls.map FlM.v=putF (m.b.fls.map FlM.v) f:=congrArg St.fls hs
 refine⟨?_,?_,?_,fun v hv=>?_⟩
 ·have:=congrArg List.length h1
  have hv:=ok.vs
  simp only[qaI,BM.st] at this hv;omega
 ·rw[h2,h3];exact⟨ok.st0,ok.st1⟩
 ·have:=congrArg List.length h4
  rw[List.length_map] at this
  have h5:(putF (m.b.fls.map FlM.v) f).length≤m.b.fls.length+1:=by
   unfold putF
   split
   ·rw[List.length_set,List.length_map];omega
   ·simp only[List.length_append,List.length_take,List.length_cons,List.length_drop,List.length_map];omega
  omega
 ·have:v.v∈vws m.b.vs:=by rw[←h1];exact List.mem_map_of_mem hv
  obtain⟨u,hu,hv2⟩:=List.mem_map.1 this
  have:=hx u hu
  simp only[VwM.v,Prod.mk.injEq] at hv2
  rw[←hv2.2];exact this
theorem qmU(fm fb:Int)(A:Option Addr)(c n:Nat)(pv p:Nat)(self:Int)(w:World)(hv:w.cell? (Pq pv 0)=some (.pointer (some (Pq p 0))))(hs:w.cell? (Pq p 0)=some (Jq self))(hpv:pv<w.heap.size)(hp:p<w.heap.size) :
  Calls Tryz.prog 54 #[.agg #[Jq fm,Jq fb,.slice A n c],.pointer (some (Pq pv 0))] w fun e w'=>e=.returned (.bool (fm == self))∧Ext w w':=by
 have E0:Hid (Ext w (w.alloc (.cells #[Jq fm,Jq fb,.slice A n c] 80))):=hJ (Ext.new _ _)
 have hv':(w.alloc (.cells #[Jq fm,Jq fb,.slice A n c] 80)).drew.cell? (Pq pv 0)=some (.pointer (some (Pq p 0))):=by rw[E0.out.drew.cell (by exact hpv)];exact hv
 have hs':(w.alloc (.cells #[Jq fm,Jq fb,.slice A n c] 80)).drew.cell? (Pq p 0)=some (Jq self):=by rw[E0.out.drew.cell (by exact hp)];exact hs
 have B0:Hid (BIs (w.alloc (.cells #[Jq fm,Jq fb,.slice A n c] 80)).drew w.heap.size #[Jq fm,Jq fb,.slice A n c] 80):=hJ ((BIs.new _ _ _).ext Ext.drew1)
 go_enter Tryz.func54,Tryz.ntmps54
 go_upto_region 1 with fail
 refine qac 9 (fun w'=>w'.cell? (Pw w 0)=some (Jq fm)∧Cq w' pv 0 (.pointer (some (Pq p 0)))∧Cq w' p 0 (Jq self)) (by kernel_rfl) ⟨B0.out.cell 0,hv',hs'⟩ (fun hHeld=>?_)
 refine E_t 0 4 ?_;refine E_t 1 5 ?_;refine E_t 2 6 ?_;refine E_t 3 7 ?_;refine E_t 4 8 ?_;refine E_t 5 9 ?_;refine E_t 6 10 ?_;refine E_t 7 11 ?_;refine E_t 8 3 ?_;refine qaE (by kernel_rfl) (by rfl) ?_
 go_wp2;go_ret
 exact⟨rfl,E0.out.drew⟩
set_option maxHeartbeats 1000000 in
theorem qjX(Af:Option Addr)(cf:Nat)(fls:List FlM)(pv p:Nat)(self:Int)(w:World)(h:flE.Box w Af fls)(hn:fls.length≤1000000)(hv:w.cell? (Pq pv 0)=some (.pointer (some (Pq p 0))))(hs:w.cell? (Pq p 0)=some (Jq self))(hpv:pv<w.heap.size)(hp:p<w.heap.size) :
  Calls Tryz.prog 126 #[.slice Af fls.length cf,.func (.func 54) #[] #[.pointer (some (Pq pv 0))]] w fun e w'=>∃r:Int,e=.returned (Jq r)∧Hid (decide (0≤r)=fls.any fun f=>f.m == self)∧Ext w w':=by
 have eg:=enters_of Tryz.func54 (by kernel_rfl) rfl
 have H:=hJ h
 clear h;go_enter Tryz.func126,Tryz.ntmps126
 go_wp2;go_loopw [8] (fun i wr=>∃k:Nat,k≤fls.length∧i=Jq (k:Int)∧Hid (∀i y,i<k→fls[i]?=some y→(y.m == self)=false)∧Hid (Ext w wr)) (fun i _=>fls.length - (intOf i).toNat)
 case atStart=>exact⟨0,Nat.zero_le _,rfl,hJ (fun i y hi=>absurd hi (Nat.not_lt_zero _)),hJ (Ext.refl _)⟩
 case round=>
  obtain⟨k,hk,rfl,HK,HX⟩:=hrel
  by_cases hlt:k<fls.length
  ·obtain⟨bb,off,f,rfl,hb,c0,c1,c2,HFR,HF⟩:=qgC (H.out.ext HX.out) hlt
   have hv':wr.cell? (Pq pv 0)=some (.pointer (some (Pq p 0))):=by rw[HX.out.cell (by exact hpv)];exact hv
   have hs':wr.cell? (Pq p 0)=some (Jq self):=by rw[HX.out.cell (by exact hp)];exact hs
   have hl1:pv<wr.heap.size:=Nat.lt_of_lt_of_le hpv HX.out.size
   have hl2:p<wr.heap.size:=Nat.lt_of_lt_of_le hp HX.out.size
   have hcall:=qmU f.m f.b f.A f.c f.log.length pv p self wr hv' hs' hl1 hl2
   clear hv hs;cases hq:(f.m == self) with
   | true=>
    rw[hq] at hcall
    have HA:Hid ((fls.any fun f=>f.m == self)=true):=hJ (List.any_eq_true.2 ⟨f,List.mem_of_getElem? HF.out,hq⟩)
    go_wp2_with fail
    refine hcall.mono ?_
    rintro e w' ⟨rfl,hb'⟩
    go_wp2;go_ret
    exact⟨_,rfl,hJ (by rw[HA.out];simp),HX.out.trans hb'⟩
   | false=>
    rw[hq] at hcall
    have HK':Hid (∀i y,i<k+1→fls[i]?=some y→(y.m == self)=false):=hJ (fun i y hi hy=>by
     rcases Nat.lt_or_ge i k with h1|h1
     ·exact HK.out i y h1 hy
     ·have:i=k:=by omega
      subst this
      rw[HF.out] at hy;cases hy;exact hq)
    go_wp2_with fail
    refine hcall.mono ?_
    rintro e w' ⟨rfl,hb'⟩
    go_wp2;go_roundw
    case rel=>exact⟨k+1,by omega,by go_num,HK',hJ (HX.out.trans hb')⟩
    case measure=>simp[intOf];omega
  ·have HA:Hid ((fls.any fun f=>f.m == self)=false):=hJ (by
    rw[List.any_eq_false];intro f hf
    obtain⟨i,hi,rfl⟩:=List.mem_iff_getElem.1 hf
    rw[HK.out i _ (by omega) (List.getElem?_eq_getElem hi)];simp)
   go_wp2;go_ret
   exact⟨_,rfl,hJ (by rw[HA.out];rfl),HX.out⟩
theorem qhl(Af:Option Addr)(cf:Nat)(fls:List FlM)(pv p:Nat)(self:Int)(w:World)(h:flE.Box w Af fls)(hn:fls.length≤1000000)(hv:w.cell? (Pq pv 0)=some (.pointer (some (Pq p 0))))(hs:w.cell? (Pq p 0)=some (Jq self))(hpv:pv<w.heap.size)(hp:p<w.heap.size) :
  Calls Tryz.prog 53 #[.slice Af fls.length cf,.func (.func 54) #[] #[.pointer (some (Pq pv 0))]] w fun e w'=>e=.returned (.bool (fls.any fun f=>f.m == self))∧Ext w w':=by
 have H:=hJ h;have HV:=hJ hv;have HS:=hJ hs
 clear h hv hs;go_enter Tryz.func53,Tryz.ntmps53
 go_wp2_with fail
 refine(qjX Af cf fls pv p self w H.out hn HV.out HS.out hpv hp).mono ?_
 rintro e w1 ⟨r,rfl,hr,hx⟩
 have hge:(decide (r≥0))=decide (0≤r):=rfl
 go_wp2;go_ret
 exact⟨qae (by rw[←hr.out]),hx⟩
theorem qps(a:Int)(w:World):Row (w.alloc (.cells #[Jq a] 3)) (some (Pq w.heap.size 0)) (qam [a]):=by
 intro _
 refine⟨w.heap.size,0,rfl,by simp,fun j q hj=>?_⟩
 match j,hj with
 | 0,hj=>simp only[qam,List.map_cons,List.map_nil,List.getElem?_cons_zero,Option.some.injEq] at hj;subst hj;simp
theorem qlh(n b:Int)(h:I64 b):(qav [n]++qaS (zig b)).length≤100:=by
 have h1:=qaD [n]
 have h2:=qat (qmV h)
 simp only[List.length_append,List.length_cons,List.length_nil] at *
 omega
section
variable {b:BM}
theorem qog(ho:qaL b.st=true)(hl:qaN b.st=true):qeo ⟨b.st,[],[]⟩=qhm ⟨b.st,[],[]⟩:=by unfold qeo;rw[if_pos ho,if_pos hl]
theorem qkp(ho:qaL b.st=true)(hl:qaN b.st=false):qeo ⟨b.st,[],[]⟩=qdu ⟨b.st,[],[]⟩:=by unfold qeo;rw[if_pos ho,if_neg (by simp[hl])]
theorem qlH{n:Int}{xs:List Int}{sq:Int}{BD:List UInt8}(ho:qaL b.st=false)(hl:qaN b.st=false)(hv:qaf (vws b.vs)=(n,xs))(hs:qbl (n,xs)=sq)(hb:BD=qav [n]++qaS (zig b.base)):qeo ⟨b.st,[],[]⟩=qb3 ⟨b.st,[],[]⟩ sq 14 (BD++qbd b.log):=by
 unfold qeo
 have e:qaf b.st.views=(n,xs):=hv
 rw[if_neg (by simp[ho]),if_neg (by simp[hl])]
 simp only
 rw[e,hs,hb];rfl
theorem qk8(b:BM):qlF b.st=b.fls.any fun f=>f.m == b.self:=by
 show (b.fls.map FlM.v).any _=_
 rw[List.any_map];rfl
theorem qnp(ho:qaL b.st=false)(hl:qaN b.st=true)(hm:(b.fls.any fun f=>f.m == b.self)=true):qeo ⟨b.st,[],[]⟩=⟨qaZ b.st,[],[]⟩:=by
 unfold qeo
 rw[if_neg (by simp[ho]),if_pos hl]
 simp only
 rw[if_pos (by rw[qk8];exact hm)]
theorem qpT(ho:qaL b.st=false)(hl:qaN b.st=true)(hm:(b.fls.any fun f=>f.m == b.self)=false):qeo ⟨b.st,[],[]⟩=⟨qaZ {b.st with fls:=putF b.st.fls (b.self,b.base,b.log)},[],[]⟩:=by
 unfold qeo
 rw[if_neg (by simp[ho]),if_pos hl]
 simp only
 rw[if_neg (by rw[qk8,hm];simp)]
 rfl
end
theorem qne{l:List Int}(h:qsw l){N:Nat}(hn:∀k∈l,k≤N):l.length≤N:=by
 have h2:∀i (hi:i<l.length),(i:Int)+1≤l[i]:=by
  intro i
  induction i with
  | zero=>intro hi;have:=h.2 _ (List.getElem_mem hi);omega
  | succ i ih=>
   intro hi
   have h3:=ih (by omega)
   have h4:=List.pairwise_iff_getElem.1 h.1 i (i+1) (by omega) hi (by omega)
   omega
 rcases Nat.eq_zero_or_pos l.length with h0|h0
 ·omega
 ·have h3:=h2 (l.length - 1) (by omega)
  have h4:=hn _ (List.getElem_mem (show l.length - 1<l.length by omega))
  omega
theorem VS.fl_len{s:St}(h:VS s):s.fls.length≤1000:=by
 have:=qne h.fla (N:=1000) (fun k hk=>by
  obtain⟨f,hf,rfl⟩:=List.mem_map.1 hk
  have:=(h.fls f hf).1
  unfold qb2 at this
  simp only[Bool.and_eq_true,decide_eq_true_eq] at this
  omega)
 simpa using this
theorem qnO{n:Int}{xs:List Int}(h:qan n xs=true):∀x∈xs,x≤1000:=by
 intro x hx
 unfold qan at h
 simp only[Bool.and_eq_true] at h
 exact((qcl (m:=16)).1 h.2).2.2.2 x hx |>.2
theorem VS.mk_len{s:St}(h:VS s):s.marks.length≤1000:=by
 have:=qne h.mka (N:=1000) (fun k hk=>by
  obtain⟨f,hf,rfl⟩:=List.mem_map.1 hk
  have h1:=(h.mks f hf).2.1
  exact qnO h.last _ (qb4.1 h1))
 simpa using this
theorem VS.vx{s:St}(h:VS s):∀v∈s.views,v.2.length≤16∧0≤v.1∧v.1≤1099511627776:=by
 intro v hv
 obtain⟨i,hi,rfl⟩:=List.mem_iff_getElem.1 hv
 have:=qfv h.vs i hi
 rw[qdW hi] at this
 exact⟨(qaH this).2,qa5 this⟩
theorem VS.base{s:St}(h:VS s) : -1≤s.base∧s.base≤1099511627776:=by
 rcases h.known with h1|⟨v,h1,_⟩
 ·omega
 ·unfold qaA at h1
  have h2:=List.mem_of_find?_eq_some h1
  have h3:=List.find?_some h1
  simp only[beq_iff_eq] at h3
  have:=h.vx v h2
  omega
set_option maxHeartbeats 2000000 in
theorem qla(b:BM)(w:World)(h:b.Reads w)(hf:b.Fits)(hv:qbp b.st=true) :
  Calls Tryz.prog 14 #[.agg b.cells] w (qqs w (qbM b.st)):=by
 have E0:Hid (Ext w ((w.alloc (.cells b.cells 28)).alloc (.cells Yq 28))):=hJ ((Ext.new _ _).trans (Ext.new _ _))
 have R0:=hJ (h.ext E0.out);have HFT:=hJ hf
 have OK:=hJ (qgs hv)
 have VV:=hJ (qb1.1 hv)
 have HV:=hJ hv
 clear h hf hv;unfold BM.cells
 go_enter Tryz.func14,Tryz.ntmps14
 go_wp2_with fail
 refine(qbR b _ R0.out HFT.out).mono ?_
 rintro en w1 ⟨rfl,hx1⟩
 have X1:=hJ hx1
 have BR1:Hid (BIs w1 (w.heap.size+1) Yq 28):=hJ (by have:=BIs.ext (BIs.new (w.alloc (.cells b.cells 28)) Yq 28) hx1;simpa using this)
 have BP1:Hid (BIs w1 w.heap.size b.cells 28):=hJ (((BIs.new w b.cells 28).ext (Ext.new _ _)).ext hx1)
 clear hx1;obtain⟨q0,q1,q2,q3,q4,q5,q6,q7,q8⟩:=qbC BP1.out
 rw[HV.out]
 have hp12:Hid (w.heap.size+1<w1.heap.size):=hJ BR1.out.lt
 go_wp2_with fail
 refine(qfo b w1 (R0.out.ext X1.out) HFT.out).mono ?_
 rintro en w2 ⟨b',col,rfl,hst',hft',hli,hc8,hpo,hpc,hx2⟩
 obtain⟨_,_,hvp,hcpb,_,_⟩:=hpo.slice
 have hcp:b'.pend.length≤b'.cp:=by simp only[Value.slice.injEq] at hvp;omega
 have X2:=hJ hx2;have HC8:=hJ hc8;have HST:=hJ hst'
 have hlt2:Hid (w1.heap.size≤w2.heap.size):=hJ hx2.size
 have CC:Hid (CS ((w2.alloc (.cells (⟨b',none,0,[],none,0,[]⟩:CM).cells 86)).alloc (.cells #[.pointer (some (Pw w2 0))] 84)) w1.heap.size (qai (qai col w2.heap.size 1) (w2.heap.size+1) 8) w2.heap.size ⟨b',none,0,[],none,0,[]⟩):=hJ (qsD hli hft' hcp hx2.size _ _)
 have HFT':=hJ hft'
 have BR:Hid (BIs ((w2.alloc (.cells (⟨b',none,0,[],none,0,[]⟩:CM).cells 86)).alloc (.cells #[.pointer (some (Pw w2 0))] 84)) (w.heap.size+1) Yq 28):=hJ ((BR1.out.ext X2.out).ext ((Ext.new _ _).trans (Ext.new _ _)))
 have BV:Hid (BIs ((w2.alloc (.cells (⟨b',none,0,[],none,0,[]⟩:CM).cells 86)).alloc (.cells #[.pointer (some (Pw w2 0))] 84)) (w2.heap.size+1) #[.pointer (some (Pw w2 0))] 84):=hJ (by have:=BIs.new (w2.alloc (.cells (⟨b',none,0,[],none,0,[]⟩:CM).cells 86)) #[.pointer (some (Pw w2 0))] 84;simpa using this)
 have XX:Hid (Ext w ((w2.alloc (.cells (⟨b',none,0,[],none,0,[]⟩:CM).cells 86)).alloc (.cells #[.pointer (some (Pw w2 0))] 84))):=hJ (((E0.out.trans X1.out).trans X2.out).trans ((Ext.new _ _).trans (Ext.new _ _)))
 clear hst' hft' hli hc8 hpo hpc hx2 hvp hcpb hcp q0 q1 q2 q3 q4 q5 q6 q7 q8;have hvl:0<b'.vs.length:=by
  have h1:=OK.out.vs
  rw[←HST.out] at h1
  simpa[BM.st,qaI] using h1
 have HTF:Hid (qbM b.st=qeo ⟨b'.st,[],[]⟩):=hJ (by unfold qbM;rw[if_neg (by rw[HV.out];simp),HST.out])
 have VB:Hid (VS b'.st):=hJ (by rw[HST.out];exact VV.out)
 have hfn:b'.fls.length≤1000:=by have:=VB.out.fl_len;rw[qiG] at this;exact this
 have hfn2:b'.fls.length≤50000:=by omega
 have hstb:0≤b'.stable∧b'.stable≤b'.log.length:=⟨VB.out.st0,VB.out.st⟩
 have HVX:Hid (∀v∈b'.vs,v.xs.length≤1000):=hJ (fun v hv=>by have:=(VB.out.vx v.v (List.mem_map_of_mem hv)).1;simp only[VwM.v] at this;omega)
 have HI64:Hid (I64 b'.base):=hJ (by have:=VB.out.base;unfold I64;simp only[BM.st] at this;omega)
 have hlg:b'.log.length≤2000:=by have:=OK.out.log;rw[←HST.out] at this;exact this
 have HLP:Hid (∀e∈b'.log,e.p.length≤6000):=hJ (by have:=OK.out.lp;rw[←HST.out] at this;exact this)
 unfold BM.cells
 go_upto_block 0 with fail
 unfold CM.cells at CC BR BV XX
 simp only[List.length_nil] at CC BR BV XX
 generalize (w2.alloc (.cells #[Jq b'.self,.slice b'.Av b'.vs.length b'.cv,Jq b'.base,.slice b'.Al b'.log.length b'.cl,Jq b'.stable,Jq b'.sent,.slice b'.Ap b'.pend.length b'.cp,.slice b'.Am b'.marks.length b'.cm,.slice b'.Af b'.fls.length b'.cf,Zq,Zq] 86)).alloc (.cells #[.pointer (some (Pw w2 0))] 84)=w3 at *
 obtain⟨c43,hc43⟩:∃x,x=(qaL b'.st&&qaN b'.st):=⟨_,rfl⟩
 obtain⟨ob,hob⟩:∃x,qaL b'.st=x:=⟨_,rfl⟩
 obtain⟨lb,hlb⟩:∃x,qaN b'.st=x:=⟨_,rfl⟩
 rw[hob,hlb] at hc43
 have HOB:=hJ hob;have HLB:=hJ hlb;have HC43:=hJ hc43
 clear hob hlb hc43;have CC5:=CC;have BR5:=BR;have BV5:=BV;have X6:=XX;have XS:Hid (Ext w3 w3):=hJ (Ext.refl _)
 go_cut [] (fun wx=>∃(m6:CM) (col6:Nat→Nat),Hid (CS wx w1.heap.size col6 w2.heap.size m6)∧Hid (m6.cs=qbM b.st)∧Hid (Stp w1.heap.size [1,2,3,4,5,7] (qai (qai col w2.heap.size 1) (w2.heap.size+1) 8) w3 col6 wx))
 case first=>
  go_upto_region 7 with fail
  go_cut [43] (fun s wx=>s=.bool c43∧Hid (CS wx w1.heap.size (qai (qai col w2.heap.size 1) (w2.heap.size+1) 8) w2.heap.size ⟨b',none,0,[],none,0,[]⟩)∧Hid (BIs wx (w.heap.size+1) Yq 28)∧Hid (BIs wx (w2.heap.size+1) #[.pointer (some (Pw w2 0))] 84)∧Hid (Ext w wx)∧Hid (Ext w3 wx))
  case first=>
   have q0:w3.cell? (Pw w2 0)=some (Jq b'.self):=CC.out.cell 0
   have q1:w3.cell? (Pw w2 1)=some (.slice b'.Av b'.vs.length b'.cv):=CC.out.cell 1
   have q2:w3.cell? (Pw w2 2)=some (Jq b'.base):=CC.out.cell 2
   have q3:w3.cell? (Pw w2 3)=some (.slice b'.Al b'.log.length b'.cl):=CC.out.cell 3
   have q4:w3.cell? (Pw w2 4)=some (Jq b'.stable):=CC.out.cell 4
   have q5:w3.cell? (Pw w2 5)=some (Jq b'.sent):=CC.out.cell 5
   have q6:w3.cell? (Pw w2 6)=some (.slice b'.Ap b'.pend.length b'.cp):=CC.out.cell 6
   have q7:w3.cell? (Pw w2 7)=some (.slice b'.Am b'.marks.length b'.cm):=CC.out.cell 7
   have q8:w3.cell? (Pw w2 8)=some (.slice b'.Af b'.fls.length b'.cf):=CC.out.cell 8
   have v0:w3.cell? (Pv w2 0)=some (.pointer (some (Pw w2 0))):=BV.out.cell 0
   go_wp2_with fail
   refine(qde b' w3 CC.out.lies.reads hvl HFT'.out).mono ?_
   rintro en w4 ⟨rfl,hx2⟩
   rw[HOB.out]
   replace CC:=hJ (CC.out.ext hx2);replace BR:=hJ (BR.out.ext hx2);replace BV:=hJ (BV.out.ext hx2);replace XX:=hJ (XX.out.trans hx2);replace XS:=hJ (XS.out.trans hx2);clear hx2
   cases ob with
   | false=>
    go_wp2;go_meet
    case rel=>exact⟨by rw[HC43.out];rfl,CC,BR,BV,XX,XS⟩
   | true=>
    clear v0 q0 q1 q2 q3 q4 q5 q6 q7 q8;have q0:w4.cell? (Pw w2 0)=some (Jq b'.self):=CC.out.cell 0
    have q1:w4.cell? (Pw w2 1)=some (.slice b'.Av b'.vs.length b'.cv):=CC.out.cell 1
    have q2:w4.cell? (Pw w2 2)=some (Jq b'.base):=CC.out.cell 2
    have q3:w4.cell? (Pw w2 3)=some (.slice b'.Al b'.log.length b'.cl):=CC.out.cell 3
    have q4:w4.cell? (Pw w2 4)=some (Jq b'.stable):=CC.out.cell 4
    have q5:w4.cell? (Pw w2 5)=some (Jq b'.sent):=CC.out.cell 5
    have q6:w4.cell? (Pw w2 6)=some (.slice b'.Ap b'.pend.length b'.cp):=CC.out.cell 6
    have q7:w4.cell? (Pw w2 7)=some (.slice b'.Am b'.marks.length b'.cm):=CC.out.cell 7
    have q8:w4.cell? (Pw w2 8)=some (.slice b'.Af b'.fls.length b'.cf):=CC.out.cell 8
    have v0:w4.cell? (Pv w2 0)=some (.pointer (some (Pw w2 0))):=BV.out.cell 0
    go_wp2_with fail
    refine(qcU b' w4 CC.out.lies.reads hvl HFT'.out).mono ?_
    rintro en w5 ⟨rfl,hx2⟩
    rw[HLB.out]
    replace CC:=hJ (CC.out.ext hx2);replace BR:=hJ (BR.out.ext hx2);replace BV:=hJ (BV.out.ext hx2);replace XX:=hJ (XX.out.trans hx2);replace XS:=hJ (XS.out.trans hx2);clear hx2
    go_wp2;go_meet
    case rel=>exact⟨by rw[HC43.out];rfl,CC,BR,BV,XX,XS⟩
  case rest=>
   obtain⟨rfl,HA,HB,HC,HD,HE⟩:=hcut
   clear CC BR BV XX XS;obtain⟨w5,rfl⟩:∃x,x=wc:=⟨_,rfl⟩
   obtain⟨CC,BR,BV,XX⟩:Hid (CS w5 w1.heap.size (qai (qai col w2.heap.size 1) (w2.heap.size+1) 8) w2.heap.size ⟨b',none,0,[],none,0,[]⟩)∧Hid (BIs w5 (w.heap.size+1) Yq 28)∧Hid (BIs w5 (w2.heap.size+1) #[.pointer (some (Pw w2 0))] 84)∧Hid (Ext w w5):=⟨HA,HB,HC,HD⟩
   clear HA HB HC HD;have SS:Hid (Stp w1.heap.size [1,2,3,4,5,7] (qai (qai col w2.heap.size 1) (w2.heap.size+1) 8) w3 (qai (qai col w2.heap.size 1) (w2.heap.size+1) 8) w5):=hJ (Stp.ext' CC5.out.Bsz HE.out)
   have q0:w5.cell? (Pw w2 0)=some (Jq b'.self):=CC.out.cell 0
   have q1:w5.cell? (Pw w2 1)=some (.slice b'.Av b'.vs.length b'.cv):=CC.out.cell 1
   have q2:w5.cell? (Pw w2 2)=some (Jq b'.base):=CC.out.cell 2
   have q3:w5.cell? (Pw w2 3)=some (.slice b'.Al b'.log.length b'.cl):=CC.out.cell 3
   have q4:w5.cell? (Pw w2 4)=some (Jq b'.stable):=CC.out.cell 4
   have q5:w5.cell? (Pw w2 5)=some (Jq b'.sent):=CC.out.cell 5
   have q6:w5.cell? (Pw w2 6)=some (.slice b'.Ap b'.pend.length b'.cp):=CC.out.cell 6
   have q7:w5.cell? (Pw w2 7)=some (.slice b'.Am b'.marks.length b'.cm):=CC.out.cell 7
   have q8:w5.cell? (Pw w2 8)=some (.slice b'.Af b'.fls.length b'.cf):=CC.out.cell 8
   have v0:w5.cell? (Pv w2 0)=some (.pointer (some (Pw w2 0))):=BV.out.cell 0
   cases ob with
   | true=>
    cases lb with
    | true=>
     obtain rfl:c43=true:=HC43.out
     go_wp2_with fail
     refine(qpW _ _ _ _ _ CC.out (by simp only;rw[HST.out];exact OK.out) rfl rfl).mono ?_
     rintro en w9 ⟨m9,col9,rfl,hc9,hm9,hs9⟩
     have SE:=hJ (SS.out.trans hs9)
     go_wp2;go_meet
     case rel=>exact⟨m9,col9,hJ hc9,hJ (by rw[hm9,HTF.out];exact(qog HOB.out HLB.out).symm),SE⟩
    | false=>
     obtain rfl:c43=false:=HC43.out
     go_wp2_with fail
     refine(qde b' w5 CC.out.lies.reads hvl HFT'.out).mono ?_
     rintro en w6 ⟨rfl,hx2⟩
     rw[HOB.out]
     replace CC:=hJ (CC.out.ext hx2);replace BR:=hJ (BR.out.ext hx2);replace BV:=hJ (BV.out.ext hx2);replace XX:=hJ (XX.out.trans hx2);replace SS:=hJ (SS.out.trans (Stp.ext' (Nat.le_trans CC5.out.Bsz SS.out.size) hx2));clear hx2
     clear v0 q0 q1 q2 q3 q4 q5 q6 q7 q8;have q0:w6.cell? (Pw w2 0)=some (Jq b'.self):=CC.out.cell 0
     have q1:w6.cell? (Pw w2 1)=some (.slice b'.Av b'.vs.length b'.cv):=CC.out.cell 1
     have q2:w6.cell? (Pw w2 2)=some (Jq b'.base):=CC.out.cell 2
     have q3:w6.cell? (Pw w2 3)=some (.slice b'.Al b'.log.length b'.cl):=CC.out.cell 3
     have q4:w6.cell? (Pw w2 4)=some (Jq b'.stable):=CC.out.cell 4
     have q5:w6.cell? (Pw w2 5)=some (Jq b'.sent):=CC.out.cell 5
     have q6:w6.cell? (Pw w2 6)=some (.slice b'.Ap b'.pend.length b'.cp):=CC.out.cell 6
     have q7:w6.cell? (Pw w2 7)=some (.slice b'.Am b'.marks.length b'.cm):=CC.out.cell 7
     have q8:w6.cell? (Pw w2 8)=some (.slice b'.Af b'.fls.length b'.cf):=CC.out.cell 8
     have v0:w6.cell? (Pv w2 0)=some (.pointer (some (Pw w2 0))):=BV.out.cell 0
     go_wp2_with fail
     refine(qlS _ _ _ _ _ CC.out (by simp only;rw[HST.out];exact OK.out) rfl).mono ?_
     rintro en w9 ⟨m9,col9,rfl,hc9,hm9,hs9⟩
     have SE:=hJ (SS.out.trans hs9)
     go_wp2;go_meet
     case rel=>exact⟨m9,col9,hJ hc9,hJ (by rw[hm9,HTF.out];exact(qkp HOB.out HLB.out).symm),SE⟩
   | false=>
    obtain rfl:c43=false:=HC43.out
    go_wp2_with fail
    refine(qde b' w5 CC.out.lies.reads hvl HFT'.out).mono ?_
    rintro en w6 ⟨rfl,hx2⟩
    rw[HOB.out]
    replace CC:=hJ (CC.out.ext hx2);replace BR:=hJ (BR.out.ext hx2);replace BV:=hJ (BV.out.ext hx2);replace XX:=hJ (XX.out.trans hx2);replace SS:=hJ (SS.out.trans (Stp.ext' (Nat.le_trans CC5.out.Bsz SS.out.size) hx2));clear hx2
    clear v0 q0 q1 q2 q3 q4 q5 q6 q7 q8;have q0:w6.cell? (Pw w2 0)=some (Jq b'.self):=CC.out.cell 0
    have q1:w6.cell? (Pw w2 1)=some (.slice b'.Av b'.vs.length b'.cv):=CC.out.cell 1
    have q2:w6.cell? (Pw w2 2)=some (Jq b'.base):=CC.out.cell 2
    have q3:w6.cell? (Pw w2 3)=some (.slice b'.Al b'.log.length b'.cl):=CC.out.cell 3
    have q4:w6.cell? (Pw w2 4)=some (Jq b'.stable):=CC.out.cell 4
    have q5:w6.cell? (Pw w2 5)=some (Jq b'.sent):=CC.out.cell 5
    have q6:w6.cell? (Pw w2 6)=some (.slice b'.Ap b'.pend.length b'.cp):=CC.out.cell 6
    have q7:w6.cell? (Pw w2 7)=some (.slice b'.Am b'.marks.length b'.cm):=CC.out.cell 7
    have q8:w6.cell? (Pw w2 8)=some (.slice b'.Af b'.fls.length b'.cf):=CC.out.cell 8
    have v0:w6.cell? (Pv w2 0)=some (.pointer (some (Pw w2 0))):=BV.out.cell 0
    go_wp2_with fail
    refine(qcU b' w6 CC.out.lies.reads hvl HFT'.out).mono ?_
    rintro en w7 ⟨rfl,hx2⟩
    rw[HLB.out]
    replace CC:=hJ (CC.out.ext hx2);replace BR:=hJ (BR.out.ext hx2);replace BV:=hJ (BV.out.ext hx2);replace XX:=hJ (XX.out.trans hx2);replace SS:=hJ (SS.out.trans (Stp.ext' (Nat.le_trans CC5.out.Bsz SS.out.size) hx2));clear hx2
    clear v0 q0 q1 q2 q3 q4 q5 q6 q7 q8;have q0:w7.cell? (Pw w2 0)=some (Jq b'.self):=CC.out.cell 0
    have q1:w7.cell? (Pw w2 1)=some (.slice b'.Av b'.vs.length b'.cv):=CC.out.cell 1
    have q2:w7.cell? (Pw w2 2)=some (Jq b'.base):=CC.out.cell 2
    have q3:w7.cell? (Pw w2 3)=some (.slice b'.Al b'.log.length b'.cl):=CC.out.cell 3
    have q4:w7.cell? (Pw w2 4)=some (Jq b'.stable):=CC.out.cell 4
    have q5:w7.cell? (Pw w2 5)=some (Jq b'.sent):=CC.out.cell 5
    have q6:w7.cell? (Pw w2 6)=some (.slice b'.Ap b'.pend.length b'.cp):=CC.out.cell 6
    have q7:w7.cell? (Pw w2 7)=some (.slice b'.Am b'.marks.length b'.cm):=CC.out.cell 7
    have q8:w7.cell? (Pw w2 8)=some (.slice b'.Af b'.fls.length b'.cf):=CC.out.cell 8
    have v0:w7.cell? (Pv w2 0)=some (.pointer (some (Pw w2 0))):=BV.out.cell 0
    cases lb with
    | false=>
     obtain⟨⟨nv,xs⟩,hlv⟩:∃v,qaf (vws b'.vs)=v:=⟨_,rfl⟩
     have HLV:=hJ hlv
     have hx16:xs.length≤16:=by
      have h1:=(qep OK.out).2.1
      have h2:qaf b'.st.views=(nv,xs):=hlv
      rw[←HST.out,h2] at h1;exact h1
     obtain⟨sq,hsq⟩:∃s,qbl (nv,xs)=s:=⟨_,rfl⟩
     have HSQ:=hJ hsq
     clear hlv hsq;have hfd:=qeF
     skip
     go_upto_region 12 with fail
     clear v0 q0 q1 q2 q3 q4 q5 q6 q7 q8;refine qac 16 (fun w'=>w'.cell? (Pw w2 1)=some (.slice b'.Av b'.vs.length b'.cv)∧w'.cell? (Pw w2 2)=some (Jq b'.base)∧w'.cell? (Pv w2 0)=some (.pointer (some (Pw w2 0)))) (by kernel_rfl) ⟨(CC.out.ext Ext.drew1).cell 1,(CC.out.ext Ext.drew1).cell 2,(BV.out.ext Ext.drew1).cell 0⟩ (fun hHeld=>?_)
     have hx2:Ext w7 w7.drew:=Ext.drew1
     replace CC:=hJ (CC.out.ext hx2);replace BR:=hJ (BR.out.ext hx2);replace BV:=hJ (BV.out.ext hx2);replace XX:=hJ (XX.out.trans hx2);replace SS:=hJ (SS.out.trans (Stp.ext' (Nat.le_trans CC5.out.Bsz SS.out.size) hx2));clear hx2
     generalize w7.drew=u7 at *
     refine E_t 0 73 ?_;refine E_t 1 74 ?_;refine E_t 2 75 ?_;refine E_t 3 76 ?_;refine E_t 4 77 ?_;refine E_t 9 82 ?_;refine E_t 10 83 ?_;refine E_t 11 84 ?_;refine E_t 12 85 ?_;refine E_t 13 86 ?_;refine E_r 5 (some 78) fun K hK=>?_
     go_simp;go_at_call 49;refine(qdj b'.Av b'.cv b'.vs _ CC.out.lies.vs hvl (by have:=HFT'.out.vs;omega) nv xs HLV.out).mono ?_
     rintro en w8 ⟨A8,c8,rfl,h81,h82,HR8,hx2⟩
     replace CC:=hJ (CC.out.ext hx2);replace BR:=hJ (BR.out.ext hx2);replace BV:=hJ (BV.out.ext hx2);replace XX:=hJ (XX.out.trans hx2);replace SS:=hJ (SS.out.trans (Stp.ext' (Nat.le_trans CC5.out.Bsz SS.out.size) hx2));clear hx2
     clear hHeld;refine hK.out _ _ ⟨CC.out.cell 1,CC.out.cell 2,BV.out.cell 0⟩ (fun hHeld=>?_)
     clear hK K;try simp only[Act.put,aP1,aP2,aP3]
     refine E_t 6 79 ?_;refine E_r 7 (some 80) fun K hK=>?_
     go_simp;have hx2:Ext w8 (w8.alloc (.cells #[Jq nv] 3)):=Ext.new _ _
     have RI:=hJ (qps nv w8)
     replace CC:=hJ (CC.out.ext hx2);replace BR:=hJ (BR.out.ext hx2);replace BV:=hJ (BV.out.ext hx2);replace XX:=hJ (XX.out.trans hx2);replace SS:=hJ (SS.out.trans (Stp.ext' (Nat.le_trans CC5.out.Bsz SS.out.size) hx2));clear hx2
     generalize w8.alloc (.cells #[Jq nv] 3)=w9 at *
     generalize w8.heap.size=r_i at *
     clear hHeld;refine hK.out _ _ ⟨CC.out.cell 1,CC.out.cell 2,BV.out.cell 0⟩ (fun hHeld=>?_)
     clear hK K;try simp only[Act.put,aP1,aP2,aP3]
     refine E_r 8 (some 81) fun K hK=>?_
     go_simp;go_at_call 48;refine(qbP _ 1 [nv] _ RI.out (by simp)).mono ?_
     rintro en wA ⟨A2,c2,rfl,h21,h22,ho2,hx2⟩
     have R2:=hJ ho2.row
     clear ho2;replace CC:=hJ (CC.out.ext hx2);replace BR:=hJ (BR.out.ext hx2);replace BV:=hJ (BV.out.ext hx2);replace XX:=hJ (XX.out.trans hx2);replace SS:=hJ (SS.out.trans (Stp.ext' (Nat.le_trans CC5.out.Bsz SS.out.size) hx2));clear hx2;clear hHeld;refine hK.out _ _ ⟨CC.out.cell 1,CC.out.cell 2,BV.out.cell 0⟩ (fun hHeld=>?_)
     clear hK K;try simp only[Act.put,aP1,aP2,aP3]
     refine E_r 14 (some 87) fun K hK=>?_
     go_simp;go_at_call 47;refine(qh9 A2 c2 (qav [nv]) b'.base _ R2.out (by have:=qaD [nv];simp at this;omega) HI64).mono ?_
     rintro en wB ⟨A3,c3,rfl,h31,h32,ho3,hx2⟩
     obtain⟨BD,hbd⟩:∃x,x=qav [nv]++qaS (zig b'.base):=⟨_,rfl⟩
     have HBD:=hJ hbd
     have hbl:BD.length≤100:=by rw[hbd];exact qlh nv b'.base HI64.out
     rw[←hbd] at h31 ho3⊢
     clear hbd;have R3:=hJ ho3.row
     clear ho3;replace CC:=hJ (CC.out.ext hx2);replace BR:=hJ (BR.out.ext hx2);replace BV:=hJ (BV.out.ext hx2);replace XX:=hJ (XX.out.trans hx2);replace SS:=hJ (SS.out.trans (Stp.ext' (Nat.le_trans CC5.out.Bsz SS.out.size) hx2));clear hx2;clear hHeld;refine hK.out _ _ ⟨CC.out.cell 1,CC.out.cell 2,BV.out.cell 0⟩ (fun hHeld=>?_)
     clear hK K;try simp only[Act.put,aP1,aP2,aP3]
     refine E_t 15 6 ?_;refine qaE (by kernel_rfl) (by rfl) ?_
     go_upto_region 13 with fail
     refine qac 15 (fun w'=>w'.cell? (Pw w2 1)=some (.slice b'.Av b'.vs.length b'.cv)∧w'.cell? (Pw w2 3)=some (.slice b'.Al b'.log.length b'.cl)∧w'.cell? (Pv w2 0)=some (.pointer (some (Pw w2 0)))) (by kernel_rfl) ⟨(CC.out.ext Ext.drew1).cell 1,(CC.out.ext Ext.drew1).cell 3,(BV.out.ext Ext.drew1).cell 0⟩ (fun hHeld=>?_)
     have hx2:Ext wB wB.drew:=Ext.drew1
     replace CC:=hJ (CC.out.ext hx2);replace BR:=hJ (BR.out.ext hx2);replace BV:=hJ (BV.out.ext hx2);replace XX:=hJ (XX.out.trans hx2);replace SS:=hJ (SS.out.trans (Stp.ext' (Nat.le_trans CC5.out.Bsz SS.out.size) hx2));replace R3:=hJ (R3.out.ext hx2);clear hx2
     generalize wB.drew=u8 at *
     refine E_t 0 88 ?_;refine E_t 1 89 ?_;refine E_t 2 90 ?_;refine E_t 3 91 ?_;refine E_t 4 92 ?_;refine E_t 5 93 ?_;refine E_t 8 96 ?_;refine E_t 9 97 ?_;refine E_t 10 98 ?_;refine E_t 11 99 ?_;refine E_t 12 100 ?_;refine E_t 13 101 ?_;refine E_r 6 (some 94) fun K hK=>?_
     go_simp;go_at_call 49;refine(qdj b'.Av b'.cv b'.vs _ CC.out.lies.vs hvl (by have:=HFT'.out.vs;omega) nv xs HLV.out).mono ?_
     rintro en wC ⟨A8,c8,rfl,h81,h82,HR8,hx2⟩
     replace CC:=hJ (CC.out.ext hx2);replace BR:=hJ (BR.out.ext hx2);replace BV:=hJ (BV.out.ext hx2);replace XX:=hJ (XX.out.trans hx2);replace SS:=hJ (SS.out.trans (Stp.ext' (Nat.le_trans CC5.out.Bsz SS.out.size) hx2));replace R3:=hJ (R3.out.ext hx2);clear hx2
     clear hHeld;refine hK.out _ _ ⟨CC.out.cell 1,CC.out.cell 3,BV.out.cell 0⟩ (fun hHeld=>?_)
     clear hK K;try simp only[Act.put,aP1,aP2,aP3]
     refine E_r 7 (some 95) fun K hK=>?_
     go_simp;go_at_call 51;refine(qbw nv A8 c8 xs _ HR8.out (by omega) sq HSQ.out).mono ?_
     rintro en wD ⟨rfl,hx2⟩
     replace CC:=hJ (CC.out.ext hx2);replace BR:=hJ (BR.out.ext hx2);replace BV:=hJ (BV.out.ext hx2);replace XX:=hJ (XX.out.trans hx2);replace SS:=hJ (SS.out.trans (Stp.ext' (Nat.le_trans CC5.out.Bsz SS.out.size) hx2));replace R3:=hJ (R3.out.ext hx2);clear hx2
     clear hHeld;refine hK.out _ _ ⟨CC.out.cell 1,CC.out.cell 3,BV.out.cell 0⟩ (fun hHeld=>?_)
     clear hK K;try simp only[Act.put,aP1,aP2,aP3]
     refine E_r 14 (some 102) fun K hK=>?_
     go_simp;go_at_call 52;refine(qcf A3 b'.Al c3 b'.cl BD b'.log _ R3.out (by omega) ⟨h31,h32⟩ CC.out.lies.log.row hlg HLP.out).mono ?_
     rintro en wF ⟨A4,c4,rfl,h41,h42,ho4,hx2⟩
     obtain⟨bd,hbd⟩:∃x,x=BD++qbd b'.log:=⟨_,rfl⟩
     have HBD2:=hJ hbd
     have hbl2:bd.length≤100000000:=by rw[hbd];exact qfM (by omega) hlg HLP.out
     rw[←hbd] at h41 ho4⊢
     clear hbd;have R4:=hJ ho4.row
     clear ho4;replace CC:=hJ (CC.out.ext hx2);replace BR:=hJ (BR.out.ext hx2);replace BV:=hJ (BV.out.ext hx2);replace XX:=hJ (XX.out.trans hx2);replace SS:=hJ (SS.out.trans (Stp.ext' (Nat.le_trans CC5.out.Bsz SS.out.size) hx2));replace R3:=hJ (R3.out.ext hx2);clear hx2;clear hHeld;refine hK.out _ _ ⟨CC.out.cell 1,CC.out.cell 3,BV.out.cell 0⟩ (fun hHeld=>?_)
     clear hK K;try simp only[Act.put,aP1,aP2,aP3]
     refine qbc (by rfl) (by kernel_rfl) ?_
     go_wp2_with fail
     refine(qfj ⟨b',none,0,[],none,0,[]⟩ _ _ _ sq 14 A4 c4 bd wF CC.out R4.out hbl2 (by decide) (by simp)).mono ?_
     rintro en w9 ⟨m9,col9,rfl,hc9,hm9,hs9⟩
     have SE:=hJ (SS.out.trans hs9)
     go_wp2;go_meet
     case rel=>exact⟨m9,col9,hJ hc9,hJ (by rw[hm9,HTF.out];exact by rw[HBD2.out];exact(qlH HOB.out HLB.out HLV.out HSQ.out HBD.out).symm),SE⟩
    | true=>
     have hmf:∀(fn:Fn) (first cap:Array Value) (w:World),(Instr.makeFunc fn first cap).run Tryz.prog w=.ok (.func fn first cap) w:=fun _ _ _ _=>rfl
     have hlc:w2.heap.size<w7.heap.size:=CC.out.lt
     have hlv:w2.heap.size+1<w7.heap.size:=BV.out.lt
     go_wp2_with fail
     refine(qhl b'.Af b'.cf b'.fls (w2.heap.size+1) w2.heap.size b'.self w7 CC.out.lies.reads.fls (by have:=HFT'.out.fls;omega) v0 q0 hlv hlc).mono ?_
     rintro en w8 ⟨rfl,hx2⟩
     replace CC:=hJ (CC.out.ext hx2);replace BR:=hJ (BR.out.ext hx2);replace BV:=hJ (BV.out.ext hx2);replace XX:=hJ (XX.out.trans hx2);replace SS:=hJ (SS.out.trans (Stp.ext' (Nat.le_trans CC5.out.Bsz SS.out.size) hx2));clear hx2
     clear v0 q0 q1 q2 q3 q4 q5 q6 q7 q8;clear hlc hlv;cases hmine:(b'.fls.any fun f=>f.m == b'.self) with
     | true=>
      have HMI:=hJ hmine
      have q0:w8.cell? (Pw w2 0)=some (Jq b'.self):=CC.out.cell 0
      have q1:w8.cell? (Pw w2 1)=some (.slice b'.Av b'.vs.length b'.cv):=CC.out.cell 1
      have q2:w8.cell? (Pw w2 2)=some (Jq b'.base):=CC.out.cell 2
      have q3:w8.cell? (Pw w2 3)=some (.slice b'.Al b'.log.length b'.cl):=CC.out.cell 3
      have q4:w8.cell? (Pw w2 4)=some (Jq b'.stable):=CC.out.cell 4
      have q5:w8.cell? (Pw w2 5)=some (Jq b'.sent):=CC.out.cell 5
      have q6:w8.cell? (Pw w2 6)=some (.slice b'.Ap b'.pend.length b'.cp):=CC.out.cell 6
      have q7:w8.cell? (Pw w2 7)=some (.slice b'.Am b'.marks.length b'.cm):=CC.out.cell 7
      have q8:w8.cell? (Pw w2 8)=some (.slice b'.Af b'.fls.length b'.cf):=CC.out.cell 8
      have v0:w8.cell? (Pv w2 0)=some (.pointer (some (Pw w2 0))):=BV.out.cell 0
      go_wp2_with fail
      refine(qeN ⟨b',none,0,[],none,0,[]⟩ _ _ _ w8 CC.out hvl hstb hfn2 HVX.out).mono ?_
      rintro en w9 ⟨m9,col9,rfl,hc9,hm9,hs9⟩
      have SE:=hJ (SS.out.trans hs9)
      go_wp2;go_meet
      case rel=>exact⟨m9,col9,hJ hc9,hJ (by rw[hm9,HTF.out];exact(qnp HOB.out HLB.out HMI.out).symm),SE⟩
     | false=>
      have HMI:=hJ hmine
      have q0:w8.cell? (Pw w2 0)=some (Jq b'.self):=CC.out.cell 0
      have q1:w8.cell? (Pw w2 1)=some (.slice b'.Av b'.vs.length b'.cv):=CC.out.cell 1
      have q2:w8.cell? (Pw w2 2)=some (Jq b'.base):=CC.out.cell 2
      have q3:w8.cell? (Pw w2 3)=some (.slice b'.Al b'.log.length b'.cl):=CC.out.cell 3
      have q4:w8.cell? (Pw w2 4)=some (Jq b'.stable):=CC.out.cell 4
      have q5:w8.cell? (Pw w2 5)=some (Jq b'.sent):=CC.out.cell 5
      have q6:w8.cell? (Pw w2 6)=some (.slice b'.Ap b'.pend.length b'.cp):=CC.out.cell 6
      have q7:w8.cell? (Pw w2 7)=some (.slice b'.Am b'.marks.length b'.cm):=CC.out.cell 7
      have q8:w8.cell? (Pw w2 8)=some (.slice b'.Af b'.fls.length b'.cf):=CC.out.cell 8
      have v0:w8.cell? (Pv w2 0)=some (.pointer (some (Pw w2 0))):=BV.out.cell 0
      go_upto_region 5 with fail
      clear v0 q0 q1 q2 q3 q4 q5 q6 q7 q8;refine qac 17 (fun w'=>w'.cell? (Pw w2 0)=some (Jq b'.self)∧w'.cell? (Pw w2 2)=some (Jq b'.base)∧w'.cell? (Pw w2 3)=some (.slice b'.Al b'.log.length b'.cl)∧w'.cell? (Pv w2 0)=some (.pointer (some (Pw w2 0)))) (by kernel_rfl) ⟨(CC.out.ext Ext.drew1).cell 0,(CC.out.ext Ext.drew1).cell 2,(CC.out.ext Ext.drew1).cell 3,(BV.out.ext Ext.drew1).cell 0⟩ (fun hHeld=>?_)
      have hx2:Ext w8 w8.drew:=Ext.drew1
      replace CC:=hJ (CC.out.ext hx2);replace BR:=hJ (BR.out.ext hx2);replace BV:=hJ (BV.out.ext hx2);replace XX:=hJ (XX.out.trans hx2);replace SS:=hJ (SS.out.trans (Stp.ext' (Nat.le_trans CC5.out.Bsz SS.out.size) hx2));clear hx2
      generalize w8.drew=u8 at *
      refine E_t 0 23 ?_;refine E_t 1 24 ?_;refine E_t 2 25 ?_;refine E_t 3 26 ?_;refine E_t 4 27 ?_;refine E_t 5 28 ?_;refine E_t 6 29 ?_;refine E_t 7 30 ?_;refine E_t 8 31 ?_;refine E_t 9 32 ?_;refine E_t 10 33 ?_;refine E_t 11 34 ?_;refine E_t 12 35 ?_;refine E_t 13 36 ?_;refine E_t 14 37 ?_;refine E_t 15 38 ?_;refine E_t 16 39 ?_;refine qbc (by rfl) (by kernel_rfl) ?_
      go_wp2_with fail
      refine(qf9 ⟨b',none,0,[],none,0,[]⟩ _ _ _ b'.self b'.base b'.Al b'.cl b'.log u8 CC.out CC.out.lies.log.row (by omega) (fun e he=>Nat.le_trans (HLP.out e he) (by omega)) (by have:=hfn;show b'.fls.length≤50000;omega)).mono ?_
      rintro en wP ⟨mP,colP,rfl,hcP,hmP,hsP⟩
      have CP:=hJ hcP;have HMP:=hJ hmP
      replace SS:=hJ (SS.out.trans hsP)
      have BVP:=hJ (hsP.bis BV.out (by rw[qbu (Nat.le_refl _)];simp))
      clear hcP hmP hsP;have v0:wP.cell? (Pv w2 0)=some (.pointer (some (Pw w2 0))):=BVP.out.cell 0
      obtain⟨hi1,hi2,hi3,hi4⟩:=qk1 (m:=⟨b',none,0,[],none,0,[]⟩) (by show OkS b'.st;rw[HST.out];exact OK.out) HMP.out (by have:=hfn;show b'.fls.length≤49999;omega) HVX.out
      go_wp2_with fail
      refine(qeN mP _ colP _ wP CP.out hi1 hi2 hi3 hi4).mono ?_
      rintro en w9 ⟨m9,col9,rfl,hc9,hm9,hs9⟩
      have SE:=hJ (SS.out.trans hs9)
      go_wp2;go_meet
      case rel=>exact⟨m9,col9,hJ hc9,hJ (by rw[hm9,HTF.out];exact by rw[HMP.out];exact(qpT HOB.out HLB.out HMI.out).symm),SE⟩
 case rest=>
  obtain⟨m6,col6,hc6',hm6',hs6'⟩:=hcut
  have hc6:=hc6'.out;have hm6:=hm6'.out;have hs6:=hs6'.out
  have S6:=hs6';have hME:Hid (m6.cs=qbM b.st):=hm6'
  clear hc6' hm6' hs6';obtain⟨w6,rfl⟩:∃x,x=wc:=⟨_,rfl⟩
  have v0:True:=trivial
  have hcv8:Hid ((qai (qai col w2.heap.size 1) (w2.heap.size+1) 8) (w.heap.size+1)=8):=hJ (by have h1:=hp12.out;have h2:=hlt2.out;rw[qah (by omega),qah (by omega)];exact HC8.out _ h1)
  have hcvv:Hid ((qai (qai col w2.heap.size 1) (w2.heap.size+1) 8) (w2.heap.size+1)=8):=hJ (qbu (Nat.le_refl _))
  have BRE:=hJ (S6.out.bis BR5.out (by rw[hcv8.out];simp))
  have BVE:=hJ (S6.out.bis BV5.out (by rw[hcvv.out];simp))
  have XE:Hid (Ext w w6):=hJ (Below.trans X6.out (S6.out.below.mono (by have:=hp12.out;omega)))
  have CE:=hJ hc6
  have HCO:Hid (∀k,k<w.heap.size→col6 k=8):=hJ (fun k hk=>(S6.out.hue _ (by have:=X6.out.size;omega)).trans (by have h1:=hp12.out;have h2:=hlt2.out;rw[qah (by omega),qah (by omega)];exact HC8.out _ (by omega)))
  have hc8E:Hid (col6 (w.heap.size+1)=8):=hJ ((S6.out.hue _ BR5.out.lt).trans hcv8.out)
  have hne1:w2.heap.size≠w.heap.size+1:=by have h1:=hp12.out;have h2:=hlt2.out;omega
  have hne2:w2.heap.size+1≠w.heap.size+1:=by have h1:=hp12.out;have h2:=hlt2.out;omega
  have qv:w6.cell? (Pv w2 0)=some (.pointer (some (Pw w2 0))):=BVE.out.cell 0
  have q0:=CE.out.cell 0;have q1:=CE.out.cell 1;have q2:=CE.out.cell 2;have q3:=CE.out.cell 3;have q4:=CE.out.cell 4;have q5:=CE.out.cell 5;have q6:=CE.out.cell 6;have q7:=CE.out.cell 7;have q8:=CE.out.cell 8;have q9:=CE.out.cell 9;have q10:=CE.out.cell 10
  clear hc6 hm6 hs6 v0;obtain⟨⟨self,base,stable,sent,Av,cv,vs,Al,cl,log,Ap,cp,pend,Am,cm,marks,Af,cf,fls⟩,Ak,ck,pk,Ad,cd,dl⟩:=m6
  go_wp2;obtain⟨wE,rfl⟩:∃x,x=w6:=⟨_,rfl⟩
  obtain⟨colE,rfl⟩:∃x,x=col6:=⟨_,rfl⟩
  replace q0:wE.cell? (Pw w2 0)=some (Jq self):=q0
  replace q1:wE.cell? (Pw w2 1)=some (.slice Av vs.length cv):=q1
  replace q2:wE.cell? (Pw w2 2)=some (Jq base):=q2
  replace q3:wE.cell? (Pw w2 3)=some (.slice Al log.length cl):=q3
  replace q4:wE.cell? (Pw w2 4)=some (Jq stable):=q4
  replace q5:wE.cell? (Pw w2 5)=some (Jq sent):=q5
  replace q6:wE.cell? (Pw w2 6)=some (.slice Ap pend.length cp):=q6
  replace q7:wE.cell? (Pw w2 7)=some (.slice Am marks.length cm):=q7
  replace q8:wE.cell? (Pw w2 8)=some (.slice Af fls.length cf):=q8
  replace q9:wE.cell? (Pw w2 9)=some (.slice Ak pk.length ck):=q9
  replace q10:wE.cell? (Pw w2 10)=some (.slice Ad dl.length cd):=q10
  obtain⟨y0,y1,y2,y3,y4,y5,y6,y7,y8⟩:=qbC BRE.out
  obtain⟨z0,z1,z2,z3,z4,z5,z6,z7,z8⟩:=BRE.out.free9
  refine qac 15 (fun w'=>w'.cell? (Pw w2 0)=some (Jq self)∧w'.cell? (Pw w2 1)=some (.slice Av vs.length cv)∧w'.cell? (Pw w2 2)=some (Jq base)∧w'.cell? (Pw w2 3)=some (.slice Al log.length cl)∧w'.cell? (Pw w2 4)=some (Jq stable)∧w'.cell? (Pw w2 5)=some (Jq sent)∧w'.cell? (Pw w2 6)=some (.slice Ap pend.length cp)∧w'.cell? (Pw w2 7)=some (.slice Am marks.length cm)∧w'.cell? (Pw w2 8)=some (.slice Af fls.length cf)∧w'.cell? (Pw w2 9)=some (.slice Ak pk.length ck)∧w'.cell? (Pw w2 10)=some (.slice Ad dl.length cd)∧w'.cell? (Pv w2 0)=some (.pointer (some (Pw w2 0)))) (by kernel_rfl) ⟨by simpa using q0,by simpa using q1,by simpa using q2,by simpa using q3,by simpa using q4,by simpa using q5,by simpa using q6,by simpa using q7,by simpa using q8,by simpa using q9,by simpa using q10,by simpa using qv⟩ (fun hHeld=>?_)
  refine E_t 0 104 ?_;refine E_t 1 105 ?_;refine E_t 2 106 ?_;refine E_t 3 107 ?_;refine E_t 4 108 ?_;refine E_t 5 109 ?_;refine E_t 6 110 ?_;refine E_t 7 111 ?_;refine E_t 8 112 ?_;refine E_t 9 113 ?_;refine E_t 10 114 ?_;refine E_t 11 115 ?_;refine E_r 12 none fun K hK=>?_
  go_simp;clear hHeld;refine hK.out _ _ ⟨(qaV hne1).trans q0,(qaV hne1).trans q1,(qaV hne1).trans q2,(qaV hne1).trans q3,(qaV hne1).trans q4,(qaV hne1).trans q5,(qaV hne1).trans q6,(qaV hne1).trans q7,(qaV hne1).trans q8,(qaV hne1).trans q9,(qaV hne1).trans q10,(qaV hne2).trans qv⟩ (fun hHeld=>?_)
  clear hK K;try simp only[Act.put,aP1,aP2,aP3]
  refine E_t 13 3 ?_;refine E_t 14 4 ?_;refine qaE (by kernel_rfl) (by rfl) ?_
  go_wp2;have BF:Hid (BIs (((((((((wE.setCell (Pv w 0) (Jq self)).setCell (Pv w 1) (.slice Av vs.length cv)).setCell (Pv w 2) (Jq base)).setCell (Pv w 3) (.slice Al log.length cl)).setCell (Pv w 4) (Jq stable)).setCell (Pv w 5) (Jq sent)).setCell (Pv w 6) (.slice Ap pend.length cp)).setCell (Pv w 7) (.slice Am marks.length cm)).setCell (Pv w 8) (.slice Af fls.length cf)).drew (w.heap.size+1) #[Jq self,.slice Av vs.length cv,Jq base,.slice Al log.length cl,Jq stable,Jq sent,.slice Ap pend.length cp,.slice Am marks.length cm,.slice Af fls.length cf] 28):=hJ ((qaJ BRE.out).ext Ext.drew1)
  have XFF:Hid (Ext w (((((((((wE.setCell (Pv w 0) (Jq self)).setCell (Pv w 1) (.slice Av vs.length cv)).setCell (Pv w 2) (Jq base)).setCell (Pv w 3) (.slice Al log.length cl)).setCell (Pv w 4) (Jq stable)).setCell (Pv w 5) (Jq sent)).setCell (Pv w 6) (.slice Ap pend.length cp)).setCell (Pv w 7) (.slice Am marks.length cm)).setCell (Pv w 8) (.slice Af fls.length cf)).drew):=hJ ((qak.ext XE.out (by omega)).trans Ext.drew1)
  have SF:Hid (Stp w.heap.size [8] colE wE colE (((((((((wE.setCell (Pv w 0) (Jq self)).setCell (Pv w 1) (.slice Av vs.length cv)).setCell (Pv w 2) (Jq base)).setCell (Pv w 3) (.slice Al log.length cl)).setCell (Pv w 4) (Jq stable)).setCell (Pv w 5) (Jq sent)).setCell (Pv w 6) (.slice Ap pend.length cp)).setCell (Pv w 7) (.slice Am marks.length cm)).setCell (Pv w 8) (.slice Af fls.length cf)).drew):=hJ ((Stp.wrote qak (by omega) (by have:=XE.out.size;omega) (by rw[hc8E.out];simp)).trans (Stp.ext' (by rw[show ((((((((((wE.setCell (Pv w 0) (Jq self)).setCell (Pv w 1) (.slice Av vs.length cv)).setCell (Pv w 2) (Jq base)).setCell (Pv w 3) (.slice Al log.length cl)).setCell (Pv w 4) (Jq stable)).setCell (Pv w 5) (Jq sent)).setCell (Pv w 6) (.slice Ap pend.length cp)).setCell (Pv w 7) (.slice Am marks.length cm)).setCell (Pv w 8) (.slice Af fls.length cf))).heap.size=wE.heap.size by simp[World.setCell]];have:=XE.out.size;omega) Ext.drew1))
  generalize (((((((((wE.setCell (Pv w 0) (Jq self)).setCell (Pv w 1) (.slice Av vs.length cv)).setCell (Pv w 2) (Jq base)).setCell (Pv w 3) (.slice Al log.length cl)).setCell (Pv w 4) (Jq stable)).setCell (Pv w 5) (Jq sent)).setCell (Pv w 6) (.slice Ap pend.length cp)).setCell (Pv w 7) (.slice Am marks.length cm)).setCell (Pv w 8) (.slice Af fls.length cf)).drew=W at *
  obtain⟨e0,e1,e2,e3,e4,e5,e6,e7,e8⟩:=qbC BF.out
  refine bodyPost_ret (v:=.tuple #[.agg #[Jq self,.slice Av vs.length cv,Jq base,.slice Al log.length cl,Jq stable,Jq sent,.slice Ap pend.length cp,.slice Am marks.length cm,.slice Af fls.length cf],.slice Ak pk.length ck,.slice Ad dl.length cd]) (by simp[results,Tryz.results14,go_sem,e0,e1,e2,e3,e4,e5,e6,e7,e8]) rfl ?_
  exact qp7 CE.out SF.out hME.out XFF.out (fun k hk=>HCO.out k hk)
end Go.Proofs.YtponbabbabnaeaaGreat
