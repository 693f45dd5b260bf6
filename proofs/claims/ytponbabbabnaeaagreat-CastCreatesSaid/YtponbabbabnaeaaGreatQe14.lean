/- Part 14 of the proof: contracts of functions that the statement reaches. Conditions: as each theorem says. -/
import Derived.Test.YtponbabbabnaeaaGreatQe01
import Derived.Test.YtponbabbabnaeaaGreatQe13
import Derived.Test.YtponbabbabnaeaaGreatQe12
set_option maxRecDepth 100000
namespace Go.Proofs.YtponbabbabnaeaaGreat
open Go.RowKit
theorem qhG {P : Prop} (h : P := by
 go_wp2;(try simp only[Exit.inBlock,Exit.then]);refine bodyPost_ret (results_none rfl _ _ _) rfl ?_
 rw[HR.out]
 exact DONE.out _ XE.out) : P := h
theorem qh0(A A':Option Addr)(c c' k k':Nat)(xs ys:List Ent)(w:World)(h:Row w A (qaz.cells xs))(h':Row w A' (qaz.cells ys))(hn:xs.length≤1000000000)(hk:k=xs.length)(hk':k'=ys.length) :
  Calls Tryz.prog 179 #[.slice A k c,.slice A' k' c'] w fun e w'=>e=.returned (.bool (qes xs ys))∧Still w w':=by subst hk hk';exact qhC A A' c c' xs ys w h h' hn
abbrev qoK(m:Msg)(A:Option Addr)(c:Nat):Value:=.agg #[.int .i64 m.kind,.int .i64 m.num,.int .i64 m.first,.int .i64 m.stable,.string (qax m.pay),.slice A m.ents.length c]
theorem qdZ(c:Cs)(kind num:Int)(fi:Nat)(mst:Int)(pay:List UInt8)(ents:List Ent):qaM c ⟨kind,num,(fi:Int),mst,pay,ents⟩ =
  if c.s.log.length<fi then c else if (c.s.log.drop fi).take (min (c.s.log.length - fi) ents.length)≠ents.take (min (c.s.log.length - fi) ents.length) then c
  else if (ents.drop (min (c.s.log.length - fi) ents.length)).any (fun e=>decide (e.v≠c.s.base)||decide (e.o=0)) then c
  else if qaw (c.s.log++ents.drop (min (c.s.log.length - fi) ents.length))=false∨c.s.sent<qay (c.s.log++ents.drop (min (c.s.log.length - fi) ents.length)) c.s.self then c
  else raiseF {c with s:={c.s with log:=c.s.log++ents.drop (min (c.s.log.length - fi) ents.length)}} (min mst (c.s.log++ents.drop (min (c.s.log.length - fi) ents.length)).length):=by
 unfold qaM qcG
 simp only[Int.toNat_natCast,Int.ofNat_lt]
theorem qqi{s:St}(h:OkS s){l:List Ent}(x:List Ent)(hx:l=s.log++x)(hl:l.length≤2000)(hp:∀e∈l,e.p.length≤6000)(ho:(qay l s.self:Int)≤s.sent):OkS {s with log:=l}:=by
 refine⟨h.vs,h.st0,?_,ho,h.sent,?_,h.pn,hl,hp,h.pp,fun y hy=>⟨(h.mks y hy).1,?_⟩,h.mem⟩
 ·have:=h.st1;show s.stable≤(l.length:Int);rw[hx,List.length_append];omega
 ·show (s.pend.length:Int)=s.sent - qay (l.take s.stable.toNat) s.self
  have h1:=h.st1;have h2:=h.st0
  rw[hx,List.take_append_of_le_length (by omega)]
  exact h.pend
 ·have:=(h.mks y hy).2;show y.2≤(l.length:Int);rw[hx,List.length_append];omega
set_option maxHeartbeats 1000000 in
theorem qiY(m:CM)(B:Nat)(col:Nat→Nat)(p:Nat)(msg:Msg)(Ae:Option Addr)(ce:Nat)(w:World)(h:CS w B col p m)(ok:OkS m.b.st)(hr:Row w Ae (qaz.cells msg.ents))(hce:msg.ents.length≤ce)(hel:msg.ents.length≤2000)(hep:∀e∈msg.ents,e.p.length≤6000)(hfi:0≤msg.first)(hf40:msg.first≤1099511627776)(hdl:m.dl.length≤100000) :
  Calls Tryz.prog 143 #[.pointer (some (Pq p 0)),qoK msg Ae ce] w (qhw B col p w (qaM m.cs msg)):=by
 obtain⟨kind,num,first,mst,pay,ents⟩:=msg
 simp only at hr hce hel hep hfi hf40
 obtain⟨fi,rfl⟩:∃fi:Nat,first=(fi:Int):=⟨first.toNat,by omega⟩
 have H:=hJ h;have OK:=hJ ok;have HER:=hJ hr;have HEP:=hJ hep
 have E0:Hid (Ext w (w.alloc (.cells #[Jq kind,Jq num,Jq (fi:Int),Jq mst,.string (qax pay),.slice Ae ents.length ce] 110))):=hJ (Ext.new _ _)
 have hp0:p<(w.alloc (.cells #[Jq kind,Jq num,Jq (fi:Int),Jq mst,.string (qax pay),.slice Ae ents.length ce] 110)).heap.size:=by have:=h.lt;simp only[World.alloc,Array.size_push];omega
 have hb0:w.heap.size<(w.alloc (.cells #[Jq kind,Jq num,Jq (fi:Int),Jq mst,.string (qax pay),.slice Ae ents.length ce] 110)).heap.size:=by simp
 have HP0:=hJ hp0;have HB0:=hJ hb0
 have C0:=hJ (H.out.ext E0.out)
 have p0:=C0.out.cell 0;have p2:=C0.out.cell 2;have p3:=C0.out.cell 3;have p5:=C0.out.cell 5
 have hfl:=ok.log
 have hfc:=h.fits.cl
 have HL:=hJ h.lies.log.row
 clear h ok hr hep hfi;obtain⟨MM,hMM⟩:∃y,y=m:=⟨_,rfl⟩
 have HMM:=hJ hMM
 rw[←hMM] at H OK C0⊢
 clear hMM;obtain⟨⟨self,base,stable,sent,Av,cv,vs,Al,cl,log,Ap,cp,pend,Am,cm,marks,Af,cf,fls⟩,Ak,ck,pk,Ad,cd,dl⟩:=m
 simp only[BM.st] at hfl hfc HL hdl
 replace p0:(w.alloc (.cells #[Jq kind,Jq num,Jq (fi:Int),Jq mst,.string (qax pay),.slice Ae ents.length ce] 110)).cell? (Pq p 0)=some (Jq self):=p0
 replace p2:(w.alloc (.cells #[Jq kind,Jq num,Jq (fi:Int),Jq mst,.string (qax pay),.slice Ae ents.length ce] 110)).cell? (Pq p 2)=some (Jq base):=p2
 replace p3:(w.alloc (.cells #[Jq kind,Jq num,Jq (fi:Int),Jq mst,.string (qax pay),.slice Ae ents.length ce] 110)).cell? (Pq p 3)=some (.slice Al log.length cl):=p3
 replace p5:(w.alloc (.cells #[Jq kind,Jq num,Jq (fi:Int),Jq mst,.string (qax pay),.slice Ae ents.length ce] 110)).cell? (Pq p 5)=some (Jq sent):=p5
 have hcs:Hid (MM.cs.s=⟨self,vws vs,base,log,stable,sent,pend,marks,fls.map FlM.v⟩):=hJ (by rw[HMM.out];rfl)
 have b2:(w.alloc (.cells #[Jq kind,Jq num,Jq (fi:Int),Jq mst,.string (qax pay),.slice Ae ents.length ce] 110)).cell? (Pw w 2)=some (Jq (fi:Int)):=(BIs.new w _ _).cell 2
 have b3:(w.alloc (.cells #[Jq kind,Jq num,Jq (fi:Int),Jq mst,.string (qax pay),.slice Ae ents.length ce] 110)).cell? (Pw w 3)=some (Jq mst):=(BIs.new w _ _).cell 3
 have b5:(w.alloc (.cells #[Jq kind,Jq num,Jq (fi:Int),Jq mst,.string (qax pay),.slice Ae ents.length ce] 110)).cell? (Pw w 5)=some (.slice Ae ents.length ce):=(BIs.new w _ _).cell 5
 have DONE:Hid (∀w',Ext w w'→qhw B col p w MM.cs (.returned (.tuple #[])) w'):=hJ (fun w' hx=>⟨MM,col,rfl,H.out.ext hx,rfl,Stp.ext' H.out.Bsz hx⟩)
 by_cases h1:log.length<fi
 ·have HR:Hid (qaM MM.cs ⟨kind,num,(fi:Int),mst,pay,ents⟩=MM.cs):=hJ (by rw[qdZ,hcs.out];exact if_pos h1)
  have hd:decide ((log.length:Int)<(fi:Int))=true:=by simp;omega
  go_enter Tryz.func143,Tryz.ntmps143
  go_wp2;refine qac 9 (fun w'=>Cq w' p 3 (.slice Al log.length cl)∧w'.cell? (Pw w 2)=some (Jq (fi:Int))) (by kernel_rfl) ⟨p3,b2⟩ (fun hHeld=>?_)
  refine E_t 0 8 ?_;refine E_t 1 9 ?_;refine E_t 2 10 ?_;refine E_t 3 11 ?_;refine E_t 4 12 ?_;refine E_t 5 13 ?_;refine E_t 6 14 ?_;refine E_t 7 15 ?_;refine E_t 8 16 ?_;refine qaE (by kernel_rfl) (by rfl) ?_
  go_wp2;(try simp only[Exit.inBlock,Exit.then]);refine bodyPost_ret (results_none rfl _ _ _) rfl ?_
  rw[HR.out]
  exact DONE.out _ (E0.out.trans (Ext.refl _).drew)
 ·obtain⟨both,hboth⟩:∃k,k=min (log.length - fi) ents.length:=⟨_,rfl⟩
  have HB:=hJ hboth
  have hb1:both≤ents.length∧fi+both≤log.length:=by omega
  have hd0:decide ((log.length:Int)<(fi:Int))=false:=by simp;omega
  have hwsub:IntKind.i64.wrap ((log.length:Int) - (fi:Int))=(log.length:Int) - (fi:Int):=IntWalk.i64_in _ (by omega)
  have hmin:min ((log.length:Int) - (fi:Int)) (ents.length:Int)=(both:Int):=by omega
  have hwadd:IntKind.i64.wrap ((fi:Int)+(both:Int))=(fi:Int)+(both:Int):=IntWalk.i64_in _ (by omega)
  have hsl1:∀W,(Instr.slice 23 (.slice Al log.length cl) (some (Jq (fi:Int))) (some (Jq ((fi:Int)+(both:Int)))) none).run Tryz.prog W=.ok (.slice (qcB Al fi cl 4) both (cl - fi)) W:=fun W=>by
   have:=qaz.slice_lh Al log.length cl fi (fi+both) (fi:Int) ((fi:Int)+(both:Int)) rfl (by omega) (by omega) (by omega) W
   rw[show fi+both - fi=both by omega] at this;exact this
  have hsl2:∀W,(Instr.slice 23 (.slice Ae ents.length ce) none (some (Jq (both:Int))) none).run Tryz.prog W=.ok (.slice Ae both ce) W:=fun W=>qaz.slice_h Ae ents.length ce both _ rfl (by omega) W
  have hsl3:∀W,(Instr.slice 23 (.slice Ae ents.length ce) (some (Jq (both:Int))) none none).run Tryz.prog W=.ok (.slice (qcB Ae both ce 4) (ents.length - both) (ce - both)) W:=fun W=>qaz.slice_l Ae ents.length ce both _ rfl (by omega) W
  have HR1:Hid (Row (w.alloc (.cells #[Jq kind,Jq num,Jq (fi:Int),Jq mst,.string (qax pay),.slice Ae ents.length ce] 110)) (qcB Al fi cl 4) (qaz.cells ((log.take (fi+both)).drop fi))):=hJ (Elem.row_sub (HL.out.ext E0.out) (by omega) fi (fi+both))
  have HR2:Hid (Row (w.alloc (.cells #[Jq kind,Jq num,Jq (fi:Int),Jq mst,.string (qax pay),.slice Ae ents.length ce] 110)) Ae (qaz.cells (ents.take both))):=hJ (Elem.row_upto (HER.out.ext E0.out) both)
  have hcut:(log.take (fi+both)).drop fi=(log.drop fi).take both:=by rw[List.drop_take];congr 1;omega
  clear hboth;by_cases h2:(log.drop fi).take both=ents.take both
  ·have hsm:Hid (qes ((log.take (fi+both)).drop fi) (ents.take both)=true):=hJ (by unfold qes;rw[hcut];exact decide_eq_true h2)
   obtain⟨tl,htl⟩:∃l,l=ents.drop both:=⟨_,rfl⟩
   have HTL:=hJ htl
   obtain⟨nt,hnt⟩:∃k,k=ents.length - both:=⟨_,rfl⟩
   have HNT:Hid (nt=tl.length∧nt≤2000):=hJ ⟨by rw[hnt,htl,List.length_drop],by omega⟩
   obtain⟨At,hAt⟩:∃a,a=qcB Ae both ce 4:=⟨_,rfl⟩
   have HRT:Hid (Row (w.alloc (.cells #[Jq kind,Jq num,Jq (fi:Int),Jq mst,.string (qax pay),.slice Ae ents.length ce] 110)) At (qaz.cells tl)):=hJ (by rw[hAt,htl];exact Elem.row_from (HER.out.ext E0.out) hce both)
   rw[←hAt,←hnt] at hsl3
   have HAP:Hid (qaM MM.cs ⟨kind,num,(fi:Int),mst,pay,ents⟩=if tl.any (fun e=>decide (e.v≠base)||decide (e.o=0)) then MM.cs else if qaw (log++tl)=false∨sent<qay (log++tl) self then MM.cs else raiseF {MM.cs with s:={MM.cs.s with log:=log++tl}} (min mst (log++tl).length)):=hJ (by
    rw[qdZ,hcs.out];simp only;rw[if_neg h1,←HB.out,if_neg (by simpa using h2),←htl])
   have hnt2:nt≤2000:=HNT.out.2
   clear htl hnt hAt hcut h2;go_enter Tryz.func143,Tryz.ntmps143
   go_wp2;refine qac 9 (fun w'=>Cq w' p 3 (.slice Al log.length cl)∧w'.cell? (Pw w 2)=some (Jq (fi:Int))) (by kernel_rfl) ⟨p3,b2⟩ (fun hHeld=>?_)
   refine E_t 0 8 ?_;refine E_t 1 9 ?_;refine E_t 2 10 ?_;refine E_t 3 11 ?_;refine E_t 4 12 ?_;refine E_t 5 13 ?_;refine E_t 6 14 ?_;refine E_t 7 15 ?_;refine E_t 8 16 ?_;refine qaE (by kernel_rfl) (by rfl) ?_
   go_wp2;refine qac 14 (fun w'=>Cq w' p 3 (.slice Al log.length cl)∧w'.cell? (Pw w 2)=some (Jq (fi:Int))∧w'.cell? (Pw w 5)=some (.slice Ae ents.length ce)) (by kernel_rfl) ⟨p3,b2,b5⟩ (fun hHeld=>?_)
   refine E_t 0 17 ?_;refine E_t 1 18 ?_;refine E_t 2 19 ?_;refine E_t 3 20 ?_;refine E_t 4 21 ?_;refine E_t 5 22 ?_;refine E_t 6 23 ?_;refine E_t 7 24 ?_;refine E_t 8 25 ?_;refine E_t 9 26 ?_;refine E_t 10 27 ?_;refine E_t 11 28 ?_;refine E_t 12 29 ?_;refine E_t 13 4 ?_;refine qaE (by kernel_rfl) (by rfl) ?_
   go_wp2;refine qac 18 (fun w'=>Cq w' p 3 (.slice Al log.length cl)∧w'.cell? (Pw w 2)=some (Jq (fi:Int))∧w'.cell? (Pw w 5)=some (.slice Ae ents.length ce)) (by kernel_rfl) ⟨p3,b2,b5⟩ (fun hHeld=>?_)
   refine E_t 0 30 ?_;refine E_t 1 31 ?_;refine E_t 2 32 ?_;refine E_t 3 33 ?_;refine E_t 4 34 ?_;refine E_t 5 35 ?_;refine E_t 6 36 ?_;refine E_t 7 37 ?_;refine E_t 8 38 ?_;refine E_t 9 39 ?_;refine E_t 10 40 ?_;refine E_t 11 41 ?_;refine E_t 12 42 ?_;refine E_t 13 43 ?_;refine E_t 14 44 ?_;refine E_t 15 45 ?_;refine E_r 16 (some 46) fun K hK=>?_
   go_simp;go_at_call 179;refine(qh0 (qcB Al fi cl 4) Ae (cl - fi) ce both both ((log.take (fi+both)).drop fi) (ents.take both) _ (by exact HR1.out.ext ((Ext.refl _).drew.drew.drew)) (by exact HR2.out.ext ((Ext.refl _).drew.drew.drew)) (by rw[List.length_drop,List.length_take];omega) (by rw[List.length_drop,List.length_take];omega) (by rw[List.length_take];omega)).mono ?_
   rintro en w3 ⟨rfl,hx3⟩
   have X3:Hid (Ext (w.alloc (.cells #[Jq kind,Jq num,Jq (fi:Int),Jq mst,.string (qax pay),.slice Ae ents.length ce] 110)) w3):=hJ ((Ext.refl _).drew.drew.drew.trans hx3.ext)
   clear hx3;have r3:w3.cell? (Pq p 3)=some (.slice Al log.length cl):=by rw[X3.out.cell (by exact hp0)];exact p3
   have s2:w3.cell? (Pw w 2)=some (Jq (fi:Int)):=by rw[X3.out.cell (by exact hb0)];exact b2
   have s5:w3.cell? (Pw w 5)=some (.slice Ae ents.length ce):=by rw[X3.out.cell (by exact hb0)];exact b5
   clear hHeld;refine hK.out _ _ ⟨r3,s2,s5⟩ (fun hHeld=>?_)
   clear hK K;try simp only[Act.put,aP1,aP2,aP3]
   refine E_t 17 47 ?_;refine qaE (by kernel_rfl) (by rfl) ?_
   rw[hsm.out]
   have hp3:p<w3.heap.size:=Nat.lt_of_lt_of_le HP0.out X3.out.size
   have hb3:w.heap.size<w3.heap.size:=Nat.lt_of_lt_of_le HB0.out X3.out.size
   have HRT3:=hJ (HRT.out.ext X3.out)
   have XW3:Hid (Ext w w3):=hJ (E0.out.trans X3.out)
   have P2:Hid (w3.cell? (Pq p 2)=some (Jq base)):=hJ (by rw[X3.out.cell (by exact hp0)];exact p2)
   have P0:Hid (w3.cell? (Pq p 0)=some (Jq self)):=hJ (by rw[X3.out.cell (by exact hp0)];exact p0)
   have P5:Hid (w3.cell? (Pq p 5)=some (Jq sent)):=hJ (by rw[X3.out.cell (by exact hp0)];exact p5)
   have P3:Hid (w3.cell? (Pq p 3)=some (.slice Al log.length cl)):=hJ r3
   have B3:Hid (w3.cell? (Pw w 3)=some (Jq mst)):=hJ (by rw[X3.out.cell (by exact hb0)];exact b3)
   have B5:Hid (w3.cell? (Pw w 5)=some (.slice Ae ents.length ce)):=hJ s5
   have HL3:Hid (Row w3 Al (qaz.cells log)):=hJ ((HL.out.ext E0.out).ext X3.out)
   go_wp2;clear hHeld p0 p2 p3 p5 b2 b3 b5 r3 s2 s5 hwsub hmin hwadd hsl1 hsl2 hd0;go_loopw [53] (fun i wr=>∃(k:Nat),k≤nt∧i=Jq k∧Hid (∀i e,i<k→tl[i]?=some e→e.v=base∧e.o≠0)∧Hid (Ext w3 wr)) (fun i _=>nt - (intOf i).toNat)
   case atStart=>exact⟨0,Nat.zero_le _,rfl,hJ (fun i e hi=>absurd hi (Nat.not_lt_zero _)),hJ ((Ext.refl _))⟩
   case round=>
    obtain⟨k,hk,rfl,HALL,HX⟩:=hrel
    have hpr:p<wr.heap.size:=by have:=HX.out.size;omega
    have hbr:w.heap.size<wr.heap.size:=by have:=HX.out.size;omega
    by_cases hlt:k<nt
    ·obtain⟨bb,off,e,rfl,hbb,c0,c1,c2,c3,HE⟩:=qbG (HRT3.out.ext HX.out) (show k<tl.length by have:=HNT.out;omega)
     have t2:wr.cell? (Pq p 2)=some (Jq base):=by rw[HX.out.cell (by exact hp3)];exact P2.out
     have XE:Hid (Ext w (wr.alloc (.cells #[Jq e.v,Jq e.o,Jq e.q,.string (qax e.p)] 66)).drew):=hJ (((XW3.out.trans HX.out).trans (Ext.new _ _)).trans Ext.drew1)
     by_cases hev:e.v=base
     ·have hd:(e.v != base)=false:=by simpa using hev
      by_cases heo:e.o=0
      ·have hd2:(e.o == 0)=true:=by simpa using heo
       have HR:Hid (qaM MM.cs ⟨kind,num,(fi:Int),mst,pay,ents⟩=MM.cs):=hJ (by rw[HAP.out,if_pos (List.any_eq_true.2 ⟨e,List.mem_of_getElem? HE.out,by simp[heo]⟩)])
       clear hev heo;go_wp2;refine qac 13 (fun w'=>w'.cell? (Pq p 2)=some (Jq base)∧w'.cell? (Pw wr 0)=some (Jq e.v)∧w'.cell? (Pw wr 1)=some (Jq e.o)) (by kernel_rfl) ⟨(qag hpr).trans t2,by simp,by simp⟩ (fun hHeld=>?_)
       refine E_t 0 57 ?_;refine E_t 1 58 ?_;refine E_t 2 59 ?_;refine E_t 3 60 ?_;refine E_t 4 61 ?_;refine E_t 5 62 ?_;refine E_t 6 63 ?_;refine E_t 7 64 ?_;refine E_t 8 65 ?_;refine E_t 9 66 ?_;refine E_t 10 67 ?_;refine E_t 11 68 ?_;refine E_t 12 69 ?_;refine qaE (by kernel_rfl) (by rfl) ?_
       exact qhG
      ·have hd2:(e.o == 0)=false:=by simpa using heo
       have HALL':Hid (∀i e,i<k+1→tl[i]?=some e→e.v=base∧e.o≠0):=hJ (fun i e' hi he'=>by
        rcases Nat.lt_or_ge i k with h|h
        ·exact HALL.out i e' h he'
        ·have:i=k:=by omega
         subst this
         rw[HE.out] at he';cases he';exact⟨hev,heo⟩)
       clear hev heo;go_wp2;refine qac 13 (fun w'=>w'.cell? (Pq p 2)=some (Jq base)∧w'.cell? (Pw wr 0)=some (Jq e.v)∧w'.cell? (Pw wr 1)=some (Jq e.o)) (by kernel_rfl) ⟨(qag hpr).trans t2,by simp,by simp⟩ (fun hHeld=>?_)
       refine E_t 0 57 ?_;refine E_t 1 58 ?_;refine E_t 2 59 ?_;refine E_t 3 60 ?_;refine E_t 4 61 ?_;refine E_t 5 62 ?_;refine E_t 6 63 ?_;refine E_t 7 64 ?_;refine E_t 8 65 ?_;refine E_t 9 66 ?_;refine E_t 10 67 ?_;refine E_t 11 68 ?_;refine E_t 12 69 ?_;refine qaE (by kernel_rfl) (by rfl) ?_
       go_wp2;go_roundw
       case rel=>exact⟨k+1,by omega,by go_num,HALL',hJ ((HX.out.trans (Ext.new _ _)).trans Ext.drew1)⟩
       case measure=>simp[intOf];omega
     ·have hd:(e.v != base)=true:=by simpa using hev
      have HR:Hid (qaM MM.cs ⟨kind,num,(fi:Int),mst,pay,ents⟩=MM.cs):=hJ (by rw[HAP.out,if_pos (List.any_eq_true.2 ⟨e,List.mem_of_getElem? HE.out,by simp[hev]⟩)])
      clear hev;go_wp2;refine qac 13 (fun w'=>w'.cell? (Pq p 2)=some (Jq base)∧w'.cell? (Pw wr 0)=some (Jq e.v)∧w'.cell? (Pw wr 1)=some (Jq e.o)) (by kernel_rfl) ⟨(qag hpr).trans t2,by simp,by simp⟩ (fun hHeld=>?_)
      refine E_t 0 57 ?_;refine E_t 1 58 ?_;refine E_t 2 59 ?_;refine E_t 3 60 ?_;refine E_t 4 61 ?_;refine E_t 5 62 ?_;refine E_t 6 63 ?_;refine E_t 7 64 ?_;refine E_t 8 65 ?_;refine E_s 9 66 ?_;refine E_s 10 67 ?_;refine E_s 11 68 ?_;refine E_t 12 69 ?_;refine qaE (by kernel_rfl) (by rfl) ?_
      exact qhG
    ·have hkn:k=nt:=by omega
     have hany:tl.any (fun e=>decide (e.v≠base)||decide (e.o=0))=false:=by
      rw[List.any_eq_false]
      intro e he
      obtain⟨i,hi,rfl⟩:=List.mem_iff_getElem.1 he
      have:=HALL.out i _ (by have:=HNT.out;omega) (List.getElem?_eq_getElem hi)
      simp[this.1,this.2]
     obtain⟨ND,hnd⟩:∃l,l=log++tl:=⟨_,rfl⟩
     have HND:=hJ hnd
     have HAP2:Hid (qaM MM.cs ⟨kind,num,(fi:Int),mst,pay,ents⟩=if qaw ND=false∨sent<qay ND self then MM.cs else raiseF {MM.cs with s:={MM.cs.s with log:=ND}} (min mst ND.length)):=hJ (by rw[HAP.out,if_neg (by rw[hany];simp),←hnd])
     have HNP6:Hid (∀e∈ND,e.p.length≤6000):=hJ (fun e he=>by
      rw[HND.out] at he
      rcases List.mem_append.1 he with he|he
      ·have:=OK.out.lp;rw[HMM.out] at this;exact this e he
      ·rw[HTL.out] at he;exact HEP.out e (List.mem_of_mem_drop he))
     have HNP:Hid (∀e∈ND,e.p.length≤1000000):=hJ (fun e he=>by have:=HNP6.out e he;omega)
     have hndl:Hid (ND.length=log.length+nt):=hJ (by rw[hnd,List.length_append];have:=HNT.out;omega)
     have t3:wr.cell? (Pq p 3)=some (.slice Al log.length cl):=by rw[HX.out.cell (by exact hp3)];exact P3.out
     have v5:wr.cell? (Pw w 5)=some (.slice Ae ents.length ce):=by rw[HX.out.cell (by exact hb3)];exact B5.out
     have HLRr:=hJ (HL3.out.ext HX.out)
     have HRTr:=hJ (HRT3.out.ext HX.out)
     clear hnd hany hkn;go_wp2;refine qac 10 (fun w'=>Cq w' p 3 (.slice Al log.length cl)∧w'.cell? (Pw w 5)=some (.slice Ae ents.length ce)) (by kernel_rfl) ⟨t3,v5⟩ (fun hHeld=>?_)
     refine E_t 0 71 ?_;refine E_t 1 72 ?_;refine E_t 2 73 ?_;refine E_t 3 74 ?_;refine E_t 4 75 ?_;refine E_t 6 77 ?_;refine E_t 7 78 ?_;refine E_t 8 79 ?_;refine E_t 9 80 ?_;refine E_r 5 (some 76) fun K hK=>?_
     go_simp;go_at_call 108;refine(qdF Al cl log _ (qhe (HLRr.out.ext Ext.drew1)) (by omega)).mono ?_
     rintro en w4 ⟨A4,c4,rfl,h41,h42,ho4,hx4⟩
     have X4:Hid (Ext wr w4):=hJ (Ext.drew1.trans hx4)
     have HO4:Hid (qaz.OB w4 wr.heap.size (.slice A4 log.length c4) log):=hJ ho4
     clear ho4 hx4;have r3:w4.cell? (Pq p 3)=some (.slice Al log.length cl):=by rw[X4.out.cell (by exact hpr)];exact t3
     have s5:w4.cell? (Pw w 5)=some (.slice Ae ents.length ce):=by rw[X4.out.cell (by exact hbr)];exact v5
     clear hHeld;refine hK.out _ _ ⟨r3,s5⟩ (fun hHeld=>?_)
     clear hK K;try simp only[Act.put,aP1,aP2,aP3]
     refine qbc (by rfl) (by kernel_rfl) ?_
     simp only[List.drop_succ_cons,List.drop_zero]
     go_wp2_with (first
      | (at_builtin;refine qcd qaz rfl (.tmp 76) (.tmp 80) rfl _ wr.heap.size _ log (by rfl) _ _ _ tl (by rfl) HNT.out.1 (by exact HRTr.out.ext X4.out) HO4.out qfr (by have:=HNT.out;omega) (by exact X4.out.size) ?_;intro v5' w5 ho5 hg5 hs5;rw[←HND.out] at ho5;obtain⟨A5,c5,rfl,h51,h52,_⟩:=ho5.slice;have X5:Hid (Ext wr w5):=hJ (hg5.below X4.out X4.out.size (fun k hk=>(HO4.out.1.lt k hk).1));have HO5:Hid (qaz.Own w5 wr.heap.size (.slice A5 ND.length c5) ND):=hJ ho5.1))
     have HNR:Hid (Row w5 A5 (qaz.cells ND)):=hJ HO5.out.row
     have hp5:p<w5.heap.size:=by have:=X5.out.size;omega
     have e0:w5.cell? (Pq p 0)=some (Jq self):=by rw[X5.out.cell (by exact hpr),HX.out.cell (by exact hp3)];exact P0.out
     have e5:w5.cell? (Pq p 5)=some (Jq sent):=by rw[X5.out.cell (by exact hpr),HX.out.cell (by exact hp3)];exact P5.out
     have hndn:ND.length≤1000000000:=by have:=hndl.out;have:=HNT.out;omega
     have XW5:Hid (Ext w w5):=hJ ((XW3.out.trans HX.out).trans X5.out)
     clear ho5 hg5 hs5 hHeld r3 s5 t3 v5;cases hvl:qaw ND with
     | false=>
      have HVL:=hJ hvl
      have HR:Hid (qaM MM.cs ⟨kind,num,(fi:Int),mst,pay,ents⟩=MM.cs):=hJ (by rw[HAP2.out,if_pos (.inl hvl)])
      clear hvl;refine qac 18 (fun w'=>Cq w' p 0 (Jq self)∧Cq w' p 5 (Jq sent)) (by kernel_rfl) ⟨e0,e5⟩ (fun hHeld=>?_)
      refine E_t 0 82 ?_;refine E_r 1 (some 83) fun K hK=>?_
      go_simp;go_at_call 160;refine(qdq A5 c5 ND _ (by exact HNR.out.ext Ext.drew1) (by omega) HNP.out).mono ?_
      rintro en w6 ⟨rfl,hx6⟩
      rw[HVL.out]
      have X6:Hid (Ext w5 w6):=hJ (Ext.drew1.trans hx6)
      clear hx6;have g0:w6.cell? (Pq p 0)=some (Jq self):=by rw[X6.out.cell (by exact hp5)];exact e0
      have g5:w6.cell? (Pq p 5)=some (Jq sent):=by rw[X6.out.cell (by exact hp5)];exact e5
      clear hHeld;refine hK.out _ _ ⟨g0,g5⟩ (fun hHeld=>?_)
      clear hK K;try simp only[Act.put,aP1,aP2,aP3]
      refine E_t 2 84 ?_;refine E_t 3 85 ?_;refine E_s 4 86 ?_;refine E_s 5 87 ?_;refine E_s 6 88 ?_;refine E_s 7 89 ?_;refine E_s 8 90 ?_;refine E_s 9 91 ?_;refine E_s 10 92 ?_;refine E_s 11 93 ?_;refine E_s 12 94 ?_;refine E_s 13 95 ?_;refine E_s 14 96 ?_;refine E_s 15 97 ?_;refine E_s 16 98 ?_;refine E_t 17 99 ?_;refine qaE (by kernel_rfl) (by rfl) ?_
      go_wp2;(try simp only[Exit.inBlock,Exit.then]);refine bodyPost_ret (results_none rfl _ _ _) rfl ?_
      rw[HR.out]
      exact DONE.out _ (XW5.out.trans X6.out)
     | true=>
      have HVL:=hJ hvl
      by_cases how:sent<qay ND self
      ·have HR:Hid (qaM MM.cs ⟨kind,num,(fi:Int),mst,pay,ents⟩=MM.cs):=hJ (by rw[HAP2.out,if_pos (.inr how)])
       have hd:decide (sent<(qay ND self:Int))=true:=by simpa using how
       clear hvl how;refine qac 18 (fun w'=>Cq w' p 0 (Jq self)∧Cq w' p 5 (Jq sent)) (by kernel_rfl) ⟨e0,e5⟩ (fun hHeld=>?_)
       refine E_t 0 82 ?_;refine E_r 1 (some 83) fun K hK=>?_
       go_simp;go_at_call 160;refine(qdq A5 c5 ND _ (by exact HNR.out.ext Ext.drew1) (by omega) HNP.out).mono ?_
       rintro en w6 ⟨rfl,hx6⟩
       rw[HVL.out]
       have X6:Hid (Ext w5 w6):=hJ (Ext.drew1.trans hx6)
       clear hx6;have g0:w6.cell? (Pq p 0)=some (Jq self):=by rw[X6.out.cell (by exact hp5)];exact e0
       have g5:w6.cell? (Pq p 5)=some (Jq sent):=by rw[X6.out.cell (by exact hp5)];exact e5
       clear hHeld;refine hK.out _ _ ⟨g0,g5⟩ (fun hHeld=>?_)
       clear hK K;try simp only[Act.put,aP1,aP2,aP3]
       refine E_t 2 84 ?_;refine E_t 3 85 ?_;refine E_t 4 86 ?_;refine E_t 5 87 ?_;refine E_t 6 88 ?_;refine E_t 7 89 ?_;refine E_t 8 90 ?_;refine E_t 9 91 ?_;refine E_t 11 93 ?_;refine E_t 12 94 ?_;refine E_t 13 95 ?_;refine E_t 14 96 ?_;refine E_t 15 97 ?_;refine E_r 10 (some 92) fun K hK=>?_
       go_simp;go_at_call 91;refine(qck A5 c5 ND self _ (by exact HNR.out.ext X6.out) (by omega)).mono ?_
       rintro en w7 ⟨rfl,hx7⟩
       have X7:Hid (Ext w5 w7):=hJ (X6.out.trans hx7)
       clear hx7;have k0:w7.cell? (Pq p 0)=some (Jq self):=by rw[X7.out.cell (by exact hp5)];exact e0
       have k5:w7.cell? (Pq p 5)=some (Jq sent):=by rw[X7.out.cell (by exact hp5)];exact e5
       clear hHeld;refine hK.out _ _ ⟨k0,k5⟩ (fun hHeld=>?_)
       clear hK K;try simp only[Act.put,aP1,aP2,aP3]
       refine E_t 16 98 ?_;refine E_t 17 99 ?_;refine qaE (by kernel_rfl) (by rfl) ?_
       go_wp2;(try simp only[Exit.inBlock,Exit.then]);refine bodyPost_ret (results_none rfl _ _ _) rfl ?_
       rw[HR.out]
       exact DONE.out _ (XW5.out.trans X7.out)
      ·have hd:decide (sent<(qay ND self:Int))=false:=by simpa using how
       have HR:Hid (qaM MM.cs ⟨kind,num,(fi:Int),mst,pay,ents⟩=raiseF {MM.cs with s:={MM.cs.s with log:=ND}} (min mst ND.length)):=hJ (by rw[HAP2.out,if_neg (by rw[hvl];simpa using how)])
       have HVLI:=hJ (qe3 hvl)
       have HOW:Hid ((qay ND self:Int)≤sent):=hJ (by omega)
       clear hvl how;refine qac 18 (fun w'=>Cq w' p 0 (Jq self)∧Cq w' p 5 (Jq sent)) (by kernel_rfl) ⟨e0,e5⟩ (fun hHeld=>?_)
       refine E_t 0 82 ?_;refine E_r 1 (some 83) fun K hK=>?_
       go_simp;go_at_call 160;refine(qdq A5 c5 ND _ (by exact HNR.out.ext Ext.drew1) (by omega) HNP.out).mono ?_
       rintro en w6 ⟨rfl,hx6⟩
       rw[HVL.out]
       have X6:Hid (Ext w5 w6):=hJ (Ext.drew1.trans hx6)
       clear hx6;have g0:w6.cell? (Pq p 0)=some (Jq self):=by rw[X6.out.cell (by exact hp5)];exact e0
       have g5:w6.cell? (Pq p 5)=some (Jq sent):=by rw[X6.out.cell (by exact hp5)];exact e5
       clear hHeld;refine hK.out _ _ ⟨g0,g5⟩ (fun hHeld=>?_)
       clear hK K;try simp only[Act.put,aP1,aP2,aP3]
       refine E_t 2 84 ?_;refine E_t 3 85 ?_;refine E_t 4 86 ?_;refine E_t 5 87 ?_;refine E_t 6 88 ?_;refine E_t 7 89 ?_;refine E_t 8 90 ?_;refine E_t 9 91 ?_;refine E_t 11 93 ?_;refine E_t 12 94 ?_;refine E_t 13 95 ?_;refine E_t 14 96 ?_;refine E_t 15 97 ?_;refine E_r 10 (some 92) fun K hK=>?_
       go_simp;go_at_call 91;refine(qck A5 c5 ND self _ (by exact HNR.out.ext X6.out) (by omega)).mono ?_
       rintro en w7 ⟨rfl,hx7⟩
       have X7:Hid (Ext w5 w7):=hJ (X6.out.trans hx7)
       clear hx7;have k0:w7.cell? (Pq p 0)=some (Jq self):=by rw[X7.out.cell (by exact hp5)];exact e0
       have k5:w7.cell? (Pq p 5)=some (Jq sent):=by rw[X7.out.cell (by exact hp5)];exact e5
       clear hHeld;refine hK.out _ _ ⟨k0,k5⟩ (fun hHeld=>?_)
       clear hK K;try simp only[Act.put,aP1,aP2,aP3]
       refine E_t 16 98 ?_;refine E_t 17 99 ?_;refine qaE (by kernel_rfl) (by rfl) ?_
       have C7:=hJ (H.out.ext (XW5.out.trans X7.out))
       have BX7:Hid (BIs w7 p (⟨⟨self,base,stable,sent,Av,cv,vs,Al,cl,log,Ap,cp,pend,Am,cm,marks,Af,cf,fls⟩,Ak,ck,pk,Ad,cd,dl⟩:CM).cells 86):=hJ (by have:=C7.out.box;rw[HMM.out] at this;exact this)
       have k3:w7.cell? (Pq p 3)=some (.slice Al log.length cl):=BX7.out.cell 3
       have fz3:=BX7.out.free 3
       go_wp2;have XW7:Hid (Ext w w7):=hJ (XW5.out.trans X7.out)
       have W78:Hid (Wrote p w7 (w7.setCell (Pq p 3) (.slice A5 ND.length c5))):=hJ (Wrote.set _ _ _ _)
       have BX8:Hid (BIs (w7.setCell (Pq p 3) (.slice A5 ND.length c5)) p (⟨⟨self,base,stable,sent,Av,cv,vs,A5,c5,ND,Ap,cp,pend,Am,cm,marks,Af,cf,fls⟩,Ak,ck,pk,Ad,cd,dl⟩:CM).cells 86):=hJ (BX7.out.set 3 _)
       have f3w:w7.cell? (Pw w 3)=some (Jq mst):=by rw[X7.out.cell (by have:=X5.out.size;show w.heap.size<_;omega),X5.out.cell (by exact hbr),HX.out.cell (by exact hb3)];exact B3.out
       have f3:(w7.setCell (Pq p 3) (.slice A5 ND.length c5)).cell? (Pw w 3)=some (Jq mst):=by rw[World.cell?_setCell_far _ _ _ _ (by have:=H.out.lt;simp;omega)];exact f3w
       clear k3 fz3 k0 k5 g0 g5 e0 e5 hHeld f3w;generalize w7.setCell (Pq p 3) (.slice A5 ND.length c5)=w8 at *
       have k3:w8.cell? (Pq p 3)=some (.slice A5 ND.length c5):=BX8.out.cell 3
       have hpcw:Hid ((qai col w.heap.size 2) p=1):=hJ (by rw[qah H.out.lt];exact H.out.pc)
       have S8:Hid (Stp B [1,2] col w (qai col w.heap.size 2) w8):=hJ ((Stp.ext (cs:=[1,2]) H.out.Bsz XW7.out (fun k hk=>qah hk)).trans (Stp.wrote W78.out H.out.bp (Nat.le_trans H.out.Bsz XW7.out.size) (by rw[hpcw.out];simp)))
       have HCV:Hid (ColV (qai col w.heap.size 2) 2 (.slice A5 ND.length c5)):=hJ (fun q hq=>qbu (by have:=(HO5.out.lt q hq).1;have:=XW3.out.size;have:=HX.out.size;omega))
       have HO8:Hid (qaz.Own w8 B (.slice A5 ND.length c5) ND):=hJ (((HO5.out.ext X7.out).base (by have:=H.out.Bsz;have:=XW3.out.size;have:=HX.out.size;omega)).keep fun q hq hlt=>W78.out.blk hlt (fun e=>by subst e;have:=HCV.out _ hq;rw[hpcw.out] at this;cases this))
       have OK8:Hid (OkS (⟨self,base,stable,sent,Av,cv,vs,A5,c5,ND,Ap,cp,pend,Am,cm,marks,Af,cf,fls⟩:BM).st):=hJ (by
        have ok:=OK.out
        rw[HMM.out] at ok
        exact qqi ok tl HND.out HVLI.out.1 HNP6.out HOW.out)
       have C8:Hid (CS w8 B (qai col w.heap.size 2) p ⟨⟨self,base,stable,sent,Av,cv,vs,A5,c5,ND,Ap,cp,pend,Am,cm,marks,Af,cf,fls⟩,Ak,ck,pk,Ad,cd,dl⟩):=hJ (by
        have h:=H.out
        rw[HMM.out] at h
        have hf:=h.fits
        refine⟨BX8.out,hpcw.out,h.bp,h.lies.relog S8.out (by simp) (by simp) (by simp) (by simp) HO8.out HCV.out,S8.out.own h.pk h.kc (by simp),S8.out.colV h.pk h.kc,h.kiK S8.out (by simp),S8.out.own h.dl h.dc (by simp),S8.out.colV h.dl h.dc,?_,h.cp⟩
        exact⟨hf.vs,hf.vx,by have:=HVLI.out.1;simp only;omega,fun e he=>by have:=HNP6.out e he;omega,hf.pend,hf.pp,hf.marks,hf.fls,hf.fl,⟨h51,h52⟩⟩)
       have HR2:Hid (qaM MM.cs ⟨kind,num,(fi:Int),mst,pay,ents⟩=raiseF (⟨⟨self,base,stable,sent,Av,cv,vs,A5,c5,ND,Ap,cp,pend,Am,cm,marks,Af,cf,fls⟩,Ak,ck,pk,Ad,cd,dl⟩:CM).cs (min mst ND.length)):=hJ (by rw[HR.out,HMM.out];rfl)
       go_wp2;refine qac 10 (fun w'=>w'.cell? (Pw w 3)=some (Jq mst)∧Cq w' p 3 (.slice A5 ND.length c5)) (by kernel_rfl) ⟨f3,k3⟩ (fun hHeld=>?_)
       refine E_t 0 105 ?_;refine E_t 1 106 ?_;refine E_t 2 107 ?_;refine E_t 3 108 ?_;refine E_t 4 109 ?_;refine E_t 5 110 ?_;refine E_t 6 111 ?_;refine E_t 7 112 ?_;refine E_t 8 113 ?_;refine E_t 9 114 ?_;refine qbc (by rfl) (by kernel_rfl) ?_
       go_wp2_with fail
       refine(qiZ _ B _ p (min mst (ND.length:Int)) _ (C8.out.ext Ext.drew1) OK8.out.st0 (by simp only;omega) hdl (qn8 OK8.out _)).mono ?_
       rintro en w9 ⟨m9,col9,rfl,hc9,hm9,hs9⟩
       go_wp2;go_end0;rw[HR2.out]
       exact⟨m9,col9,rfl,hc9,hm9,(S8.out.mono (cs':=[1,2,3,4,5,7]) (by simp)).trans ((Stp.ext' C8.out.Bsz Ext.drew1).trans hs9)⟩
  ·have hsm:Hid (qes ((log.take (fi+both)).drop fi) (ents.take both)=false):=hJ (by unfold qes;rw[hcut];exact decide_eq_false h2)
   have HR:Hid (qaM MM.cs ⟨kind,num,(fi:Int),mst,pay,ents⟩=MM.cs):=hJ (by rw[qdZ,hcs.out];simp only;rw[if_neg h1,←HB.out];exact if_pos h2)
   clear hcut h2 hsl3;go_enter Tryz.func143,Tryz.ntmps143
   go_wp2;refine qac 9 (fun w'=>Cq w' p 3 (.slice Al log.length cl)∧w'.cell? (Pw w 2)=some (Jq (fi:Int))) (by kernel_rfl) ⟨p3,b2⟩ (fun hHeld=>?_)
   refine E_t 0 8 ?_;refine E_t 1 9 ?_;refine E_t 2 10 ?_;refine E_t 3 11 ?_;refine E_t 4 12 ?_;refine E_t 5 13 ?_;refine E_t 6 14 ?_;refine E_t 7 15 ?_;refine E_t 8 16 ?_;refine qaE (by kernel_rfl) (by rfl) ?_
   go_wp2;refine qac 14 (fun w'=>Cq w' p 3 (.slice Al log.length cl)∧w'.cell? (Pw w 2)=some (Jq (fi:Int))∧w'.cell? (Pw w 5)=some (.slice Ae ents.length ce)) (by kernel_rfl) ⟨p3,b2,b5⟩ (fun hHeld=>?_)
   refine E_t 0 17 ?_;refine E_t 1 18 ?_;refine E_t 2 19 ?_;refine E_t 3 20 ?_;refine E_t 4 21 ?_;refine E_t 5 22 ?_;refine E_t 6 23 ?_;refine E_t 7 24 ?_;refine E_t 8 25 ?_;refine E_t 9 26 ?_;refine E_t 10 27 ?_;refine E_t 11 28 ?_;refine E_t 12 29 ?_;refine E_t 13 4 ?_;refine qaE (by kernel_rfl) (by rfl) ?_
   go_wp2;refine qac 18 (fun w'=>Cq w' p 3 (.slice Al log.length cl)∧w'.cell? (Pw w 2)=some (Jq (fi:Int))∧w'.cell? (Pw w 5)=some (.slice Ae ents.length ce)) (by kernel_rfl) ⟨p3,b2,b5⟩ (fun hHeld=>?_)
   refine E_t 0 30 ?_;refine E_t 1 31 ?_;refine E_t 2 32 ?_;refine E_t 3 33 ?_;refine E_t 4 34 ?_;refine E_t 5 35 ?_;refine E_t 6 36 ?_;refine E_t 7 37 ?_;refine E_t 8 38 ?_;refine E_t 9 39 ?_;refine E_t 10 40 ?_;refine E_t 11 41 ?_;refine E_t 12 42 ?_;refine E_t 13 43 ?_;refine E_t 14 44 ?_;refine E_t 15 45 ?_;refine E_r 16 (some 46) fun K hK=>?_
   go_simp;go_at_call 179;refine(qh0 (qcB Al fi cl 4) Ae (cl - fi) ce both both ((log.take (fi+both)).drop fi) (ents.take both) _ (by exact HR1.out.ext ((Ext.refl _).drew.drew.drew)) (by exact HR2.out.ext ((Ext.refl _).drew.drew.drew)) (by rw[List.length_drop,List.length_take];omega) (by rw[List.length_drop,List.length_take];omega) (by rw[List.length_take];omega)).mono ?_
   rintro en w3 ⟨rfl,hx3⟩
   have X3:Hid (Ext (w.alloc (.cells #[Jq kind,Jq num,Jq (fi:Int),Jq mst,.string (qax pay),.slice Ae ents.length ce] 110)) w3):=hJ ((Ext.refl _).drew.drew.drew.trans hx3.ext)
   clear hx3;have r3:w3.cell? (Pq p 3)=some (.slice Al log.length cl):=by rw[X3.out.cell (by exact hp0)];exact p3
   have s2:w3.cell? (Pw w 2)=some (Jq (fi:Int)):=by rw[X3.out.cell (by exact hb0)];exact b2
   have s5:w3.cell? (Pw w 5)=some (.slice Ae ents.length ce):=by rw[X3.out.cell (by exact hb0)];exact b5
   clear hHeld;refine hK.out _ _ ⟨r3,s2,s5⟩ (fun hHeld=>?_)
   clear hK K;try simp only[Act.put,aP1,aP2,aP3]
   refine E_t 17 47 ?_;refine qaE (by kernel_rfl) (by rfl) ?_
   rw[hsm.out]
   go_wp2;(try simp only[Exit.inBlock,Exit.then]);refine bodyPost_ret (results_none rfl _ _ _) rfl ?_
   rw[HR.out]
   exact DONE.out _ (E0.out.trans X3.out)
theorem qcH{w:World}{B:Nat}{v:Value}{l:List (Int×Int)}(h:qao.Own w B v l)(hl:0<l.length):∃g c,v=.slice (some (Pq g 0)) l.length c∧l.length≤c∧c≤maxLen∧B≤g∧g<w.heap.size∧∀i,w.frozen? (Pq g i)=false:=by
 have h':=h
 obtain⟨_,h2⟩:=h
 rcases h2 with ⟨_,h3⟩|⟨g,cap,cur,hv,h3,hh,h4,h5,h6,h7⟩
 ·omega
 ·subst hv
  exact⟨g,cap,rfl,h4,h5,h3,(h'.lt g rfl).2,fun i=>(show BIs w g cur _ from hh).free i⟩
end Go.Proofs.YtponbabbabnaeaaGreat
