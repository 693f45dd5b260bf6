/- Part 8 of the proof: contracts of functions that the statement reaches. Conditions: as each theorem says. -/
import Derived.Test.YtponbabbabnaeaaGreatQf01
import Derived.Test.YtponbabbabnaeaaGreatQf06
import Derived.Test.YtponbabbabnaeaaGreatQf07
set_option maxRecDepth 100000
set_option maxHeartbeats 40000000
namespace Go.Proofs.YtponbabbabnaeaaGreat
open Go.RowKit
theorem qif(b:BM)(st:Int)(Ap:Option Addr)(seq:Int)(j:Nat)(p:List UInt8)(w:World)(hAp:b.Ap=Ap)(h:b.Reads w)(hn:b.pend.length≤1000000000)(hs:0≤b.sent∧b.sent≤1099511627776)(hq:0≤seq∧seq≤1099511627776)
  (hj:(b.pend.length:Int) - 1 - (b.sent - seq)=(j:Int)) (hp:b.pend[j]?=some p) :
  Calls Tryz.prog 112 #[.agg #[Jq b.self,.slice b.Av b.vs.length b.cv,Jq b.base,.slice b.Al b.log.length b.cl,Jq st,Jq b.sent,.slice Ap b.pend.length b.cp,.slice b.Am b.marks.length b.cm,.slice b.Af b.fls.length b.cf],Jq seq] w fun e w'=>e=.returned (.string (qaF p))∧Ext w w':=by
 have H0:=hJ (Ext.new w (.cells (b.cells3 st Ap) 28));have hjl:j<b.pend.length:=(zZ hp).1;obtain⟨bb,off,p',rfl,hb,c0,HP⟩:=qpH (show Row w Ap (qdC.cells b.pend) by rw[←hAp];exact h.pend) hjl;have hpp:p'=p:=by have:=HP.out.symm.trans hp;exact Option.some.inj this
 subst hpp;have hw1:IntKind.i64.wrap ((b.pend.length:Int) - 1)=(b.pend.length:Int) - 1:=IntWalk.i64_in _ (by omega);have hw2:IntKind.i64.wrap (b.sent - seq)=b.sent - seq:=IntWalk.i64_in _ (by omega);have hw3:IntKind.i64.wrap ((b.pend.length:Int) - 1 - (b.sent - seq))=(j:Int):=by rw[IntWalk.i64_in _ (by omega)];exact hj
 have k1:(0:Int)≤(j:Int):=by omega
 have k2:(j:Int)<(b.pend.length:Int):=by omega
 clear hj hp hs hq hAp h HP;unfold BM.cells3 at H0;go_enter Tryz.func112,Tryz.ntmps112;go_wp2;go_ret;exact⟨rfl,H0.out⟩
theorem qkz:∀(l:List FlM) (k:Nat) (f:FlM) (A:Option Addr) (c:Nat),l[k]?=some f→flE.cells (l.set k ⟨f.m,f.b,A,c,f.log⟩)=(flE.cells l).set (k*3+2) (.slice A f.log.length c):=by
 intro l;induction l with
 | nil=>intro k f A c h;simp at h
 | cons x l ih=>
  intro k f A c h
  match k,h with
  | 0,h=>simp only[List.getElem?_cons_zero,zJ] at h;subst h;rfl
  | k+1,h=>
   rw[List.set_cons_succ,flE.cells_cons,flE.cells_cons,ih k f A c (by simpa using h)];have e1:(k+1)*3+2=k*3+2+1+1+1:=by omega
   rw[e1];rfl
theorem qsG{w:World}{B g cap:Nat}{l:List FlM}{k:Nat}{f:FlM}{A:Option Addr}{c:Nat}(h:flE.OB w B (.slice (some (Pq g 0)) l.length cap) l)(hf:l[k]?=some f)(h1:f.log.length≤c)(h2:c≤maxLen)(hr:Row w A (qaH.cells f.log))(hap:Apt (.slice (some (Pq g 0)) l.length cap) (A,qaH.cells f.log)) :
  flE.OB (w.setCell (Pq g (k*3+2)) (.slice A f.log.length c)) B (.slice (some (Pq g 0)) l.length cap) (l.set k ⟨f.m,f.b,A,c,f.log⟩):=by
 have far:∀{r:Option Addr×List Value},Row w r.1 r.2→Apt (.slice (some (Pq g 0)) l.length cap) r→Row (w.setCell (Pq g (k*3+2)) (.slice A f.log.length c)) r.1 r.2:=fun h1 h2=>
  qep h1 (fun q hne hq=>Ne.symm (h2 q g hne hq rfl))
 refine⟨?_,fun q hq=>?_⟩
 ·obtain⟨h1,h2⟩:=h.1;refine⟨by rw[flE.cells_len],.inr ?_⟩;rcases h2 with ⟨h2,_⟩|⟨g',cap',cur,hv,h3,hh,h4,h5,h6,h7⟩
  ·cases h2
  ·simp only[Value.slice.injEq,zJ,Addr.mk.injEq,and_true,true_and] at hv;obtain⟨rfl,rfl⟩:=hv;refine⟨g,cap,cur.setIfInBounds (k*3+2) (.slice A f.log.length c),by rw[List.length_set],h3,?_,by rw[List.length_set];exact h4,h5,by simpa using h6,?_⟩
   ·exact heap_setCell_same _ _ _ _ _ _ hh
   ·rw[List.length_set,Array.toList_setIfInBounds,List.take_set,h7,qkz l k f A c hf]
 ·rcases List.mem_or_eq_of_mem_set hq with hq|rfl
  ·exact⟨(h.2 q hq).1,fun r hr'=>⟨far ((h.2 q hq).2 r hr').1 ((h.2 q hq).2 r hr').2,((h.2 q hq).2 r hr').2⟩⟩
  ·refine⟨⟨h1,h2⟩,fun r hr'=>?_⟩;simp only[flE,zC,zN,or_false] at hr';subst hr';exact⟨far (r:=(A,qaH.cells f.log)) hr hap,hap⟩
def flv(l:List FlM):List Fls:=l.map FlM.v
theorem qss{l:List FlM}{k:Nat}{f:FlM}{A:Option Addr}{c:Nat}(h:l[k]?=some f):flv (l.set k ⟨f.m,f.b,A,c,f.log⟩)=flv l:=by
 unfold flv;rw[List.map_set];apply List.ext_getElem?;intro i;by_cases hi:k=i
 ·subst hi;rw[List.getElem?_set];obtain⟨hk,he⟩:=zZ h;simp[hk,he,FlM.v]
 ·rw[List.getElem?_set];simp[hi]
def ColR(col:Nat→Nat)(k:Nat)(A:Option Addr)(xs:List Value):Prop:=∀p,xs≠[]→A=some p→col p.block=k
def ColV(col:Nat→Nat)(k:Nat)(v:Value):Prop:=∀q,v.ownBlock=some q→col q=k
def BIs(w:World)(p:Nat)(vals:Array Value)(t:TypeId):Prop:=w.heap[p]?=some (.cells vals t (0,0))
theorem BIs.lt{w:World}{p:Nat}{vals:Array Value}{t:TypeId}(h:BIs w p vals t):p<w.heap.size:=by
 rcases Nat.lt_or_ge p w.heap.size with hlt|hge
 ·exact hlt
 ·unfold BIs at h;rw[Array.getElem?_eq_none hge] at h;cases h
theorem BIs.cell{w:World}{p:Nat}{vals:Array Value}{t:TypeId}(h:BIs w p vals t)(i:Nat):w.cell? (Pq p i)=vals[i]?:=cell_of_row w p i vals t (0,0) h
theorem BIs.free{w:World}{p:Nat}{vals:Array Value}{t:TypeId}(h:BIs w p vals t)(i:Nat):w.frozen? (Pq p i)=false:=by
 unfold BIs at h;simp[World.frozen?,h]
theorem BIs.set{w:World}{p:Nat}{vals:Array Value}{t:TypeId}(h:BIs w p vals t)(i:Nat)(v:Value):BIs (w.setCell (Pq p i) v) p (vals.setIfInBounds i v) t:=heap_setCell_same _ _ _ _ _ _ h
theorem BIs.same{w w':World}{p:Nat}{vals:Array Value}{t:TypeId}(h:BIs w p vals t)(e:w'.heap[p]?=w.heap[p]?):BIs w' p vals t:=by unfold BIs;rw[e];exact h
theorem BIs.ext{w w':World}{p:Nat}{vals:Array Value}{t:TypeId}(h:BIs w p vals t)(e:Ext w w'):BIs w' p vals t:=h.same (e.block p h.lt)
theorem BIs.new(w:World)(vals:Array Value)(t:TypeId):BIs (w.alloc (.cells vals t)) w.heap.size vals t:=by
 show (w.heap.push _)[w.heap.size]?=_;simp
structure Off(col:Nat→Nat)(c:Nat)(w w':World):Prop where
 size:w.heap.size≤w'.heap.size
 block:∀k,k<w.heap.size→col k≠c→w'.heap[k]?=w.heap[k]?
theorem Off.ext{col:Nat→Nat}(c:Nat){w w':World}(e:Ext w w'):Off col c w w':=⟨e.size,fun k hk _=>e.block k hk⟩
theorem Off.row{col:Nat→Nat}{c k:Nat}{w w':World}{A:Option Addr}{xs:List Value}(o:Off col c w w')(h:Row w A xs)(hc:ColR col k A xs)(hk:k≠c):Row w' A xs:=by
 intro hx;obtain⟨b,off,h1,h2,h3⟩:=h hx;refine⟨b,off,h1,Nat.lt_of_lt_of_le h2 o.size,fun j u hj=>?_⟩;have hb:w'.heap[b]?=w.heap[b]?:=o.block b h2 (by rw[hc _ hx h1];exact hk);exact(World.cell?_of_block (a:=⟨b,off+j,none⟩) hb).trans (h3 j u hj)
theorem Off.own{α:Type}{E:Elem α}{col:Nat→Nat}{c k B:Nat}{w w':World}{v:Value}{l:List α}(o:Off col c w w')(h:E.Own w B v l)(hc:ColV col k v)(hk:k≠c):E.Own w' B v l:=
 h.keep fun q hq hlt=>o.block q hlt (by rw[hc q hq];exact hk)
theorem Off.box{α:Type}{E:Elem α}{col:Nat→Nat}{c:Nat}{w w':World}{A:Option Addr}{l:List α}(o:Off col c w w')(h:E.Box w A l)(h1:ColR col 0 A (E.cells l))(h2:∀a∈l,∀r∈E.inn a,ColR col 0 r.1 r.2)(hk:0≠c):E.Box w' A l:=
 ⟨o.row h.1 h1 hk,fun a ha=>⟨(h.2 a ha).1,fun r hr=>o.row ((h.2 a ha).2 r hr) (h2 a ha r hr) hk⟩⟩
def qai(col:Nat→Nat)(n c:Nat):Nat→Nat:=fun k=>if k<n then col k else c
theorem qah{col:Nat→Nat}{n c k:Nat}(h:k<n):qai col n c k=col k:=by unfold qai;rw[if_pos h]
theorem qbB{col:Nat→Nat}{n c k:Nat}(h:n≤k):qai col n c k=c:=by unfold qai;rw[if_neg (by omega)]
theorem ColR.old{col col':Nat→Nat}{k:Nat}{w:World}{A:Option Addr}{xs:List Value}(h:ColR col k A xs)(hr:Row w A xs)(hc:∀q,q<w.heap.size→col' q=col q):ColR col' k A xs:=
 fun p hne hp=>(hc _ (qgV hr hne hp)).trans (h p hne hp)
theorem ColV.old{α:Type}{E:Elem α}{B:Nat}{l:List α}{col col':Nat→Nat}{k:Nat}{w:World}{v:Value}(h:ColV col k v)(hr:E.Own w B v l)(hc:∀q,q<w.heap.size→col' q=col q):ColV col' k v:=
 fun q hq=>(hc q (hr.lt q hq).2).trans (h q hq)
structure BM.Lies(w:World)(B:Nat)(col:Nat→Nat)(b:BM):Prop where
 vs:qaC.Box w b.Av b.vs
 vc:ColR col 0 b.Av (qaC.cells b.vs)
 vi:∀v∈b.vs,ColR col 0 v.A (qaq v.xs)
 log:qaH.Own w B (.slice b.Al b.log.length b.cl) b.log
 lc:ColV col 2 (.slice b.Al b.log.length b.cl)
 pend:Row w b.Ap (qdC.cells b.pend)
 pc:ColR col 6 b.Ap (qdC.cells b.pend)
 marks:qat.Own w B (.slice b.Am b.marks.length b.cm) b.marks
 mc:ColV col 3 (.slice b.Am b.marks.length b.cm)
 fls:flE.Own w B (.slice b.Af b.fls.length b.cf) b.fls
 fc:ColV col 4 (.slice b.Af b.fls.length b.cf)
 fi:∀f∈b.fls,flE.ok f∧Row w f.A (qaH.cells f.log)∧ColR col 0 f.A (qaH.cells f.log)
theorem BM.Lies.reads{w:World}{B:Nat}{col:Nat→Nat}{b:BM}(h:b.Lies w B col):b.Reads w:=
 ⟨h.vs,h.log.row,h.pend,h.marks.row,h.fls.row,fun a ha=>⟨(h.fi a ha).1,fun r hr=>by
  simp only[flE,zC,zN,or_false] at hr;subst hr;exact(h.fi a ha).2.1⟩⟩
theorem BM.Lies.off{w w':World}{B c:Nat}{col col':Nat→Nat}{b:BM}(h:b.Lies w B col)(o:Off col c w w')(hc:c≠0∧c≠2∧c≠3∧c≠4∧c≠6)(hcol:∀k,k<w.heap.size→col' k=col k):b.Lies w' B col':=by
 obtain⟨c0,c2,c3,c4,c6⟩:=hc;refine⟨o.box h.vs h.vc (fun a ha r hr=>?_) (Ne.symm c0),h.vc.old h.vs.1 hcol,fun v hv=>(h.vi v hv).old ((h.vs.2 v hv).2 (v.A,qaq v.xs) (by simp[qaC])) hcol,o.own h.log h.lc (Ne.symm c2),h.lc.old h.log hcol,o.row h.pend h.pc (Ne.symm c6),h.pc.old h.pend hcol,
  o.own h.marks h.mc (Ne.symm c3),h.mc.old h.marks hcol,o.own h.fls h.fc (Ne.symm c4),h.fc.old h.fls hcol,fun f hf=>⟨(h.fi f hf).1,o.row (h.fi f hf).2.1 (h.fi f hf).2.2 (Ne.symm c0),(h.fi f hf).2.2.old (h.fi f hf).2.1 hcol⟩⟩
 simp only[qaC,zC,zN,or_false] at hr;subst hr;exact h.vi a ha
theorem BM.Lies.ext{w w':World}{B:Nat}{col col':Nat→Nat}{b:BM}(h:b.Lies w B col)(e:Ext w w')(hcol:∀k,k<w.heap.size→col' k=col k):b.Lies w' B col':=
 h.off (Off.ext 1 e) (by decide) hcol
theorem BM.Lies.base{w:World}{B B':Nat}{col:Nat→Nat}{b:BM}(h:b.Lies w B col)(hb:B'≤B):b.Lies w B' col:=
 ⟨h.vs,h.vc,h.vi,h.log.base hb,h.lc,h.pend,h.pc,h.marks.base hb,h.mc,h.fls.base hb,h.fc,h.fi⟩
theorem BIs.free9{w:World}{p:Nat}{vals:Array Value}{t:TypeId}(h:BIs w p vals t) :
  w.frozen? (Pq p 0)=false∧w.frozen? (Pq p 1)=false∧w.frozen? (Pq p 2)=false∧w.frozen? (Pq p 3)=false∧w.frozen? (Pq p 4)=false∧w.frozen? (Pq p 5)=false∧w.frozen? (Pq p 6)=false∧w.frozen? (Pq p 7)=false∧w.frozen? (Pq p 8)=false:=
 ⟨h.free _,h.free _,h.free _,h.free _,h.free _,h.free _,h.free _,h.free _,h.free _⟩
theorem qmv {P : Prop} (h : P := by
 obtain⟨k,out,r',v,rfl,rfl,HG,hbd,hk40,HO,HRS,HW⟩:=hrel;obtain⟨A2,c2,k0'',k1'',f0'',f1'',HR2,hc2,hpl2⟩:=HRS.out.parts;have hvp:Hid (∀q,v.ownBlock=some q→q≠p∧w0.heap.size≤q∧w.heap.size≤q):=hJ (fun q hq=>by have:=(HO.out.1.lt q hq).1;have:=H.out.2.1.size;omega);clear k0'' f0'' f1'' HR2 hc2;by_cases hk:0<k
 ·have hdk:decide ((0:Int)<(k:Int))=true:=by simp;omega
  cases hf:r'.2 with
  | true=>
   rw[hf] at k1'';have HD:=hJ ((qfy hf).symm.trans HG.out);clear HG;go_wp2;go_ret;rw[←HD.out];obtain⟨A3,c3,rfl,h1,h2,_⟩:=HO.out.slice;exact⟨A3,c3,rfl,h1,h2,HO.out,HRS.out,HW.out⟩
  | false=>
   rw[hf] at k1'';obtain⟨j,rfl⟩:∃j,k=j+1:=⟨k - 1,by omega⟩;have HD:=hJ ((qlN hf).symm.trans HG.out);have hol:out.length+1≤2000:=by rcases hbd with h|h;exact absurd (hf.symm.trans h) (by simp);omega
   have hbd':out.length+1+j≤2000:=by rcases hbd with h|h;exact absurd (hf.symm.trans h) (by simp);omega
   clear HG hbd;obtain⟨⟨a,r2⟩,ha⟩:∃d,qdS r'=d:=⟨_,rfl⟩;obtain⟨⟨b,r3⟩,hb⟩:∃d,qdS r2=d:=⟨_,rfl⟩;obtain⟨⟨q,r4⟩,hq⟩:∃d,qdS r3=d:=⟨_,rfl⟩;obtain⟨⟨pl,r5⟩,hp⟩:∃d,qnO r4=d:=⟨_,rfl⟩;have HER5:Hid (qqd r'=(⟨a,b,q,pl⟩,r5)):=hJ (by unfold qqd;rw[ha];simp only;rw[hb];simp only;rw[hq];simp only;rw[hp]);have HA:=hJ ha;have HB:=hJ hb;have HQ:=hJ hq;have HP:=hJ hp;clear ha hb hq hp hf;go_wp2_with fail;refine(qba w0 p r' wr HRS.out).mono ?_;rintro en w2 ⟨rfl,hr2,hw2⟩;rw[HA.out] at hr2⊢;have H2:=hJ hr2;have W2:=hJ hw2;clear hr2 hw2;go_wp2_with fail;refine(qba w0 p r2 w2 H2.out).mono ?_;rintro en w3 ⟨rfl,hr2,hw2⟩;rw[HB.out] at hr2⊢;have H3:=hJ hr2;have W3:=hJ (W2.out.trans hw2);clear hr2 hw2;go_wp2_with fail;refine(qba w0 p r3 w3 H3.out).mono ?_;rintro en w4 ⟨rfl,hr2,hw2⟩;rw[HQ.out] at hr2⊢;have H4:=hJ hr2;have W4:=hJ (W3.out.trans hw2);clear hr2 hw2;go_wp2_with fail;refine(qgS w0 p r4 w4 H4.out).mono ?_;rintro en w5 ⟨rfl,hr2,hw2⟩;rw[HP.out] at hr2⊢;have H5:=hJ hr2;have W5:=hJ (W4.out.trans hw2);clear hr2 hw2;have HO5:=hJ (W5.out.ob HO.out (fun k hk=>(hvp.out k hk).1));have hszw:Hid (w.heap.size≤w5.heap.size):=hJ (zL HW.out.size W5.out.size);go_wp2_with (first
    | (at_builtin;refine qcr qaH rfl (.tmp 23) (.tmp 33) rfl _ w.heap.size _ out (by rfl) _ 1 1 [⟨a,b,q,pl⟩] (by rfl) rfl (qdL ⟨a,b,q,pl⟩ w5) (HO5.out.ext (Ext.new _ _)) qfX (by omega) (by have:=hszw.out;simp;omega) ?_;intro v6 w6 ho6 hg6 hs6))
   have HO6:=hJ ho6;have H6:Hid (RS w0 p w6 r5):=hJ (hg6.rs (H5.out.ext (Ext.new _ _)) (fun k hk=>⟨(hvp.out k hk).1,(hvp.out k hk).2.1⟩));have W6:Hid (Wrote p w w6):=hJ (hg6.wrote (B:=w.heap.size) ((HW.out.trans W5.out).trans (Wrote.of (Ext.new _ _))) (zR _) (fun k hk=>(hvp.out k hk).2.2));clear ho6 hg6 hs6;go_roundw
   case rel=>exact⟨j,out++[⟨a,b,q,pl⟩],r5,_,rfl,by go_num,hJ (by rw[←HD.out,HER5.out]),.inr (by simp;omega),by omega,HO6,H6,W6⟩
   case measure=>simp[intOf]
 ·have hk0:k=0:=by omega
  subst hk0;have HD:Hid ((out,r')=qdo r):=HG;clear HG;go_wp2;go_ret;rw[←HD.out];obtain⟨A3,c3,rfl,h1,h2,_⟩:=HO.out.slice;exact⟨A3,c3,rfl,h1,h2,HO.out,HRS.out,HW.out⟩) : P := h
theorem qjD {P : Prop} (h : P := by
 rintro en w1 ⟨rfl,hr1,hw1⟩;have H1:=hJ hr1;have W1:=hJ hw1;obtain⟨A1,c1,k0',k1',f0',f1',HR1,hc1,hpl1⟩:=hr1.parts;clear hr1 hw1;go_wp2;go_ret;rw[HN.out];exact⟨rfl,H1.out.failed true,W1.out.trans (Wrote.set _ _ _ _)⟩) : P := h
theorem qjc {P : Prop} (h : P := by
 rintro en w1 ⟨rfl,hr1,hw1⟩;have H1:=hJ hr1;have W1:=hJ hw1;clear hr1 hw1;go_wp2;go_ret;rw[HN.out];exact⟨rfl,H1.out,W1.out⟩) : P := h
def Wrote(p:Nat)(a b:World):Prop:=a.grownBy b (some p)
theorem Wrote.size{p:Nat}{a b:World}(h:Wrote p a b):a.heap.size≤b.heap.size:=World.grownBy.size h
theorem Wrote.blk{p:Nat}{a b:World}(h:Wrote p a b){k:Nat}(hk:k<a.heap.size)(hp:k≠p):b.heap[k]?=a.heap[k]?:=World.grownBy.block h k hk (fun e=>hp (Option.some.inj e))
theorem Wrote.refl(p:Nat)(a:World):Wrote p a a:=⟨rfl,rfl,rfl,zR _,fun _ _ _=>rfl⟩
theorem Wrote.of{p:Nat}{a b:World}(h:Ext a b):Wrote p a b:=⟨h.os,h.tape,h.output,h.size,fun k hk _=>h.block k hk⟩
theorem Wrote.trans{p:Nat}{a b c:World}(h:Wrote p a b)(g:Wrote p b c):Wrote p a c:=
 ⟨g.os.trans h.os,g.tape.trans h.tape,g.output.trans h.output,zL h.size g.size,fun k hk hne=>(World.grownBy.block g k (Nat.lt_of_lt_of_le hk h.size) hne).trans (World.grownBy.block h k hk hne)⟩
theorem Wrote.set(p i:Nat)(w:World)(v:Value):Wrote p w (w.setCell (Pq p i) v):=
 ⟨rfl,rfl,rfl,by simp[World.setCell],fun k _ hne=>Below.heap_setCell _ _ _ _ (fun e=>hne (by rw[e]))⟩
theorem Wrote.ext{p:Nat}{w0 a b:World}(h:Wrote p a b)(e:Ext w0 a)(hp:w0.heap.size≤p):Ext w0 b:=
 Below.grown e h e.size (fun k hk=>by cases hk;exact hp)
theorem Wrote.bis{p q:Nat}{a b:World}{vals:Array Value}{t:TypeId}(h:Wrote p a b)(k:BIs a q vals t)(hq:q≠p):BIs b q vals t:=k.same (h.blk k.lt hq)
def RS(w0:World)(p:Nat)(w:World)(r:Rd):Prop:=
 w0.heap.size≤p∧Ext w0 w∧r.1.length≤1000000∧∃A c,BIs w p #[.slice A r.1.length c,.bool r.2] 175∧Row w0 A (qac r.1)∧r.1.length≤c
theorem RS.wrote{w0 w w':World}{p q:Nat}{r:Rd}(h:RS w0 p w r)(g:Wrote q w w')(hq:p≠q)(h0:w0.heap.size≤q):RS w0 p w' r:=by
 obtain⟨h1,h2,h3,A,c,hb,hr,hc⟩:=h;exact⟨h1,g.ext h2 h0,h3,A,c,g.bis hb hq,hr,hc⟩
theorem RS.ext{w0 w w':World}{p:Nat}{r:Rd}(h:RS w0 p w r)(g:Ext w w'):RS w0 p w' r:=by
 obtain⟨h1,h2,h3,A,c,hb,hr,hc⟩:=h;exact⟨h1,h2.trans g,h3,A,c,hb.ext g,hr,hc⟩
theorem RS.failed{w0 w:World}{p:Nat}{r:Rd}(h:RS w0 p w r)(b:Bool):RS w0 p (w.setCell (Pq p 1) (.bool b)) (r.1,b):=by
 obtain⟨h1,h2,h3,A,c,hb,hr,hc⟩:=h;exact⟨h1,(Wrote.set p 1 w _).ext h2 h1,h3,A,c,hb.set 1 _,hr,hc⟩
theorem qd0(w0:World)(p:Nat)(r:Rd)(n:Nat)(e:Int)(w:World)(h:RS w0 p w r)(hn:n≤r.1.length) :
  Calls Tryz.prog 183 #[.pointer (some (Pq p 0)),Jq (n:Int),Jq e] w fun en w'=>en=.returned (.tuple #[])∧RS w0 p w' (qeM r n e)∧Wrote p w w':=by
 have H:=hJ h;obtain⟨h1,h2,h3,A,c,hb,hr,hc⟩:=h;obtain⟨bs,f⟩:=r;simp only at h3 hn hb hr hc;have k0:w.cell? (Pq p 0)=some (.slice A bs.length c):=hb.cell 0;have k1:w.cell? (Pq p 1)=some (.bool f):=hb.cell 1;have f0:=hb.free 0;have f1:=hb.free 1;have HB:=hJ hb;have HR:=hJ hr;have H2:=hJ h2;clear hb hr h2;by_cases he:e=0
 ·subst he;have HT:Hid (qeM (bs,f) n 0=(bs.drop n,f)):=hJ (by simp[qeM]);have hsl:∀W,(Instr.slice 29 (.slice A bs.length c) (some (Jq (n:Int))) none none).run Tryz.prog W=.ok (.slice (qdk A n c 1) (bs.length - n) (c - n)) W:=fun W=>qo7.slice_l A bs.length c n _ rfl hn W;go_enter Tryz.func183,Tryz.ntmps183;go_wp2;go_end0;refine⟨rfl,?_,Wrote.set _ _ _ _⟩
  rw[HT.out];refine⟨h1,(Wrote.set p 0 w _).ext H2.out h1,by simp;omega,qdk A n c 1,c - n,?_,qde (Elem.row_from (qd9 HR.out) hc n),by simp;omega⟩;have:=HB.out.set 0 (.slice (qdk A n c 1) (bs.length - n) (c - n));simpa using this
 ·have HT:Hid (qeM (bs,f) n e=(bs,true)):=hJ (by simp[qeM,he]);have hb:(e != 0)=true:=by simpa using he
  clear he;go_enter Tryz.func183,Tryz.ntmps183;go_wp2;(try simp only[Exit.inBlock,Exit.then]);refine bodyPost_ret (results_none rfl _ _ _) rfl ?_
  refine⟨rfl,?_,Wrote.set _ _ _ _⟩;rw[HT.out];exact H.out.failed true
theorem RS.parts{w0 w:World}{p:Nat}{r:Rd}(h:RS w0 p w r):∃A c,w.cell? (Pq p 0)=some (.slice A r.1.length c)∧w.cell? (Pq p 1)=some (.bool r.2)∧w.frozen? (Pq p 0)=false∧w.frozen? (Pq p 1)=false∧Hid (Row w A (qac r.1))∧r.1.length≤c∧p<w.heap.size:=by
 obtain⟨h1,h2,h3,A,c,hb,hr,hc⟩:=h;exact⟨A,c,hb.cell 0,hb.cell 1,hb.free 0,hb.free 1,hJ (hr.ext h2),hc,hb.lt⟩
theorem qba(w0:World)(p:Nat)(r:Rd)(w:World)(h:RS w0 p w r) :
  Calls Tryz.prog 138 #[.pointer (some (Pq p 0))] w fun en w'=>en=.returned (Jq (qdS r).1)∧RS w0 p w' (qdS r).2∧Wrote p w w':=by
 have H:=hJ h;obtain⟨A,c,k0,k1,f0,f1,HR,hc,hpl⟩:=h.parts;have h3:r.1.length≤1000000:=h.2.2.1;have hin:=qhC r.1;obtain⟨⟨v,n,e⟩,hd⟩:∃d,qbt r.1=d:=⟨_,rfl⟩;have HD:=hJ hd;rw[hd] at hin;simp only at hin;have hn:n≤r.1.length:=hin.2.1;have hv:v<18446744073709551616:=hin.1;clear hd hin h;by_cases hb:1099511627776<v
 ·have HN:Hid (qdS r=(0,(qeM r n e).1,true)):=hJ (by unfold qdS;rw[HD.out];simp only;rw[if_pos hb]);have hdd:decide ((1099511627776:Int)<(v:Int))=true:=by simp;omega
  go_enter Tryz.func138,Tryz.ntmps138;go_wp2_with fail;refine(qc5 A c r.1 w HR.out (by omega)).mono ?_;rintro en w' ⟨rfl,rfl⟩;rw[HD.out];unfold qoT;go_wp2_with fail;refine(qd0 w0 p r n e w H.out hn).mono ?_;exact qjD
 ·have HN:Hid (qdS r=((v:Int),qeM r n e)):=hJ (by unfold qdS;rw[HD.out];simp only;rw[if_neg hb]);have hdd:decide ((1099511627776:Int)<(v:Int))=false:=by simp;omega
  have hww:IntKind.i64.wrap (v:Int)=(v:Int):=IntWalk.i64_in _ (by omega);go_enter Tryz.func138,Tryz.ntmps138;go_wp2_with fail;refine(qc5 A c r.1 w HR.out (by omega)).mono ?_;rintro en w' ⟨rfl,rfl⟩;rw[HD.out];unfold qoT;go_wp2_with fail;refine(qd0 w0 p r n e w H.out hn).mono ?_;exact qjc
theorem qpZ(w0:World)(p:Nat)(r:Rd)(w:World)(h:RS w0 p w r) :
  Calls Tryz.prog 141 #[.pointer (some (Pq p 0))] w fun en w'=>en=.returned (Jq (qit r).1)∧RS w0 p w' (qit r).2∧Wrote p w w':=by
 have H:=hJ h;obtain⟨A,c,k0,k1,f0,f1,HR,hc,hpl⟩:=h.parts;have h3:r.1.length≤1000000:=h.2.2.1;have hin:=qln r.1;obtain⟨⟨v,n,e⟩,hd⟩:∃d,qeO r.1=d:=⟨_,rfl⟩;have HD:=hJ hd;rw[hd] at hin;simp only at hin;clear hd h;by_cases hb:v < -1∨1099511627776<v
 ·have HN:Hid (qit r=(v,(qeM r n e).1,true)):=hJ (by unfold qit;rw[HD.out];simp only;rw[if_pos hb]);by_cases hb1:v < -1
  ·go_enter Tryz.func141,Tryz.ntmps141;go_wp2_with fail;refine(qjs A c r.1 w HR.out (by omega)).mono ?_;rintro en w' ⟨rfl,rfl⟩;rw[HD.out];unfold qjM;go_wp2_with fail;refine(qd0 w0 p r n e w H.out hin).mono ?_;exact qjD
  ·have hb2:1099511627776<v:=by omega
   go_enter Tryz.func141,Tryz.ntmps141;go_wp2_with fail;refine(qjs A c r.1 w HR.out (by omega)).mono ?_;rintro en w' ⟨rfl,rfl⟩;rw[HD.out];unfold qjM;go_wp2_with fail;refine(qd0 w0 p r n e w H.out hin).mono ?_;exact qjD
 ·have HN:Hid (qit r=(v,qeM r n e)):=hJ (by unfold qit;rw[HD.out];simp only;rw[if_neg hb]);have hb1:¬v < -1:=fun h=>hb (.inl h);have hb2:¬1099511627776<v:=fun h=>hb (.inr h);clear hb;go_enter Tryz.func141,Tryz.ntmps141;go_wp2_with fail;refine(qjs A c r.1 w HR.out (by omega)).mono ?_;rintro en w' ⟨rfl,rfl⟩;rw[HD.out];unfold qjM;go_wp2_with fail;refine(qd0 w0 p r n e w H.out hin).mono ?_;exact qjc
theorem qtu(bs:List UInt8)(m:Nat):(qlE bs m).2.1≤bs.length:=by
 have h:=qgq bs m;unfold qlE;split
 ·exact zO _
 ·split
  ·exact zO _
  ·simp only;omega
theorem qgS(w0:World)(p:Nat)(r:Rd)(w:World)(h:RS w0 p w r) :
  Calls Tryz.prog 139 #[.pointer (some (Pq p 0))] w fun en w'=>en=.returned (.string (qaF (qnO r).1))∧RS w0 p w' (qnO r).2∧Wrote p w w':=by
 have H:=hJ h;obtain⟨A,c,k0,k1,f0,f1,HR,hc,hpl⟩:=h.parts;have h3:r.1.length≤1000000:=h.2.2.1;have hin:=qtu r.1 6000;obtain⟨⟨v,n,e⟩,hd⟩:∃d,qlE r.1 6000=d:=⟨_,rfl⟩;have HD:=hJ hd;rw[hd] at hin;simp only at hin;clear hd h;have HN:Hid (qnO r=(v,qeM r n e)):=hJ (by unfold qnO;rw[HD.out]);go_enter Tryz.func139,Tryz.ntmps139;go_wp2_with fail;refine(qnd A c r.1 6000 w HR.out hc (by omega) (by omega)).mono ?_;rintro en w' ⟨rfl,rfl⟩;rw[HD.out];unfold qvk;go_wp2_with fail;refine(qd0 w0 p r n e w H.out hin).mono ?_;exact qjc
theorem qfy{k:Nat}{r:Rd}{out:List Ent}(h:r.2=true):qcs k r out=(out,r):=by
 cases k with
 | zero=>rfl
 | succ k=>rw[qcs,if_pos h]
theorem qlN{k:Nat}{r:Rd}{out:List Ent}(h:r.2=false):qcs (k+1) r out=qcs k (qqd r).2 (out++[(qqd r).1]):=by
 rw[qcs,if_neg (by rw[h];simp)]
theorem qdL(e:Ent)(w:World):Row (w.alloc (.cells #[Jq e.v,Jq e.o,Jq e.q,.string (qaF e.p)] 66)) (some (Pq w.heap.size 0)) (qaH.cells [e]):=by
 intro _;refine⟨w.heap.size,0,rfl,by simp,fun j q hj=>?_⟩;simp only[Elem.cells,qaH,List.flatMap_cons,List.flatMap_nil,List.append_nil] at hj
 match j,hj with
 | 0,hj=>simpa using hj
 | 1,hj=>simpa using hj
 | 2,hj=>simpa using hj
 | 3,hj=>simpa using hj
theorem qfX{W:World}{v:Value}{l:List Ent}:∀q∈l,qaH.ok q∧∀r∈qaH.inn q,Row W r.1 r.2∧Apt v r:=fun _ _=>⟨trivial,fun r hr=>by simp[qaH] at hr⟩
theorem Wrote.ob{w w':World}{p B:Nat}{v:Value}{l:List Ent}(h:Wrote p w w')(ho:qaH.OB w B v l)(hp:∀k,v.ownBlock=some k→k≠p):qaH.OB w' B v l:=
 ⟨ho.1.keep fun k hk hlt=>h.blk hlt (hp k hk),fun a ha=>⟨(ho.2 a ha).1,fun r hr=>by simp[qaH] at hr⟩⟩
theorem Grew.wrote{a b:World}{v:Value}(g:Grew a b v){p B:Nat}{w0:World}(h:Wrote p w0 a)(hB:w0.heap.size≤B)(hv:∀k,v.ownBlock=some k→B≤k):Wrote p w0 b:=
 ⟨g.os.trans h.os,g.tape.trans h.tape,g.output.trans h.output,zL h.size g.size,fun k hk hne=>(g.block k (Nat.lt_of_lt_of_le hk h.size) (fun e=>by have:=hv k e.symm;omega)).trans (World.grownBy.block h k hk hne)⟩
theorem Grew.rs{a b:World}{v:Value}(g:Grew a b v){p:Nat}{w0:World}{r:Rd}(h:RS w0 p a r)(hv:∀k,v.ownBlock=some k→k≠p∧w0.heap.size≤k):RS w0 p b r:=by
 obtain⟨h1,h2,h3,A,c,hb,hr,hc⟩:=h;exact⟨h1,g.below h2 h2.size (fun k hk=>(hv k hk).2),h3,A,c,hb.same (g.block p hb.lt (fun e=>(hv p e.symm).1 rfl)),hr,hc⟩
theorem qeU(w0:World)(p:Nat)(r:Rd)(w:World)(h:RS w0 p w r) :
  Calls Tryz.prog 140 #[.pointer (some (Pq p 0))] w fun en w'=>∃A c,en=.returned (.slice A (qdo r).1.length c)∧(qdo r).1.length≤c∧c≤maxLen∧qaH.OB w' w.heap.size (.slice A (qdo r).1.length c) (qdo r).1∧RS w0 p w' (qdo r).2∧Wrote p w w':=by
 have H:=hJ h;obtain⟨A,c,k0,k1,f0,f1,HR,hc,hpl⟩:=h.parts;clear h k0 k1 f0 f1 HR hc;have hnn:0≤(qdS r).1∧(qdS r).1≤1099511627776:=by
  unfold qdS;split
  ·simp
  ·simp only;omega
 obtain⟨⟨n,r1⟩,hn⟩:∃d,qdS r=d:=⟨_,rfl⟩;have HN:=hJ hn;rw[hn] at hnn;simp only at hnn;obtain⟨m,rfl⟩:∃m:Nat,n=(m:Int):=⟨n.toNat,by omega⟩;clear hn;have HER:Hid (qdo r=qcs m (if 2000<(m:Int) then (r1.1,true) else r1) []):=hJ (by unfold qdo;rw[HN.out];simp);go_enter Tryz.func140,Tryz.ntmps140;go_wp2_with fail;refine(qba w0 p r w H.out).mono ?_;rintro en w1 ⟨rfl,hr1,hw1⟩;rw[HN.out] at hr1⊢;simp only at hr1;have H1:=hJ hr1;have W1:=hJ hw1;obtain⟨A1,c1,k0',k1',f0',f1',HR1,hc1,hpl1⟩:=hr1.parts;clear hr1 hw1;by_cases hbig:2000<m
 ·have hdd:decide ((2000:Int)<(m:Int))=true:=by simp;omega
  have HF:Hid (qdo r=([],(r1.1,true))):=hJ (by rw[HER.out,if_pos (by omega)];exact qfy rfl);go_wp2;go_loopw [3,4] (fun ct v wr=>∃(k:Nat) (out:List Ent) (r':Rd) (v':Value),v'=v∧ct=Jq (k:Int)∧Hid (qcs k r' out=qdo r)∧(r'.2=true∨out.length+k≤2000)∧k≤1099511627776∧Hid (qaH.OB wr w.heap.size v' out)∧Hid (RS w0 p wr r')∧Hid (Wrote p w wr)) (fun ct _ _=>(intOf ct).toNat)
  case atStart=>exact⟨m,[],(r1.1,true),_,rfl,rfl,hJ (by rw[HF.out];exact qfy rfl),.inl rfl,by omega,hJ (Elem.OB.nil _ _),hJ (H1.out.failed true),hJ (W1.out.trans (Wrote.set _ _ _ _))⟩
  case round=>
   exact qmv
 ·have hdd:decide ((2000:Int)<(m:Int))=false:=by simp;omega
  have HF:Hid (qdo r=qcs m r1 []):=hJ (by rw[HER.out,if_neg (by omega)]);go_wp2;go_loopw [3,4] (fun ct v wr=>∃(k:Nat) (out:List Ent) (r':Rd) (v':Value),v'=v∧ct=Jq (k:Int)∧Hid (qcs k r' out=qdo r)∧(r'.2=true∨out.length+k≤2000)∧k≤1099511627776∧Hid (qaH.OB wr w.heap.size v' out)∧Hid (RS w0 p wr r')∧Hid (Wrote p w wr)) (fun ct _ _=>(intOf ct).toNat)
  case atStart=>exact⟨m,[],r1,_,rfl,rfl,hJ (by rw[HF.out]),.inr (by simp;omega),by omega,hJ (Elem.OB.nil _ _),H1,W1⟩
  case round=>
   exact qmv
theorem qhq{w:World}{A:Option Addr}{l:List Ent}(h:Row w A (qaH.cells l)):qaH.Box w A l:=⟨h,fun _ _=>⟨trivial,fun r hr=>by simp[qaH] at hr⟩⟩
theorem qsU{w:World}{A:Option Addr}{l:List (List UInt8)}(h:Row w A (qdC.cells l)):qdC.Box w A l:=⟨h,fun _ _=>⟨trivial,fun r hr=>by simp[qdC] at hr⟩⟩
theorem qrb{w:World}{A:Option Addr}{l:List (Int×Int)}(h:Row w A (qat.cells l)):qat.Box w A l:=⟨h,fun _ _=>⟨trivial,fun r hr=>by simp[qat] at hr⟩⟩
theorem qsC{w:World}{B:Nat}{A:Option Addr}{n c:Nat}{l:List FlM}(h:flE.OB w B (.slice A n c) l)(hp:0<l.length):∃g,A=some (Pq g 0)∧g<w.heap.size∧∀i,w.frozen? (Pq g i)=false:=by
 obtain⟨_,h2⟩:=h.1;rcases h2 with ⟨_,hn⟩|⟨g,cap,cur,hv,_,hh,_⟩
 ·omega
 ·simp only[Value.slice.injEq] at hv;have hg:g<w.heap.size:=by
   rcases Nat.lt_or_ge g w.heap.size with hlt|hge
   ·exact hlt
   ·rw[Array.getElem?_eq_none hge] at hh;cases hh
  exact⟨g,hv.1,hg,fun i=>by simp[World.frozen?,hh]⟩
theorem BM.Fits.of_st{b b':BM}(h:b.Fits)(e:b'.st=b.st)(hc:b'.log.length≤b'.cl∧b'.cl≤maxLen):b'.Fits:=by
 simp only[BM.st,St.mk.injEq] at e;obtain⟨_,e2,_,e4,_,_,e7,e8,e9⟩:=e;refine⟨by rw[←qaX,e2,qaX];exact h.vs,fun v hv=>?_,by rw[e4];exact h.log,by rw[e4];exact h.lp,by rw[e7];exact h.pend,by rw[e7];exact h.pp,by rw[e8];exact h.marks,?_,fun f hf=>?_,hc⟩
 ·have:v.v∈vws b.vs:=by rw[←e2];exact List.mem_map_of_mem hv
  obtain⟨u,hu,hv2⟩:=List.mem_map.1 this;have:=h.vx u hu;simp only[VwM.v,Prod.mk.injEq] at hv2;rw[←hv2.2];exact this
 ·have:=congrArg List.length e9;simp only[zP] at this;rw[this];exact h.fls
 ·have:f.v∈b.fls.map FlM.v:=by rw[←e9];exact List.mem_map_of_mem hf
  obtain⟨u,hu,hv2⟩:=List.mem_map.1 this;have:=h.fl u hu;simp only[FlM.v,Prod.mk.injEq] at hv2;rw[←hv2.2.2];exact this
def qfz(p n1 n2 n3 n4 n5:Nat):Nat→Nat:=fun k=>if k<p then 8 else if k=p∨k=p+1 then 1 else if k<n1 then 0 else if k<n2 then 2 else if k<n3 then 6 else if k<n4 then 3 else if k<n5 then 4 else 0
section
variable {p n1 n2 n3 n4 n5 k:Nat}
theorem qu9:qfz p n1 n2 n3 n4 n5 p=1∧qfz p n1 n2 n3 n4 n5 (p+1)=1:=by constructor<;>(unfold qfz;rw[if_neg (by omega),if_pos (by omega)])
theorem qvf(h:k<p):qfz p n1 n2 n3 n4 n5 k=8:=by unfold qfz;rw[if_pos h]
theorem quw(h:k<n1)(hp:p+1<k):qfz p n1 n2 n3 n4 n5 k=0:=by unfold qfz;rw[if_neg (by omega),if_neg (by omega),if_pos h]
theorem qu1(h0:p+1<n1)(h:n1≤k)(h':k<n2):qfz p n1 n2 n3 n4 n5 k=2:=by unfold qfz;rw[if_neg (by omega),if_neg (by omega),if_neg (by omega),if_pos h']
theorem quS(h0:p+1<n1)(h1:n1≤n2)(h:n2≤k)(h':k<n3):qfz p n1 n2 n3 n4 n5 k=6:=by unfold qfz;rw[if_neg (by omega),if_neg (by omega),if_neg (by omega),if_neg (by omega),if_pos h']
theorem qu6(h0:p+1<n1)(h1:n1≤n2)(h2:n2≤n3)(h:n3≤k)(h':k<n4):qfz p n1 n2 n3 n4 n5 k=3:=by unfold qfz;rw[if_neg (by omega),if_neg (by omega),if_neg (by omega),if_neg (by omega),if_neg (by omega),if_pos h']
theorem quk(h0:p+1<n1)(h1:n1≤n2)(h2:n2≤n3)(h3:n3≤n4)(h:n4≤k)(h':k<n5):qfz p n1 n2 n3 n4 n5 k=4:=by unfold qfz;rw[if_neg (by omega),if_neg (by omega),if_neg (by omega),if_neg (by omega),if_neg (by omega),if_neg (by omega),if_pos h']
theorem qu2(h0:p+1<n1)(h1:n1≤n2)(h2:n2≤n3)(h3:n3≤n4)(h4:n4≤n5)(h:n5≤k):qfz p n1 n2 n3 n4 n5 k=0:=by unfold qfz;rw[if_neg (by omega),if_neg (by omega),if_neg (by omega),if_neg (by omega),if_neg (by omega),if_neg (by omega),if_neg (by omega)]
end
structure OffS(col:Nat→Nat)(cs:List Nat)(w w':World):Prop where
 size:w.heap.size≤w'.heap.size
 block:∀k,k<w.heap.size→col k∉cs→w'.heap[k]?=w.heap[k]?
theorem OffS.ext{col:Nat→Nat}{cs:List Nat}{w w':World}(h:Ext w w'):OffS col cs w w':=⟨h.size,fun k hk _=>h.block k hk⟩
theorem OffS.trans{col:Nat→Nat}{cs:List Nat}{w w' w'':World}(h:OffS col cs w w')(h':OffS col cs w' w''):OffS col cs w w'':=
 ⟨zL h.size h'.size,fun k hk hc=>(h'.block k (Nat.lt_of_lt_of_le hk h.size) hc).trans (h.block k hk hc)⟩
theorem OffS.row{col:Nat→Nat}{k:Nat}{cs:List Nat}{w w':World}{A:Option Addr}{xs:List Value}(o:OffS col cs w w')(h:Row w A xs)(hc:ColR col k A xs)(hk:k∉cs):Row w' A xs:=by
 intro hx;obtain⟨b,off,h1,h2,h3⟩:=h hx;refine⟨b,off,h1,Nat.lt_of_lt_of_le h2 o.size,fun j u hj=>?_⟩;have hb:w'.heap[b]?=w.heap[b]?:=o.block b h2 (by rw[hc _ hx h1];exact hk);exact(World.cell?_of_block (a:=⟨b,off+j,none⟩) hb).trans (h3 j u hj)
theorem OffS.own{α:Type}{E:Elem α}{col:Nat→Nat}{k B:Nat}{cs:List Nat}{w w':World}{v:Value}{l:List α}(o:OffS col cs w w')(h:E.Own w B v l)(hc:ColV col k v)(hk:k∉cs):E.Own w' B v l:=
 h.keep fun q hq hlt=>o.block q hlt (by rw[hc q hq];exact hk)
theorem ColV.row{α:Type}{E:Elem α}{B:Nat}{w:World}{col:Nat→Nat}{k n c:Nat}{A:Option Addr}{l:List α}{xs:List Value}(h:ColV col k (.slice A n c))(ho:E.Own w B (.slice A n c) l):ColR col k A xs:=by
 intro p _ hp;subst hp;exact h p.block rfl
theorem qui{col:Nat→Nat}{c B:Nat}{w w':World}{v:Value}{l:List FlM}(o:Off col c w w')(h:flE.OB w B v l)(hv:ColV col 4 v)(hi:∀f∈l,ColR col 0 f.A (qaH.cells f.log))(h0:0≠c)(h4:4≠c):flE.OB w' B v l:=by
 refine⟨o.own h.1 hv h4,fun f hf=>⟨(h.2 f hf).1,fun r hr=>⟨?_,((h.2 f hf).2 r hr).2⟩⟩⟩;have h1:=((h.2 f hf).2 r hr).1;simp only[flE,zC,zN,or_false] at hr;subst hr;exact o.row h1 (hi f hf) h0
theorem qbU{w:World}{p:Nat}{a0 a1 a2 a3 a4 a5 a6 a7 a8:Value}{t:TypeId}(h:BIs w p #[a0,a1,a2,a3,a4,a5,a6,a7,a8] t):w.cell? (Pq p 0)=some a0∧w.cell? (Pq p 1)=some a1∧w.cell? (Pq p 2)=some a2∧w.cell? (Pq p 3)=some a3∧w.cell? (Pq p 4)=some a4∧w.cell? (Pq p 5)=some a5∧w.cell? (Pq p 6)=some a6∧w.cell? (Pq p 7)=some a7∧w.cell? (Pq p 8)=some a8:=
 ⟨h.cell 0,h.cell 1,h.cell 2,h.cell 3,h.cell 4,h.cell 5,h.cell 6,h.cell 7,h.cell 8⟩
theorem qaO{w:World}{r:Nat}{x0 x1 x2 x3 x4 x5 x6 x7 x8 a0 a1 a2 a3 a4 a5 a6 a7 a8:Value}{t:TypeId}(h:BIs w r #[x0,x1,x2,x3,x4,x5,x6,x7,x8] t):BIs (((((((((w.setCell (Pq r 0) a0).setCell (Pq r 1) a1).setCell (Pq r 2) a2).setCell (Pq r 3) a3).setCell (Pq r 4) a4).setCell (Pq r 5) a5).setCell (Pq r 6) a6).setCell (Pq r 7) a7).setCell (Pq r 8) a8) r #[a0,a1,a2,a3,a4,a5,a6,a7,a8] t:=by
 have h0:BIs (w.setCell (Pq r 0) a0) r #[a0,x1,x2,x3,x4,x5,x6,x7,x8] t:=h.set 0 a0;have h1:BIs ((w.setCell (Pq r 0) a0).setCell (Pq r 1) a1) r #[a0,a1,x2,x3,x4,x5,x6,x7,x8] t:=h0.set 1 a1;have h2:BIs (((w.setCell (Pq r 0) a0).setCell (Pq r 1) a1).setCell (Pq r 2) a2) r #[a0,a1,a2,x3,x4,x5,x6,x7,x8] t:=h1.set 2 a2;have h3:BIs ((((w.setCell (Pq r 0) a0).setCell (Pq r 1) a1).setCell (Pq r 2) a2).setCell (Pq r 3) a3) r #[a0,a1,a2,a3,x4,x5,x6,x7,x8] t:=h2.set 3 a3;have h4:BIs (((((w.setCell (Pq r 0) a0).setCell (Pq r 1) a1).setCell (Pq r 2) a2).setCell (Pq r 3) a3).setCell (Pq r 4) a4) r #[a0,a1,a2,a3,a4,x5,x6,x7,x8] t:=h3.set 4 a4;have h5:BIs ((((((w.setCell (Pq r 0) a0).setCell (Pq r 1) a1).setCell (Pq r 2) a2).setCell (Pq r 3) a3).setCell (Pq r 4) a4).setCell (Pq r 5) a5) r #[a0,a1,a2,a3,a4,a5,x6,x7,x8] t:=h4.set 5 a5;have h6:BIs (((((((w.setCell (Pq r 0) a0).setCell (Pq r 1) a1).setCell (Pq r 2) a2).setCell (Pq r 3) a3).setCell (Pq r 4) a4).setCell (Pq r 5) a5).setCell (Pq r 6) a6) r #[a0,a1,a2,a3,a4,a5,a6,x7,x8] t:=h5.set 6 a6;have h7:BIs ((((((((w.setCell (Pq r 0) a0).setCell (Pq r 1) a1).setCell (Pq r 2) a2).setCell (Pq r 3) a3).setCell (Pq r 4) a4).setCell (Pq r 5) a5).setCell (Pq r 6) a6).setCell (Pq r 7) a7) r #[a0,a1,a2,a3,a4,a5,a6,a7,x8] t:=h6.set 7 a7;have h8:BIs (((((((((w.setCell (Pq r 0) a0).setCell (Pq r 1) a1).setCell (Pq r 2) a2).setCell (Pq r 3) a3).setCell (Pq r 4) a4).setCell (Pq r 5) a5).setCell (Pq r 6) a6).setCell (Pq r 7) a7).setCell (Pq r 8) a8) r #[a0,a1,a2,a3,a4,a5,a6,a7,a8] t:=h7.set 8 a8;exact h8
theorem qaj{w:World}{r:Nat}{a0 a1 a2 a3 a4 a5 a6 a7 a8:Value}:Wrote r w (((((((((w.setCell (Pq r 0) a0).setCell (Pq r 1) a1).setCell (Pq r 2) a2).setCell (Pq r 3) a3).setCell (Pq r 4) a4).setCell (Pq r 5) a5).setCell (Pq r 6) a6).setCell (Pq r 7) a7).setCell (Pq r 8) a8):=
 ((((((((Wrote.set r 0 w a0).trans (Wrote.set r 1 _ a1)).trans (Wrote.set r 2 _ a2)).trans (Wrote.set r 3 _ a3)).trans (Wrote.set r 4 _ a4)).trans (Wrote.set r 5 _ a5)).trans (Wrote.set r 6 _ a6)).trans (Wrote.set r 7 _ a7)).trans (Wrote.set r 8 _ a8)
theorem OffS.wrote{col:Nat→Nat}{cs:List Nat}{p:Nat}{w w':World}(h:Wrote p w w')(hc:p<w.heap.size→col p∈cs):OffS col cs w w':=
 ⟨h.size,fun k hk hn=>h.blk hk (fun e=>hn (by subst e;exact hc hk))⟩
def BM.Cloned(w:World)(b:BM)(en:Ending)(w':World):Prop:=
 ∃(b':BM) (col:Nat→Nat),en=.returned (.agg b'.cells)∧b'.st=b.st∧b'.Fits∧b'.Lies w' w.heap.size col∧(∀k,k<w.heap.size→col k=8)∧qdC.Own w' w.heap.size (.slice b'.Ap b'.pend.length b'.cp) b'.pend∧ColV col 6 (.slice b'.Ap b'.pend.length b'.cp)∧Ext w w'
theorem qge(b:BM)(w:World)(h:b.Reads w)(hf:b.Fits):Calls Tryz.prog 39 #[.agg b.cells] w (b.Cloned w):=by
 have H0:=hJ (Ext.new w (.cells b.cells 28));have X0:Hid (Ext (w.alloc (.cells b.cells 28)) ((w.alloc (.cells b.cells 28)).alloc (.cells Yq 28))):=hJ (Ext.new _ _);have HR:=hJ h;have HFT:=hJ hf;have HWX:Hid (Ext w (w.alloc (.cells b.cells 28))):=H0;have HR0:=hJ (h.ext (H0.out.trans X0.out));have hvs:b.vs.length≤1000000:=by have:=hf.vs;omega
 have hlg:b.log.length≤1000000:=by have:=hf.log;omega
 have hpd:b.pend.length≤1000000:=by have:=hf.pend;omega
 have hmk:b.marks.length≤1000000:=by have:=hf.marks;omega
 have hfs:b.fls.length≤1000000:=by have:=hf.fls;omega
 clear h hf;unfold BM.cells at H0⊢;go_enter Tryz.func39,Tryz.ntmps39;go_wp2;refine E_g 13 (fun w'=>w'.cell? (Pw w 1)=some (.slice b.Av b.vs.length b.cv)∧w'.cell? (Pw w 3)=some (.slice b.Al b.log.length b.cl)∧w'.cell? (Pw w 6)=some (.slice b.Ap b.pend.length b.cp)∧w'.cell? (Pw w 7)=some (.slice b.Am b.marks.length b.cm)) ⟨by simp,by simp,by simp,by simp⟩ (fun yH=>?_);refine E_t2 0 4 ?_;refine E_t2 3 7 ?_;refine E_t2 6 10 ?_;refine E_t2 9 13 ?_;refine E_r 2 (some 6) fun K hK=>?_;go_simp;go_at_call 93;refine(qfp b.Av b.cv b.vs _ (HR0.out.ext zW).vs hvs HFT.out.vx).mono ?_;rintro e w1 ⟨l1,HV1,HNV,A1,c1,rfl,h11,h12,ho,hx⟩;have HO1:=hJ ho;have E01:Hid (Ext ((w.alloc (.cells b.cells 28)).alloc (.cells Yq 28)) w1):=hJ (Ext.trans zW hx);clear ho;have Xw1:=hJ (Ext.trans (X0.out.drew) hx);obtain⟨q0,q1,q2,q3,q4,q5,q6,q7,q8,zz⟩:=qmw (b:=b) Xw1.out;clear hx;clear yH;refine hK.out _ _ ⟨q1,q3,q6,q7⟩ (fun yH=>?_);clear hK K;try simp only[Act.put,aP1,aP2,aP3]
 refine E_t 12 16 ?_;refine E_r 5 (some 9) fun K hK=>?_;go_simp;go_at_call 108;refine(qd2 b.Al b.cl b.log _ (qhq (HR.out.ext (HWX.out.trans Xw1.out)).log) hlg).mono ?_;rintro e w2 ⟨A2,c2,rfl,h21,h22,ho,hx⟩;have HO2:=hJ ho;have E12:=hJ hx;clear ho;have Xw2:=hJ (Ext.trans Xw1.out hx);obtain⟨q0,q1,q2,q3,q4,q5,q6,q7,q8,zz⟩:=qmw (b:=b) Xw2.out;clear hx;clear yH;refine hK.out _ _ ⟨q1,q3,q6,q7⟩ (fun yH=>?_);clear hK K;try simp only[Act.put,aP1,aP2,aP3]
 refine E_r 8 (some 12) fun K hK=>?_;go_simp;go_at_call 109;refine(qnH b.Ap b.cp b.pend _ (qsU (HR.out.ext (HWX.out.trans Xw2.out)).pend) hpd).mono ?_;rintro e w3 ⟨A3,c3,rfl,h31,h32,ho,hx⟩;have HO3:=hJ ho;have E23:=hJ hx;clear ho;have Xw3:=hJ (Ext.trans Xw2.out hx);obtain⟨q0,q1,q2,q3,q4,q5,q6,q7,q8,zz⟩:=qmw (b:=b) Xw3.out;clear hx;clear yH;refine hK.out _ _ ⟨q1,q3,q6,q7⟩ (fun yH=>?_);clear hK K;try simp only[Act.put,aP1,aP2,aP3]
 refine E_r 11 (some 15) fun K hK=>?_;go_simp;go_at_call 110;refine(qkS b.Am b.cm b.marks _ (qrb (HR.out.ext (HWX.out.trans Xw3.out)).marks) hmk).mono ?_;rintro e w4 ⟨A4,c4,rfl,h41,h42,ho,hx⟩;have HO4:=hJ ho;have E34:=hJ hx;clear ho;have Xw4:=hJ (Ext.trans Xw3.out hx);obtain⟨q0,q1,q2,q3,q4,q5,q6,q7,q8,zz⟩:=qmw (b:=b) Xw4.out;clear hx;clear yH;refine hK.out _ _ ⟨q1,q3,q6,q7⟩ (fun yH=>?_);clear hK K;try simp only[Act.put,aP1,aP2,aP3]
 refine E_l ?_;have Y4:=hJ (BIs.ext (BIs.new w b.cells 28) Xw4.out);have Z4:Hid (BIs w4 (w.heap.size+1) Yq 28):=hJ (by have:=BIs.ext (BIs.new _ _ _) (E01.out.trans (E12.out.trans (E23.out.trans E34.out)));simpa using this);have HL1:=hJ (show l1.length=b.vs.length by have:=congrArg List.length HV1.out;simpa[qaX] using this);have z1:Hid (w.heap.size+1<w1.heap.size):=hJ (by have:=E01.out.size;simp at this;omega);obtain⟨f0,f1,f2,f3,f4,f5,f6,f7,f8⟩:=Y4.out.free9;go_wp2_with fail;refine(qoC b.Af b.cf b.fls _ ?_ hfs).mono ?_
 ·exact(HR.out.ext (((((HWX.out.trans Xw4.out).set (by simp) _).set (by simp) _).set (by simp) _).set (by simp) _)).fls
 rintro e w5 ⟨A5,c5,rfl,h51,h52,ho5,hx5⟩;have Y5:Hid (BIs w5 w.heap.size #[Jq b.self,.slice A1 l1.length c1,Jq b.base,.slice A2 b.log.length c2,Jq b.stable,Jq b.sent,.slice A3 b.pend.length c3,.slice A4 b.marks.length c4,.slice b.Af b.fls.length b.cf] 28):=hJ (BIs.ext ((((Y4.out.set 1 (.slice A1 l1.length c1)).set 3 (.slice A2 b.log.length c2)).set 6 (.slice A3 b.pend.length c3)).set 7 (.slice A4 b.marks.length c4)) hx5);have HO5:=hJ ho5;have E5:Hid (Ext ((((w4.setCell (Pw w 1) (.slice A1 l1.length c1)).setCell (Pw w 3) (.slice A2 b.log.length c2)).setCell (Pw w 6) (.slice A3 b.pend.length c3)).setCell (Pw w 7) (.slice A4 b.marks.length c4)) w5):=hJ hx5;clear ho5 hx5;have W45:Hid (Wrote w.heap.size w4 (w5.setCell (Pw w 8) (.slice A5 b.fls.length c5))):=hJ ((((((Wrote.set _ _ _ _).trans (Wrote.set _ _ _ _)).trans (Wrote.set _ _ _ _)).trans (Wrote.set _ _ _ _)).trans (Wrote.of E5.out)).trans (Wrote.set _ _ _ _));have BP:Hid (BIs (w5.setCell (Pw w 8) (.slice A5 b.fls.length c5)) w.heap.size #[Jq b.self,.slice A1 l1.length c1,Jq b.base,.slice A2 b.log.length c2,Jq b.stable,Jq b.sent,.slice A3 b.pend.length c3,.slice A4 b.marks.length c4,.slice A5 b.fls.length c5] 28):=hJ (Y5.out.set 8 _);have BR:Hid (BIs (w5.setCell (Pw w 8) (.slice A5 b.fls.length c5)) (w.heap.size+1) Yq 28):=hJ (W45.out.bis Z4.out (by omega));have hn45:Hid (w4.heap.size≤(w5.setCell (Pw w 8) (.slice A5 b.fls.length c5)).heap.size):=hJ W45.out.size;have hlt5:Hid (w.heap.size+1<w4.heap.size):=hJ Z4.out.lt;have hs4:((((w4.setCell (Pw w 1) (.slice A1 l1.length c1)).setCell (Pw w 3) (.slice A2 b.log.length c2)).setCell (Pw w 6) (.slice A3 b.pend.length c3)).setCell (Pw w 7) (.slice A4 b.marks.length c4)).heap.size=w4.heap.size:=by simp[World.setCell]
 have OF:Hid (flE.OB (w5.setCell (Pw w 8) (.slice A5 b.fls.length c5)) w4.heap.size (.slice A5 b.fls.length c5) b.fls):=hJ (by
  have ho:=HO5.out;rw[hs4] at ho;refine⟨ho.1.keep fun k hk hlt=>(Wrote.set w.heap.size 8 w5 _).blk hlt (by have:=(ho.1.lt k hk).1;have:=hlt5.out;omega),fun f hf=>⟨(ho.2 f hf).1,fun r hr=>⟨?_,((ho.2 f hf).2 r hr).2⟩⟩⟩;have hr':=hr;simp only[flE,zC,zN,or_false] at hr;subst hr;exact qep ((ho.2 f hf).2 (f.A,qaH.cells f.log) hr').1 (fun q hne hq=>by have:=qgV ((HR.out.fls.2 f hf).2 (f.A,qaH.cells f.log) hr') hne hq;simp;omega))
 obtain⟨g0,hg0,hgo⟩:∃g0,w4.heap.size≤g0∧∀q,(Value.slice A5 b.fls.length c5).ownBlock=some q→q=g0:=by
  rcases A5 with _|ad
  ·exact⟨w4.heap.size,zR _,fun q hq=>by simp[Value.ownBlock] at hq⟩
  ·exact⟨ad.block,(OF.out.1.lt ad.block rfl).1,fun q hq=>by simp only[Value.ownBlock,zJ] at hq;exact hq.symm⟩
 have HGO:=hJ hgo;clear hgo hs4;have t8:w5.cell? (Pw w 8)=some (.slice b.Af b.fls.length b.cf):=Y5.out.cell 8;have s8:=Y5.out.free 8;go_wp2;clear t8 s8;have W4U:=W45;clear Y4 Z4 Y5 q0 q1 q2 q3 q4 q5 q6 q7 q8 f0 f1 f2 f3 f4 f5 f6 f7 f8 W45 yH;generalize w5.setCell (Pw w 8) (.slice A5 b.fls.length c5)=u5 at *;go_loopw [27] (fun i wr=>∃(k:Nat) (l':List FlM),k≤b.fls.length∧i=Jq k∧Hid (l'.length=b.fls.length)∧Hid (flv l'=flv b.fls)∧Hid (flE.OB wr w4.heap.size (.slice A5 b.fls.length c5) l')∧Hid (∀i f,i<k→l'[i]?=some f→∀q,qaH.cells f.log≠[]→f.A=some q→u5.heap.size≤q.block)∧Hid (Wrote g0 u5 wr)) (fun i _=>b.fls.length - (intOf i).toNat)
 case atStart=>exact⟨0,b.fls,zO _,rfl,hJ rfl,hJ rfl,OF,hJ (fun i f hi=>absurd hi (Nat.not_lt_zero _)),hJ (Wrote.refl _ _)⟩
 case round=>
  obtain⟨k,l',hk,rfl,HLL,HFV,HOB,HIN,HW⟩:=hrel;have BPr:=hJ (HW.out.bis BP.out (by have:=hlt5.out;omega));by_cases hlt:k<b.fls.length
  ·have hlt':k<l'.length:=by rw[HLL.out];exact hlt
   obtain⟨g,rfl,hgl,hgf⟩:=qsC HOB.out (by omega);have hgg:g=g0:=HGO.out g rfl;subst hgg;have HBX:Hid (flE.Box wr (some (Pq g 0)) l'):=hJ (by
    obtain⟨A',c',hv,_,_,hb⟩:=HOB.out.slice;simp only[Value.slice.injEq] at hv;rw[hv.1];exact hb)
   obtain⟨bb,off,f,hA,hb,c0,c1',c2',HFR,HX⟩:=qie HBX.out hlt';simp only[zJ,Addr.mk.injEq,and_true] at hA;obtain⟨rfl,rfl⟩:=hA;simp only[Nat.zero_add] at c0 c1' c2';have f2:=hgf (k*3+2);have p8:wr.cell? (Pw w 8)=some (.slice (some (Pq g 0)) b.fls.length c5):=BPr.out.cell 8;have hpr:w.heap.size<wr.heap.size:=BPr.out.lt;have hfl:f.log.length≤1000000:=by
    have hm:f.v∈flv b.fls:=by rw[←HFV.out];exact List.mem_map_of_mem (zX HX.out)
    obtain⟨u,hu,hv2⟩:=List.mem_map.1 hm;have:=(HFT.out.fl u hu).1;simp only[FlM.v,Prod.mk.injEq] at hv2;rw[←hv2.2.2];omega
   clear c0 c1' hgf;go_wp2;refine E_g 10 (fun w'=>w'.cell? (Pw w 8)=some (.slice (some (Pq g 0)) b.fls.length c5)∧Cq w' g (k*3+2) (.slice f.A f.log.length f.c)) ⟨p8,c2'⟩ (fun yH=>?_);refine E_t4 0 30 ?_;refine E_t4 4 34 ?_;refine E_t 8 38 ?_;refine E_r 9 (some 39) fun K hK=>?_;go_simp;go_at_call 108;refine(qd2 f.A f.c f.log _ (qhq (HFR.out.ext zW)) hfl).mono ?_;rintro e w6 ⟨A6,c6,rfl,h61,h62,ho6,hx6⟩;have HO6:=hJ ho6;have E6:Hid (Ext wr w6):=hJ (Ext.trans zW hx6);have s8:w6.cell? (Pw w 8)=some (.slice (some (Pq g 0)) b.fls.length c5):=by rw[E6.out.cell (by exact hpr)];exact p8
   have d2:w6.cell? (Pq g (k*3+2))=some (.slice f.A f.log.length f.c):=by rw[E6.out.cell (by exact hb)];exact c2'
   have g2:w6.frozen? (Pq g (k*3+2))=false:=by rw[E6.out.frozen (by exact hb)];exact f2
   clear ho6 hx6;clear yH;refine hK.out _ _ ⟨s8,d2⟩ (fun yH=>?_);clear hK K;try simp only[Act.put,aP1,aP2,aP3]
   refine E_l ?_;have HO7:Hid (flE.OB w6 w4.heap.size (.slice (some (Pq g 0)) l'.length c5) l'):=hJ (by rw[HLL.out];exact HOB.out.ext E6.out);have HR6:Hid (Row w6 A6 (qaH.cells f.log)):=hJ HO6.out.1.row;have HN6:Hid (qtW wr A6 (qaH.cells f.log)):=hJ (fun q _ hq=>by subst hq;exact(HO6.out.1.lt q.block rfl).1);have HO8:=hJ (qsG (k:=k) HO7.out HX.out h61 h62 HR6.out (qhj (E:=flE) (wc:=wr) (B:=w4.heap.size) (l:=l') HN6.out (by rw[HLL.out];exact HOB.out.1)));have hszr:Hid (u5.heap.size≤wr.heap.size):=hJ HW.out.size;go_wp2;go_roundw
   case rel=>exact⟨k+1,l'.set k ⟨f.m,f.b,A6,c6,f.log⟩,by omega,by go_num,hJ (by rw[List.length_set];exact HLL.out),hJ (by rw[qss HX.out];exact HFV.out),hJ (by have:=HO8.out;rw[HLL.out] at this;exact this),hJ (fun i f' hi hf' q hne hq=>by
    rw[List.getElem?_set] at hf';split at hf'
    ·cases hf';exact zL hszr.out (HN6.out q hne hq)
    ·exact HIN.out i f' (by omega) hf' q hne hq),hJ ((HW.out.trans (Wrote.of E6.out)).trans (Wrote.set _ _ _ _))⟩
   case measure=>simp[intOf];omega
  ·have BRr:=hJ (HW.out.bis BR.out (by have:=hlt5.out;omega));obtain⟨q0,q1,q2,q3,q4,q5,q6,q7,q8⟩:=qbU BPr.out;obtain⟨z0,z1,z2,z3,z4,z5,z6,z7,z8⟩:=BRr.out.free9;obtain⟨y0,y1,y2,y3,y4,y5,y6,y7,y8⟩:=qbU BRr.out;have hp1:w.heap.size+1≠w.heap.size:=by omega
   go_wp2;generalize hQ:(((((((((wr.setCell (Pv w 0) (Jq b.self)).setCell (Pv w 1) (.slice A1 l1.length c1)).setCell (Pv w 2) (Jq b.base)).setCell (Pv w 3) (.slice A2 b.log.length c2)).setCell (Pv w 4) (Jq b.stable)).setCell (Pv w 5) (Jq b.sent)).setCell (Pv w 6) (.slice A3 b.pend.length c3)).setCell (Pv w 7) (.slice A4 b.marks.length c4)).setCell (Pv w 8) (.slice A5 b.fls.length c5))=wF at *;have W9:Hid (Wrote (w.heap.size+1) wr wF):=(by subst hQ;exact hJ qaj);have BF:Hid (BIs wF (w.heap.size+1) #[Jq b.self,.slice A1 l1.length c1,Jq b.base,.slice A2 b.log.length c2,Jq b.stable,Jq b.sent,.slice A3 b.pend.length c3,.slice A4 b.marks.length c4,.slice A5 b.fls.length c5] 28):=(by subst hQ;exact hJ (qaO BRr.out));clear q0 q1 q2 q3 q4 q5 q6 q7 q8 z0 z1 z2 z3 z4 z5 z6 z7 z8 y0 y1 y2 y3 y4 y5 y6 y7 y8;clear hQ;obtain⟨e0,e1,e2,e3,e4,e5,e6,e7,e8⟩:=qbU BF.out;refine bodyPost_ret (v:=.agg #[Jq b.self,.slice A1 l1.length c1,Jq b.base,.slice A2 b.log.length c2,Jq b.stable,Jq b.sent,.slice A3 b.pend.length c3,.slice A4 b.marks.length c4,.slice A5 b.fls.length c5]) (by simp[results,Tryz.results39,go_sem,e0,e1,e2,e3,e4,e5,e6,e7,e8]) rfl ?_;have z12:=E12.out.size;have z23:=E23.out.size;have z34:=E34.out.size;have z1':=z1.out;have z45:=hn45.out;have hu1:=qu9 (p:=w.heap.size) (n1:=w1.heap.size) (n2:=w2.heap.size) (n3:=w3.heap.size) (n4:=w4.heap.size) (n5:=u5.heap.size);have O9:OffS (qfz w.heap.size w1.heap.size w2.heap.size w3.heap.size w4.heap.size u5.heap.size) [1,4] wr wF:=OffS.wrote W9.out (fun _=>by rw[hu1.2];simp);have O5:OffS (qfz w.heap.size w1.heap.size w2.heap.size w3.heap.size w4.heap.size u5.heap.size) [1,4] u5 wF:=(OffS.wrote HW.out (fun h=>by rw[quk z1' z12 z23 z34 hg0 h];simp)).trans O9;have O4:OffS (qfz w.heap.size w1.heap.size w2.heap.size w3.heap.size w4.heap.size u5.heap.size) [1,4] w4 wF:=(OffS.wrote W4U.out (fun _=>by rw[hu1.1];simp)).trans O5;have O3:=(OffS.ext (col:=qfz w.heap.size w1.heap.size w2.heap.size w3.heap.size w4.heap.size u5.heap.size) (cs:=[1,4]) E34.out).trans O4;have O2:=(OffS.ext (col:=qfz w.heap.size w1.heap.size w2.heap.size w3.heap.size w4.heap.size u5.heap.size) (cs:=[1,4]) E23.out).trans O3;have O1:=(OffS.ext (col:=qfz w.heap.size w1.heap.size w2.heap.size w3.heap.size w4.heap.size u5.heap.size) (cs:=[1,4]) E12.out).trans O2;have C1:ColV (qfz w.heap.size w1.heap.size w2.heap.size w3.heap.size w4.heap.size u5.heap.size) 0 (.slice A1 l1.length c1):=fun q hq=>by have:=HO1.out.1.lt q hq;simp at this;exact quw this.2 (by omega)
   have C2:ColV (qfz w.heap.size w1.heap.size w2.heap.size w3.heap.size w4.heap.size u5.heap.size) 2 (.slice A2 b.log.length c2):=fun q hq=>by have:=HO2.out.1.lt q hq;exact qu1 z1' this.1 this.2
   have C3:ColV (qfz w.heap.size w1.heap.size w2.heap.size w3.heap.size w4.heap.size u5.heap.size) 6 (.slice A3 b.pend.length c3):=fun q hq=>by have:=HO3.out.1.lt q hq;exact quS z1' z12 this.1 this.2
   have C4:ColV (qfz w.heap.size w1.heap.size w2.heap.size w3.heap.size w4.heap.size u5.heap.size) 3 (.slice A4 b.marks.length c4):=fun q hq=>by have:=HO4.out.1.lt q hq;exact qu6 z1' z12 z23 this.1 this.2
   have C5:ColV (qfz w.heap.size w1.heap.size w2.heap.size w3.heap.size w4.heap.size u5.heap.size) 4 (.slice A5 b.fls.length c5):=fun q hq=>by have:=OF.out.1.lt q hq;exact quk z1' z12 z23 z34 this.1 this.2
   have hvi:∀v∈l1,ColR (qfz w.heap.size w1.heap.size w2.heap.size w3.heap.size w4.heap.size u5.heap.size) 0 v.A (qaq v.xs):=fun v hv q hne hq=>by
    have h1:=HNV.out v hv q hne hq;have h2:=qgV ((HO1.out.2 v hv).2 (v.A,qaq v.xs) (by simp[qaC])).1 hne hq;simp at h1;exact quw h2 (by omega)
   have hfi:∀f∈l',ColR (qfz w.heap.size w1.heap.size w2.heap.size w3.heap.size w4.heap.size u5.heap.size) 0 f.A (qaH.cells f.log):=fun f hf q hne hq=>by
    obtain⟨i,hi,he⟩:=List.mem_iff_getElem.1 hf;exact qu2 z1' z12 z23 z34 z45 (HIN.out i f (by have:=HLL.out;omega) (by rw[←he];exact zY hi) q hne hq)
   have hst:(⟨b.self,b.base,b.stable,b.sent,A1,c1,l1,A2,c2,b.log,A3,c3,b.pend,A4,c4,b.marks,A5,c5,l'⟩:BM).st=b.st:=by
    have h1:=HV1.out;have h2:=HFV.out;unfold flv at h2;simp only[BM.st,h1,h2]
   refine⟨⟨b.self,b.base,b.stable,b.sent,A1,c1,l1,A2,c2,b.log,A3,c3,b.pend,A4,c4,b.marks,A5,c5,l'⟩,qfz w.heap.size w1.heap.size w2.heap.size w3.heap.size w4.heap.size u5.heap.size,?_,hst,HFT.out.of_st hst ⟨h21,h22⟩,?_,fun k hk=>qvf hk,?_,C3,?_⟩
   ·simp only[BM.cells,HLL.out]
   ·refine⟨⟨O1.row HO1.out.1.row (C1.row HO1.out.1) (by simp),fun v hv=>⟨(HO1.out.2 v hv).1,fun r hr=>?_⟩⟩,C1.row HO1.out.1,hvi,(O2.own HO2.out.1 C2 (by simp)).base (by omega),C2,O3.row HO3.out.1.row (C3.row HO3.out.1) (by simp),C3.row HO3.out.1,(O4.own HO4.out.1 C4 (by simp)).base (by omega),C4,?_,by simp only[HLL.out];exact C5,fun f hf=>⟨(HOB.out.2 f hf).1,O9.row ((HOB.out.2 f hf).2 (f.A,qaH.cells f.log) (by simp[flE])).1 (hfi f hf) (by simp),hfi f hf⟩⟩
    ·have hr':=hr;simp only[qaC,zC,zN,or_false] at hr;subst hr;exact O1.row ((HO1.out.2 v hv).2 _ hr').1 (hvi v hv) (by simp)
    ·have:flE.Own wF w.heap.size (.slice A5 b.fls.length c5) l':=(HOB.out.1.keep fun k hk hlt=>W9.out.blk hlt (by have:=HGO.out k hk;omega)).base (by omega);simp only[HLL.out];exact this
   ·exact(O3.own HO3.out.1 C3 (by simp)).base (by omega)
   ·exact W9.out.ext (HW.out.ext (W4U.out.ext (HWX.out.trans Xw4.out) (zR _)) (by omega)) (by omega)
structure Stp(B:Nat)(cs:List Nat)(col:Nat→Nat)(w:World)(col':Nat→Nat)(w':World):Prop where
 below:Below B w w'
 hue:∀k,k<w.heap.size→col' k=col k
 off:∀k,k<w.heap.size→col k∉cs→w'.heap[k]?=w.heap[k]?
section
variable {B:Nat} {cs:List Nat} {col col' col'':Nat→Nat} {w w' w'':World}
theorem Stp.size(s:Stp B cs col w col' w'):w.heap.size≤w'.heap.size:=s.below.size
theorem Stp.refl(B:Nat)(cs:List Nat)(col:Nat→Nat)(w:World):Stp B cs col w col w:=⟨Below.refl _ _,fun _ _=>rfl,fun _ _ _=>rfl⟩
theorem Stp.trans(s:Stp B cs col w col' w')(t:Stp B cs col' w' col'' w''):Stp B cs col w col'' w'':=
 ⟨s.below.trans t.below,fun k hk=>(t.hue k (Nat.lt_of_lt_of_le hk s.size)).trans (s.hue k hk),fun k hk hc=>(t.off k (Nat.lt_of_lt_of_le hk s.size) (by rw[s.hue k hk];exact hc)).trans (s.off k hk hc)⟩
theorem Stp.mono{cs':List Nat}(s:Stp B cs col w col' w')(h:∀c∈cs,c∈cs'):Stp B cs' col w col' w':=⟨s.below,s.hue,fun k hk hc=>s.off k hk (fun hm=>hc (h _ hm))⟩
theorem Stp.ext(hB:B≤w.heap.size)(e:Ext w w')(h:∀k,k<w.heap.size→col' k=col k):Stp B cs col w col' w':=⟨e.mono hB,h,fun k hk _=>e.block k hk⟩
theorem Stp.ext'(hB:B≤w.heap.size)(e:Ext w w'):Stp B cs col w col w':=Stp.ext hB e (fun _ _=>rfl)
theorem Stp.wrote{p:Nat}(h:Wrote p w w')(hB:B≤p)(hBw:B≤w.heap.size)(hp:col p∈cs):Stp B cs col w col w':=
 ⟨(Below.refl B w).grown h hBw (fun k hk=>by cases hk;exact hB),fun _ _=>rfl,fun k hk hc=>h.blk hk (fun e=>hc (by rw[e];exact hp))⟩
theorem Stp.grew{v:Value}(g:Grew w w' v)(hBw:B≤w.heap.size)(hv:∀k,v.ownBlock=some k→B≤k){c:Nat}(hc:ColV col c v)(hcs:c∈cs):Stp B cs col w col w':=
 ⟨(Below.refl B w).grown g hBw hv,fun _ _=>rfl,fun k hk hn=>g.block k hk (fun e=>hn (by rw[hc k e.symm];exact hcs))⟩
theorem Stp.recol(s:Stp B cs col w col' w')(h:∀k,k<w.heap.size→col'' k=col k):Stp B cs col w col'' w':=⟨s.below,h,s.off⟩
theorem Stp.row{k:Nat}{A:Option Addr}{xs:List Value}(s:Stp B cs col w col' w')(h:Row w A xs)(hc:ColR col k A xs)(hk:k∉cs):Row w' A xs:=by
 intro hx;obtain⟨b,off,h1,h2,h3⟩:=h hx;refine⟨b,off,h1,Nat.lt_of_lt_of_le h2 s.size,fun j u hj=>?_⟩;have hb:w'.heap[b]?=w.heap[b]?:=s.off b h2 (by rw[hc _ hx h1];exact hk);exact(World.cell?_of_block (a:=⟨b,off+j,none⟩) hb).trans (h3 j u hj)
theorem Stp.colR{k:Nat}{A:Option Addr}{xs:List Value}(s:Stp B cs col w col' w')(h:Row w A xs)(hc:ColR col k A xs):ColR col' k A xs:=hc.old h s.hue
theorem Stp.own{α:Type}{E:Elem α}{k:Nat}{v:Value}{l:List α}(s:Stp B cs col w col' w'){B':Nat}(h:E.Own w B' v l)(hc:ColV col k v)(hk:k∉cs):E.Own w' B' v l:=
 h.keep fun q hq hlt=>s.off q hlt (by rw[hc q hq];exact hk)
theorem Stp.colV{α:Type}{E:Elem α}{k:Nat}{v:Value}{l:List α}(s:Stp B cs col w col' w'){B':Nat}(h:E.Own w B' v l)(hc:ColV col k v):ColV col' k v:=hc.old h s.hue
theorem Stp.bis{p:Nat}{vals:Array Value}{t:TypeId}(s:Stp B cs col w col' w')(h:BIs w p vals t)(hp:col p∉cs):BIs w' p vals t:=h.same (s.off p h.lt hp)
variable {b:BM}
theorem BM.Lies.vsK(h:b.Lies w B col)(s:Stp B cs col w col' w')(h0:0∉cs):qaC.Box w' b.Av b.vs∧ColR col' 0 b.Av (qaC.cells b.vs)∧∀v∈b.vs,ColR col' 0 v.A (qaq v.xs):=by
 refine⟨⟨s.row h.vs.1 h.vc h0,fun v hv=>⟨(h.vs.2 v hv).1,fun r hr=>?_⟩⟩,s.colR h.vs.1 h.vc,fun v hv=>s.colR ((h.vs.2 v hv).2 (v.A,qaq v.xs) (by simp[qaC])) (h.vi v hv)⟩;have hr':=hr;simp only[qaC,zC,zN,or_false] at hr;subst hr;exact s.row ((h.vs.2 v hv).2 _ hr') (h.vi v hv) h0
theorem BM.Lies.fiK(h:b.Lies w B col)(s:Stp B cs col w col' w')(h0:0∉cs):∀f∈b.fls,flE.ok f∧Row w' f.A (qaH.cells f.log)∧ColR col' 0 f.A (qaH.cells f.log):=
 fun f hf=>⟨(h.fi f hf).1,s.row (h.fi f hf).2.1 (h.fi f hf).2.2 h0,s.colR (h.fi f hf).2.1 (h.fi f hf).2.2⟩
theorem BM.Lies.keep(h:b.Lies w B col)(s:Stp B cs col w col' w')(h0:0∉cs)(h2:2∉cs)(h3:3∉cs)(h4:4∉cs)(h6:6∉cs):b.Lies w' B col':=
 ⟨(h.vsK s h0).1,(h.vsK s h0).2.1,(h.vsK s h0).2.2,s.own h.log h.lc h2,s.colV h.log h.lc,s.row h.pend h.pc h6,s.colR h.pend h.pc,s.own h.marks h.mc h3,s.colV h.marks h.mc,s.own h.fls h.fc h4,s.colV h.fls h.fc,h.fiK s h0⟩
theorem BM.Lies.relog(h:b.Lies w B col)(s:Stp B cs col w col' w')(h0:0∉cs)(h3:3∉cs)(h4:4∉cs)(h6:6∉cs){A:Option Addr}{c:Nat}{l:List Ent}(ho:qaH.Own w' B (.slice A l.length c) l)(hc:ColV col' 2 (.slice A l.length c)) :
  ({b with Al:=A,cl:=c,log:=l}:BM).Lies w' B col':=
 ⟨(h.vsK s h0).1,(h.vsK s h0).2.1,(h.vsK s h0).2.2,ho,hc,s.row h.pend h.pc h6,s.colR h.pend h.pc,s.own h.marks h.mc h3,s.colV h.marks h.mc,s.own h.fls h.fc h4,s.colV h.fls h.fc,h.fiK s h0⟩
theorem BM.Lies.remarks(h:b.Lies w B col)(s:Stp B cs col w col' w')(h0:0∉cs)(h2:2∉cs)(h4:4∉cs)(h6:6∉cs){A:Option Addr}{c:Nat}{l:List (Int×Int)}(ho:qat.Own w' B (.slice A l.length c) l)(hc:ColV col' 3 (.slice A l.length c)) :
  ({b with Am:=A,cm:=c,marks:=l}:BM).Lies w' B col':=
 ⟨(h.vsK s h0).1,(h.vsK s h0).2.1,(h.vsK s h0).2.2,s.own h.log h.lc h2,s.colV h.log h.lc,s.row h.pend h.pc h6,s.colR h.pend h.pc,ho,hc,s.own h.fls h.fc h4,s.colV h.fls h.fc,h.fiK s h0⟩
theorem BM.Lies.refls(h:b.Lies w B col)(s:Stp B cs col w col' w')(h0:0∉cs)(h2:2∉cs)(h3:3∉cs)(h6:6∉cs){A:Option Addr}{c:Nat}{l:List FlM}(ho:flE.Own w' B (.slice A l.length c) l)(hc:ColV col' 4 (.slice A l.length c))(hi:∀f∈l,flE.ok f∧Row w' f.A (qaH.cells f.log)∧ColR col' 0 f.A (qaH.cells f.log)) :
  ({b with Af:=A,cf:=c,fls:=l}:BM).Lies w' B col':=
 ⟨(h.vsK s h0).1,(h.vsK s h0).2.1,(h.vsK s h0).2.2,s.own h.log h.lc h2,s.colV h.log h.lc,s.row h.pend h.pc h6,s.colR h.pend h.pc,s.own h.marks h.mc h3,s.colV h.marks h.mc,ho,hc,hi⟩
theorem BM.Lies.repend(h:b.Lies w B col){A:Option Addr}{c:Nat}{l:List (List UInt8)}(hr:Row w A (qdC.cells l))(hc:ColR col 6 A (qdC.cells l)):({b with Ap:=A,cp:=c,pend:=l}:BM).Lies w B col:=
 ⟨h.vs,h.vc,h.vi,h.log,h.lc,hr,hc,h.marks,h.mc,h.fls,h.fc,h.fi⟩
theorem qcG{n c:Nat}{v v':Value}(hs:Stems w v v')(hc:ColV col c v)(hn:n≤w.heap.size)(ho:∀q,v.ownBlock=some q→q<n):ColV (qai col n c) c v':=by
 intro q hq;rcases hs with hs|⟨k,hk,hle⟩
 ·rw[hs] at hq;rw[qah (ho q hq)];exact hc q hq
 ·rw[hk] at hq;cases hq;exact qbB (by omega)
end
structure CM where
 b:BM
 Ak:Option Addr
 ck:Nat
 pk:List PkM
 Ad:Option Addr
 cd:Nat
 dl:List Ent
def pkE:Elem PkM where
 f v:=[.int .i64 v.t,.slice v.A v.bs.length v.c]
 k:=2
 ty:=102
 st:=35
 z:=.agg #[.int .i64 0,.slice none 0 0]
 bytes:=32
 inn v:=[(v.A,qac v.bs)]
 ok v:=v.bs.length≤v.c∧v.c≤maxLen
 len _:=rfl
 one a:=by intro u hu;simp only[zC,zN,or_false] at hu;rcases hu with rfl|rfl<;>rfl
 pos:=by decide
 und:=Tryz.underlying35
 info:=by kernel_rfl
 zk:=rfl
 small:=by decide
def PkM.v(k:PkM):Int×List UInt8:=(k.t,k.bs)
abbrev CM.cells(m:CM):Array Value:=#[.int .i64 m.b.self,.slice m.b.Av m.b.vs.length m.b.cv,.int .i64 m.b.base,.slice m.b.Al m.b.log.length m.b.cl,.int .i64 m.b.stable,.int .i64 m.b.sent,.slice m.b.Ap m.b.pend.length m.b.cp,.slice m.b.Am m.b.marks.length m.b.cm,.slice m.b.Af m.b.fls.length m.b.cf,.slice m.Ak m.pk.length m.ck,.slice m.Ad m.dl.length m.cd]
def CM.cs(m:CM):Cs:=⟨m.b.st,m.pk.map PkM.v,m.dl⟩
structure CS(w:World)(B:Nat)(col:Nat→Nat)(p:Nat)(m:CM):Prop where
 box:BIs w p m.cells 86
 pc:col p=1
 bp:B≤p
 lies:m.b.Lies w B col
 pk:pkE.Own w B (.slice m.Ak m.pk.length m.ck) m.pk
 kc:ColV col 5 (.slice m.Ak m.pk.length m.ck)
 ki:∀k∈m.pk,pkE.ok k∧Row w k.A (qac k.bs)∧ColR col 0 k.A (qac k.bs)
 dl:qaH.Own w B (.slice m.Ad m.dl.length m.cd) m.dl
 dc:ColV col 7 (.slice m.Ad m.dl.length m.cd)
 fits:m.b.Fits
 cp:m.b.pend.length≤m.b.cp
section
variable {B p:Nat} {cs:List Nat} {col col':Nat→Nat} {w w':World} {m:CM}
theorem CS.keep(h:CS w B col p m)(s:Stp B cs col w col' w')(hcs:∀c∈cs,c∉[0,1,2,3,4,5,6,7]):CS w' B col' p m:=by
 have n:∀c,c∈[0,1,2,3,4,5,6,7]→c∉cs:=fun c hc hm=>hcs c hm hc;exact⟨s.bis h.box (by rw[h.pc];exact n 1 (by simp)),(s.hue p h.box.lt).trans h.pc,h.bp,h.lies.keep s (n 0 (by simp)) (n 2 (by simp)) (n 3 (by simp)) (n 4 (by simp)) (n 6 (by simp)),s.own h.pk h.kc (n 5 (by simp)),s.colV h.pk h.kc,
  fun k hk=>⟨(h.ki k hk).1,s.row (h.ki k hk).2.1 (h.ki k hk).2.2 (n 0 (by simp)),s.colR (h.ki k hk).2.1 (h.ki k hk).2.2⟩,s.own h.dl h.dc (n 7 (by simp)),s.colV h.dl h.dc,h.fits,h.cp⟩
theorem CS.lt(h:CS w B col p m):p<w.heap.size:=h.box.lt
theorem CS.Bsz(h:CS w B col p m):B≤w.heap.size:=zL h.bp (Nat.le_of_lt h.lt)
theorem CS.ext(h:CS w B col p m)(e:Ext w w'):CS w' B col p m:=h.keep (cs:=[]) (Stp.ext' h.Bsz e) (by simp)
end
end Go.Proofs.YtponbabbabnaeaaGreat
