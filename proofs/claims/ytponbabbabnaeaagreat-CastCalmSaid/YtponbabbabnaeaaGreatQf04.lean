/- Part 4 of the proof: contracts of functions that the statement reaches. Conditions: as each theorem says. -/
import Derived.Deep.RegionHeld3
import Derived.StillTailTactics
import Derived.Lib.ConvBytes
import Derived.Maps.OwnOps
import Derived.Maps.Views
import Derived.WalkKit
import Derived.Deep.DeepCutAuto
import Derived.Deep.CutBlock
import Derived.Test.YtponbabbabnaeaaGreatQf03
import Derived.Test.YtponbabbabnaeaaGreatQf02
import Derived.Test.YtponbabbabnaeaaGreatQf01
set_option maxRecDepth 100000
set_option maxHeartbeats 40000000
namespace Go.Proofs.YtponbabbabnaeaaGreat
open Go.RowKit
theorem qo2 {P : Prop} (h : P := by
 have HB:=hJ hb;go_wp2;go_roundw
 case rel=>exact⟨k+1,by omega,by go_num,by rw[HT.out];simp[HB.out],HS.out.alloc _⟩
 case measure=>simp[intOf];omega) : P := h
theorem qbO{w:World}{A:Option Addr}{l:List Ent}{i:Nat}(h:Row w A (qaH.cells l))(hi:i<l.length) :
  ∃b off e,A=some (Pq b off)∧b<w.heap.size∧w.cell? (Pq b (off+i*4))=some (Jq (Ent.v e))∧w.cell? (Pq b (off+i*4+1))=some (Jq e.o)∧w.cell? (Pq b (off+i*4+2))=some (Jq e.q)∧w.cell? (Pq b (off+i*4+3))=some (.string (qaF e.p))∧Hid (l[i]?=some e):=by
 obtain⟨b,off,e,h1,h2,h3,_,h5⟩:=Elem.Box.at_ (E:=qaH) (w:=w) (A:=A) (l:=l) ⟨h,fun a _=>⟨trivial,fun r hr=>by simp[qaH] at hr⟩⟩ hi;have h3':∀j u,(qaH.f e)[j]?=some u→w.cell? (Pq b (off+i*4+j))=some u:=h3.out;exact⟨b,off,e,h1,h2,by simpa using h3' 0 _ rfl,h3' 1 _ rfl,h3' 2 _ rfl,h3' 3 _ rfl,h5⟩
theorem qdN{w:World}{A:Option Addr}{l:List VwM}{i:Nat}(h:qaC.Box w A l)(hi:i<l.length) :
  ∃b off n X cx xs,A=some (Pq b off)∧b<w.heap.size∧w.cell? (Pq b (off+i*2))=some (Jq n)∧w.cell? (Pq b (off+i*2+1))=some (.slice X (List.length xs) cx)∧Hid (Row w X (qaq xs))∧xs.length≤cx∧cx≤maxLen∧Hid (l[i]?=some ⟨n,X,cx,xs⟩):=by
 obtain⟨b,off,v,h1,h2,h3,h4,h5⟩:=h.at_ hi;have h3':∀j u,(qaC.f v)[j]?=some u→w.cell? (Pq b (off+i*2+j))=some u:=h3.out;exact⟨b,off,v.n,v.A,v.c,v.xs,h1,h2,by simpa using h3' 0 _ rfl,h3' 1 _ rfl,hJ (h4.out.2 (v.A,qaq v.xs) (by simp[qaC])),h4.out.1.1,h4.out.1.2,h5⟩
def vws(l:List VwM):List Vw:=l.map VwM.v
theorem qaX(l:List VwM):(vws l).length=l.length:=by simp[vws]
theorem qgU{l:List VwM}{i:Nat}{n:Int}{X:Option Addr}{cx:Nat}{xs:List Int}(h:l[i]?=some ⟨n,X,cx,xs⟩):(vws l)[i]?=some (n,xs):=by simp[vws,h,VwM.v]
theorem qcM(n:Int)(w:World):Calls Tryz.prog 71 #[Jq n] w fun e w'=>e=.returned (.bool (qcl n))∧w=w':=by
 by_cases h1:1≤n
 ·have h1':decide (1≤n)=true:=decide_eq_true h1;go_enter Tryz.func71,Tryz.ntmps71;go_wp2;go_ret;exact⟨qae (by simp[qcl,h1]),rfl⟩
 ·have h1':decide (1≤n)=false:=decide_eq_false h1;have H:=hJ h1;clear h1;go_enter Tryz.func71,Tryz.ntmps71;go_wp2;go_ret;exact⟨qae (by rw[qcl,decide_eq_false (Int.not_le.2 H.out)];rfl),rfl⟩
theorem qjt{l:List Ent}{k:Nat}{e:Ent}{o:Int}(h:l[k]?=some e):qar (l.take (k+1)) o=qar (l.take k) o+if e.o == o then 1 else 0:=by
 unfold qar;rw[qbv h];simp[List.countP_append,List.countP_cons]
theorem qsO{l:List Ent}{k:Nat}{o:Int}(h:¬k<l.length):qar (l.take k) o=qar l o:=by rw[List.take_of_length_le (by omega)]
theorem qmj(l:List Ent)(o:Int):qar l o≤l.length:=List.countP_le_length
theorem qi8(l:List Ent)(k:Nat)(o:Int):qar (l.take k) o≤k:=zL (qmj _ _) (by simp;omega)
theorem qcD(A:Option Addr)(c:Nat)(l:List Ent)(o:Int)(w:World)(h:Row w A (qaH.cells l))(hn:l.length≤1000000000) :
  Calls Tryz.prog 91 #[.slice A l.length c,Jq o] w fun e w'=>e=.returned (Jq (qar l o))∧Ext w w':=by
 have H:=hJ h;clear h;go_enter Tryz.func91,Tryz.ntmps91;go_wp2;go_loopw [5,10] (fun n i wr=>∃k:Nat,k≤l.length∧i=Jq k∧n=Jq (qar (l.take k) o)∧Ext w wr) (fun _ i _=>l.length - (intOf i).toNat)
 case atStart=>exact⟨0,zO _,rfl,rfl,Ext.refl _⟩
 case round=>
  obtain⟨k,hk,rfl,rfl,HS0⟩:=hrel;have HS:=hJ HS0;clear HS0;by_cases hlt:k<l.length
  ·obtain⟨b,off,e,rfl,hb,c0,c1,c2,c3,HX⟩:=qbO (H.out.ext HS.out) hlt;have HT:=hJ (qjt (o:=o) HX.out);have hv:=qi8 l k o;generalize qar (l.take k) o=n at *;cases hb:e.o == o
   ·exact qo2
   ·exact qo2
  ·go_wp2;go_ret;exact⟨qeW (congrArg Nat.cast (qsO hlt)),HS.out⟩
def qoH(w:World)(v:Vw)(en:Ending)(w':World):Prop:=
 ∃A c,en=.returned (.agg #[Jq v.1,.slice A v.2.length c])∧v.2.length≤c∧c≤maxLen∧Hid (Row w' A (qaq v.2))∧Ext w w'
theorem qrO{w w':World}{v:Vw}{n:Int}{A:Option Addr}{c:Nat}{xs:List Int}(hv:v=(n,xs))(h1:xs.length≤c)(h2:c≤maxLen)(hr:Row w' A (qaq xs))(e:Ext w w'):qoH w v (.returned (.agg #[Jq n,.slice A xs.length c])) w':=by
 subst hv;exact⟨A,c,rfl,h1,h2,hJ hr,e⟩
theorem qmE{l:List Vw}{j:Nat}{v:Vw}(hj:l.length=j+1)(h:l[j]?=some v):qad l=v:=by
 unfold qad qbu;rw[hj,Nat.add_sub_cancel,h];rfl
theorem qq9(A:Option Addr)(c:Nat)(l:List VwM)(w:World)(h:qaC.Box w A l)(hp:0<l.length)(hn:l.length≤1000000000) :
  Calls Tryz.prog 49 #[.slice A l.length c] w (qoH w (qad (vws l))):=by
 obtain⟨j,hj⟩:∃j,l.length=j+1:=⟨l.length - 1,by omega⟩;obtain⟨b,off,n,X,cx,xs,rfl,hb,c0,c1,HR,h1,h2,HX⟩:=qdN h (show j<l.length by omega);have HL:=hJ (qmE (by rw[qaX];exact hj) (qgU HX.out));have hw1:IntKind.i64.wrap ((l.length:Int) - 1)=(j:Int):=by rw[IntWalk.i64_in _ (by omega)];omega
 have k1:(0:Int)≤(j:Int):=by omega
 have k2:(j:Int)<(l.length:Int):=by omega
 have k3:j<l.length:=by omega
 clear hj h;go_enter Tryz.func49,Tryz.ntmps49;go_wp2;refine bodyPost_ret (v:=.agg #[Jq n,.slice X xs.length cx]) (by simp[results,Tryz.results49,go_sem]) rfl (qrO HL.out h1 h2 (HR.out.ext (Ext.new _ _)) (Ext.new _ _))
def qtJ(w:World)(v:Vw)(en:Ending)(w':World):Prop:=
 ∃A c,en=.returned (.agg #[Jq v.1,.slice A v.2.length c])∧v.2.length≤c∧c≤maxLen∧Hid (Row w' A (qaq v.2))∧Hid (∀p,qaq v.2≠[]→A=some p→w.heap.size≤p.block)∧Ext w w'
theorem own_new{w':World}{B:Nat}{A:Option Addr}{n c:Nat}{vs:List Value}{α:Type}{E:Elem α}{l:List α}(h:E.Own w' B (.slice A n c) l):∀p,vs≠[]→A=some p→B≤p.block:=by
 intro p _ hp;subst hp;exact(h.lt p.block rfl).1
theorem Elem.Own.set_other{α:Type}{E:Elem α}{w:World}{B:Nat}{v:Value}{l:List α}(h:E.Own w B v l){p:Addr}(hp:∀k,v.ownBlock=some k→k≠p.block)(u:Value):E.Own (w.setCell p u) B v l:=
 h.keep fun k hk _=>Below.heap_setCell _ _ _ _ (hp k hk)
theorem qer(n:Int)(A:Option Addr)(c:Nat)(xs:List Int)(w:World)(h:Row w A (qaq xs))(hn:xs.length≤1000000) :
  Calls Tryz.prog 86 #[.agg #[Jq n,.slice A xs.length c]] w (qtJ w (n,xs)):=by
 have H0:=hJ ((Ext.new w (.cells #[Jq n,.slice A xs.length c] 46)).alloc (.cells #[Jq 0,Zq] 46));have HX:Hid (qqv.Box (((w.alloc (.cells #[Jq n,.slice A xs.length c] 46)).alloc (.cells #[Jq 0,Zq] 46)).drew) A xs):=hJ ⟨by rw[qiD];exact h.ext H0.out.drew,fun a _=>⟨trivial,fun r hr=>by simp[qqv] at hr⟩⟩;clear h;go_enter Tryz.func86,Tryz.ntmps86;go_wp2;go_region_held3 (fun w'=>w'.cell? (Pw w 0)=some (Jq n)∧w'.cell? (Pw w 1)=some (.slice A xs.length c))
  (first|(go_keep;done)|exact⟨r0,r1⟩|exact⟨t0,t1⟩)
  (first
   | (go_at_call 157;(with_reducible refine(qm5 A c xs _ (by exact HX.out) hn).mono ?_);rintro e v1 ⟨A1,c1,rfl,h1,h2,ho1,hx1⟩;have X1:=hJ (Ext.trans H0.out.drew hx1);have HO:=hJ ho1;have y1:w.heap.size+1<v1.heap.size:=(by have:=hx1.size;simp at this;omega);have r0:v1.cell? ⟨w.heap.size,0,none⟩=some (.int .i64 n):=(by rw[hx1.cell (by simp<;>omega)];simp);have r1:v1.cell? ⟨w.heap.size,1,none⟩=some (.slice A xs.length c):=(by rw[hx1.cell (by simp<;>omega)];simp);have fz:v1.frozen? ⟨w.heap.size+1,0,none⟩=false:=(by rw[hx1.frozen (by simp)];simp);have fz1:v1.frozen? ⟨w.heap.size+1,1,none⟩=false:=(by rw[hx1.frozen (by simp)];simp);have k0:v1.cell? ⟨w.heap.size+1,0,none⟩=some (.int .i64 0):=(by rw[hx1.cell (by simp)];simp);have k1:v1.cell? ⟨w.heap.size+1,1,none⟩=some (.slice none 0 0):=(by rw[hx1.cell (by simp)];simp);clear ho1 hx1))
 have HO2:=hJ ((HO.out.1.set_other (p:=(Pv w 0)) (fun k hk=>by have:=(HO.out.1.lt k hk).1;simp at this;simp only;omega) (Jq n)).set_other (p:=(Pv w 1)) (fun k hk=>by have:=(HO.out.1.lt k hk).1;simp at this;simp only;omega) (.slice A1 xs.length c1));have X2:=hJ ((X1.out.set (p:=(Pv w 0)) (by simp) (Jq n)).set (p:=(Pv w 1)) (by simp) (.slice A1 xs.length c1));have HN:=hJ (own_new (vs:=qaq xs) HO.out.1);clear HO X1 HX H0 r0 r1;go_wp2;refine bodyPost_ret (v:=.agg #[Jq n,.slice A1 xs.length c1]) (by simp[results,Tryz.results86,go_sem,k0,k1]) rfl ?_;exact⟨A1,c1,rfl,h1,h2,hJ (by have:=HO2.out.row;rwa [qiD] at this),hJ (fun p hp hA=>by have:=HN.out p hp hA;simp at this;omega),X2.out⟩
def qkM(e:Ent):Value:=.agg #[.int .i64 e.v,.int .i64 e.o,.int .i64 e.q,.string (qaF e.p)]
theorem qc3(n:Int)(A:Option Addr)(c:Nat)(xs:List Int)(w:World)(h:Row w A (qaq xs))(hn:xs.length≤9223372036854775807) :
  Calls Tryz.prog 87 #[.agg #[Jq n,.slice A xs.length c]] w fun e w'=>e=.returned (qkM (qab n xs))∧Ext w w':=by
 have H0:=hJ ((Ext.new w (.cells #[Jq n,.slice A xs.length c] 46)).alloc (.cells #[Jq 0,Jq 0,Jq 0,.string {data:=#[]}] 66));have HX:=hJ (h.ext H0.out.drew);clear h;go_enter Tryz.func87,Tryz.ntmps87;go_wp2;go_region_held (fun w'=>w'.cell? (Pw w 0)=some (Jq n)∧w'.cell? (Pw w 1)=some (.slice A xs.length c))
  (first|(go_keep;done)|exact⟨r0,r1⟩)
  (first
   | (go_at_call 158;(with_reducible refine(qnC n A c xs _ (by exact HX.out) hn).mono ?_);rintro e v1 ⟨A1,c1,rfl,h1,h2,ho1,hx1⟩;have X1:=hJ (Ext.trans H0.out.drew hx1);have hcv:=qek c1 _ ho1.row rfl;have y1:w.heap.size+1<v1.heap.size:=(by have:=hx1.size;simp at this;omega);have r0:v1.cell? ⟨w.heap.size,0,none⟩=some (.int .i64 n):=(by rw[hx1.cell (by simp<;>omega)];simp);have r1:v1.cell? ⟨w.heap.size,1,none⟩=some (.slice A xs.length c):=(by rw[hx1.cell (by simp<;>omega)];simp);have f0:v1.frozen? ⟨w.heap.size+1,0,none⟩=false:=(by rw[hx1.frozen (by simp)];simp);have f1:v1.frozen? ⟨w.heap.size+1,1,none⟩=false:=(by rw[hx1.frozen (by simp)];simp);have f2:v1.frozen? ⟨w.heap.size+1,2,none⟩=false:=(by rw[hx1.frozen (by simp)];simp);have f3:v1.frozen? ⟨w.heap.size+1,3,none⟩=false:=(by rw[hx1.frozen (by simp)];simp);have k0:v1.cell? ⟨w.heap.size+1,0,none⟩=some (.int .i64 0):=(by rw[hx1.cell (by simp)];simp);have k1:v1.cell? ⟨w.heap.size+1,1,none⟩=some (.int .i64 0):=(by rw[hx1.cell (by simp)];simp);have k2:v1.cell? ⟨w.heap.size+1,2,none⟩=some (.int .i64 0):=(by rw[hx1.cell (by simp)];simp);have k3:v1.cell? ⟨w.heap.size+1,3,none⟩=some (.string {data:=#[]}):=(by rw[hx1.cell (by simp)];simp);clear ho1 hx1))
 have X2:=hJ ((((X1.out.set (p:=(Pv w 0)) (by simp) (Jq n)).set (p:=(Pv w 1)) (by simp) (Jq 0)).set (p:=(Pv w 2)) (by simp) (Jq n)).set (p:=(Pv w 3)) (by simp) (.string (qaF (qqe n xs))));clear X1 HX H0 r0 r1 hcv;go_wp2;exact bodyPost_ret (v:=qkM (qab n xs)) (by simp[results,Tryz.results87,go_sem,k0,k1,k2,k3,qkM,qab]) rfl ⟨rfl,X2.out⟩
theorem qeS{P:Program}{id:Nat}{Q:Exit→Act→World→Prop}{a:Act}{w:World}{l:List Oper}(n:Nat)(hm:P.follows .mixedOrders=true)(hB:Region.lexTailB .any l.toArray n=true)
  (h:wpStill P l.toArray w.drew (fun a'=>wpList P l.toArray Q (l.drop n) a' w.drew) (l.take n) a):(Code.region id l.toArray true).wp P Q a w:=wp_region_still_tail n hm hB h
theorem qbr{P:Program}{ops:Array Oper}{w:World}{Q:Act→Prop}{o:Oper}{rest:List Oper}{a:Act}{v:Value}(hw:Region.wanted o (yielded ops a.tmps)=true)(hv:(execOp a.eval o).run P w=.ok (.value v) w)
  (h:wpStill P ops w Q rest (a.put o.dst v)):wpStill P ops w Q (o::rest) a:=by
 unfold wpStill;rw[if_pos hw];unfold Oper.still;rw[hv];exact⟨rfl,h⟩
theorem qed(bs:List UInt8):qaF bs=⟨bs.toArray⟩:=by
 unfold qaF;rw[foldl_push_byteCells];simp
theorem qbE(bs:List UInt8):(qaF bs).size=bs.length:=by rw[qed];simp[ByteArray.size]
theorem qrN{a b:List UInt8}(h:qaF a=qaF b):a=b:=by
 rw[qed,qed] at h;simpa using h
theorem qla(a b:List UInt8):(qaF a=qaF b)↔a=b:=⟨qrN,fun h=>by rw[h]⟩
theorem qrh(w:World)(bs:List UInt8):∃cap w1,(convert 9 29 (.string (qaF bs))).run Tryz.prog w=.ok (.slice (some (Pq w.heap.size 0)) bs.length cap) w1∧bs.length≤cap∧Row w1 (some (Pq w.heap.size 0)) (qac bs)∧Ext w w1:=by
 have h:=Go.Lib.run_convert_string_bytes (P:=Tryz.prog) w 9 29 5 (qaF bs) Tryz.underlying9 Tryz.underlying29 Tryz.underlying5;rw[qbE] at h;refine⟨_,_,h,?_,?_,?_⟩
 ·exact grownCap_ge _ _ _ _
 ·intro hne;refine⟨w.heap.size,0,rfl,by rw[Go.Lib.bytesWorld_size];omega,fun j u hj=>?_⟩;have hjl:j<bs.length:=by have:=(zZ hj).1;simpa[qac] using this
  rw[Nat.zero_add,Go.Lib.bytesWorld_cell _ _ _ _ (by rw[qbE];exact hjl),qed];simp only[qac,zM,zY hjl,Option.map_some,zJ] at hj;rw[←hj];simp[List.getD,zY hjl]
 ·exact⟨rfl,rfl,rfl,by rw[Go.Lib.bytesWorld_size];omega,fun k hk=>Go.Lib.bytesWorld_at_old _ _ _ k hk⟩
theorem qsJ(s:ByteArray):∀(n i:Nat) (r:List UInt8),s.size - i=n→ByteArray.toList.loop s i r=r.reverse++s.data.toList.drop i:=by
 intro n;induction n with
 | zero=>
  intro i r h;unfold ByteArray.toList.loop;have hz:s.size=s.data.toList.length:=by rw[Array.length_toList];rfl
  rw[if_neg (by omega),List.drop_eq_nil_of_le (by omega),List.append_nil]
 | succ n ih=>
  intro i r h;unfold ByteArray.toList.loop;have hz:s.size=s.data.toList.length:=by rw[Array.length_toList];rfl
  have hi:i<s.data.toList.length:=by omega
  rw[if_pos (by omega),ih (i+1) _ (by omega),List.drop_eq_getElem_cons hi,List.reverse_cons,List.append_assoc];have hg:s.get! i=s.data.toList[i]:=by
   show s.data[i]! = _;rw[getElem!_pos s.data i (by rw[Array.length_toList] at hi;exact hi)];simp
  rw[hg];rfl
theorem qsY(s:ByteArray):s.toList=s.data.toList:=by
 show ByteArray.toList.loop s 0 []=_;rw[qsJ s _ 0 [] rfl];simp
theorem qdZ(bs:List UInt8):(qaF bs).toList=bs:=by rw[qsY,qed]
theorem qtF(a b:Ent)(w:World):(binOp .eql 66 (qkM a) (qkM b)).run Tryz.prog w=.ok (.bool (decide (a=b))) w:=by
 obtain⟨a1,a2,a3,a4⟩:=a;obtain⟨b1,b2,b3,b4⟩:=b;unfold qkM;simp only[Ent.mk.injEq];by_cases h1:a1=b1
 ·by_cases h2:a2=b2
  ·by_cases h3:a3=b3
   ·by_cases h4:a4=b4
    ·simp[go_sem,h1,h2,h3,h4]
    ·simp[go_sem,h1,h2,h3,h4,qdZ]
   ·simp[go_sem,h1,h2,h3]
  ·simp[go_sem,h1,h2]
 ·simp[go_sem,h1]
theorem qi2(e:Ent):qcq e=(decide ((qhc e.p).2.2.2=0)&&(decide ((qhc e.p).2.2.1=e.p.length)&&decide (e=qab (qhc e.p).1 (qhc e.p).2.1))):=by unfold qcq;rfl
theorem qe3(e:Ent)(w:World)(hl:e.p.length≤1000000) :
  Calls Tryz.prog 197 #[.agg #[Jq e.v,Jq e.o,Jq e.q,.string (qaF e.p)]] w fun r w'=>r=.returned (.bool (qcq e))∧Ext w w':=by
 have H0:=hJ (Ext.new w (.cells #[Jq e.v,Jq e.o,Jq e.q,.string (qaF e.p)] 66));obtain⟨cap,w2,hcv,hc1,hr2,hx2⟩:=qrh (w.alloc (.cells #[Jq e.v,Jq e.o,Jq e.q,.string (qaF e.p)] 66)) e.p;simp only[World.size_alloc] at hcv hr2;have HR:=hJ hr2;have X2:=hJ hx2;clear hr2 hx2;go_enter Tryz.func197,Tryz.ntmps197;go_wp2_with fail;refine(qnc _ cap e.p w2 HR.out hc1 hl).mono ?_;have HD:=hJ (qi2 e);obtain⟨⟨n,xs,k,er⟩,hd⟩:∃r,qhc e.p=r:=⟨_,rfl⟩;rw[hd] at HD⊢;clear hd hcv;rintro r w3 ⟨A3,c3,rfl,hc3,hm3,ho3,hx3⟩;have X3:=hJ (X2.out.trans hx3);have RN:=hJ ho3.row;have z3:w.heap.size<w3.heap.size:=by have:=X3.out.size;simp at this;omega
 have c0:w3.cell? (Pw w 0)=some (Jq e.v):=by simpa using X3.out.cell_new 0
 have c1:w3.cell? (Pw w 1)=some (Jq e.o):=by simpa using X3.out.cell_new 1
 have c2:w3.cell? (Pw w 2)=some (Jq e.q):=by simpa using X3.out.cell_new 2
 have c3':w3.cell? (Pw w 3)=some (.string (qaF e.p)):=by simpa using X3.out.cell_new 3
 have hsz:=qbE e.p;simp only at RN hc3 HD⊢;clear ho3 hx3;by_cases he:er=0;rotate_left
 ·have he':(er == 0)=false:=beq_eq_false_iff_ne.2 he;have HE:=hJ he;clear he;go_wp2;go_quiet (fail);go_wp2;go_ret;exact⟨qae (by rw[HD.out,decide_eq_false HE.out];rfl),H0.out.trans ((X3.out.alloc _).drewN _)⟩
 subst he;by_cases hk:k=e.p.length;rotate_left
 ·have hk':((k:Int) == (e.p.length:Int))=false:=beq_eq_false_iff_ne.2 (by omega);have HE:=hJ hk;clear hk;go_wp2;go_quiet (fail);go_wp2;go_ret;exact⟨qae (by rw[HD.out,decide_eq_false HE.out];simp),H0.out.trans ((X3.out.alloc _).drewN _)⟩
 subst hk;have heq:=qtF e (qab n xs);unfold qkM at heq;have RN2:=hJ (RN.out.ext ((Ext.new w3 (.cells #[Jq n,.slice A3 xs.length c3] 46)).drew));have hxl:xs.length≤9223372036854775807:=by unfold maxLen at hm3;omega
 go_wp2;go_region_held3 (fun w'=>w'.cell? (Pw w 0)=some (Jq e.v)∧w'.cell? (Pw w 1)=some (Jq e.o)∧w'.cell? (Pw w 2)=some (Jq e.q)∧w'.cell? (Pw w 3)=some (.string (qaF e.p))∧w'.cell? (Pw w3 0)=some (Jq n)∧w'.cell? (Pw w3 1)=some (.slice A3 xs.length c3))
  (first|(go_keep;done)|exact⟨r0,r1,r2,r3,r4,r5⟩)
  (first
   | (go_at_call 87;(with_reducible refine(qc3 n A3 c3 xs _ (by exact RN2.out) hxl).mono ?_);rintro r w4 ⟨rfl,hx4⟩;unfold qkM;have X4:=hJ (((X3.out.alloc (.cells #[.int .i64 n,.slice A3 xs.length c3] 46)).drew).trans hx4);have r0:w4.cell? ⟨w.heap.size,0,none⟩=some (.int .i64 e.v):=(by simpa using X4.out.cell_new 0);have r1:w4.cell? ⟨w.heap.size,1,none⟩=some (.int .i64 e.o):=(by simpa using X4.out.cell_new 1);have r2:w4.cell? ⟨w.heap.size,2,none⟩=some (.int .i64 e.q):=(by simpa using X4.out.cell_new 2);have r3:w4.cell? ⟨w.heap.size,3,none⟩=some (.string (qaF e.p)):=(by simpa using X4.out.cell_new 3);have r4:w4.cell? ⟨w3.heap.size,0,none⟩=some (.int .i64 n):=(by rw[hx4.cell (by simp)];simp);have r5:w4.cell? ⟨w3.heap.size,1,none⟩=some (.slice A3 xs.length c3):=(by rw[hx4.cell (by simp)];simp);clear hx4))
 go_wp2;go_ret;exact⟨qae (by rw[HD.out];simp),H0.out.trans X4.out⟩
end Go.Proofs.YtponbabbabnaeaaGreat
namespace Go.Proofs.YtponbabbabnaeaaGreat
open Go.RowKit Go.Maps
theorem qvl:Keyed Tryz.prog 3:=int_keyed Tryz.underlying3
theorem quR(w:World):(zeroValue 3).run Tryz.prog w=.ok (.int .i64 0) w:=by kernel_rfl
theorem qex{H:Type}{w w':World}{P:Program}{k:TypeId}{R:Value→Option (DataW H×List MemPlace)}{b n:Nat}{D:DataW H}(h:w.ownsMap P k R b n D)(e:Ext w w'):w'.ownsMap P k R b n D:=by
 obtain⟨es,clock,hh,r⟩:=h;have hb:b<w.heap.size:=by
  rcases Nat.lt_or_ge b w.heap.size with hlt|hge
  ·exact hlt
  ·rw[Array.getElem?_eq_none hge] at hh;cases hh
 exact⟨es,clock,by rw[e.block b hb];exact hh,r⟩
def qcy(l:List Ent)(k:Nat):Int:=if k=0 then 0 else qev l k
theorem qkN{l:List Ent}{k:Nat}{e:Ent}(h:l[k]?=some e):qcy l (k+1)=e.v:=by
 unfold qcy qev;rw[if_neg (by omega),Nat.add_sub_cancel,h]
theorem qmq{l:List Ent}{k:Nat}{e:Ent}(hz:k=0):qcP l k e=qcq e:=by subst hz;simp[qcP]
theorem quc{l:List Ent}{k:Nat}{e:Ent}(hz:k≠0)(hne:e.v≠qcy l k)(hlt:e.v<qcy l k):qcP l k e=false:=by
 unfold qcy at *;rw[if_neg hz] at hne hlt;rw[qcP,if_pos (.inr hne),decide_eq_false hz,decide_eq_false (by omega)];rfl
theorem quo{l:List Ent}{k:Nat}{e:Ent}(hz:k≠0)(hne:e.v≠qcy l k)(hlt:¬e.v<qcy l k):qcP l k e=qcq e:=by
 unfold qcy at *;rw[if_neg hz] at hne hlt;rw[qcP,if_pos (.inr hne),decide_eq_true (p:=qev l k≤e.v) (by omega),Bool.or_true,Bool.true_and]
theorem qt3{l:List Ent}{k:Nat}{e:Ent}(hz:k≠0)(he:e.v=qcy l k):qcP l k e=(qcl e.o&&(decide (e.p.length≤6000)&&decide (e.q=qar (l.take k) e.o+1))):=by
 unfold qcy at he;rw[if_neg hz] at he;rw[qcP,if_neg (by simp[hz,he])]
theorem qjb{l:List Ent}{k:Nat}{e:Ent}(h:∀j,j<k→qhG l j=true)(he:l[k]?=some e)(hk:qcP l k e=true):∀j,j<k+1→qhG l j=true:=by
 intro j hj;rcases Nat.lt_or_ge j k with h1|h1
 ·exact h j h1
 ·rw[show j=k by omega,qcK he];exact hk
theorem qu5{e:Ent}(h:qcq e=true):e.o=0:=by
 rw[qi2] at h;simp only[zB,zE] at h;rw[h.2.2];rfl
theorem qmy{o:Int}(h:qcl o=true):1≤o∧o≤1000:=by simpa[qcl] using h
abbrev qtY(D:DataW Unit)(l:List Ent)(k:Nat):Prop:=IsMap D∧∀o,qcl o=true→D.atKey (.int .i64 o) (.lit (.int .i64 0))=.lit (.int .i64 (qar (l.take k) o))
theorem qqw(l:List Ent):qtY (.map []) l 0:=⟨⟨[],rfl⟩,fun _ _=>rfl⟩
theorem qlY{D:DataW Unit}{l:List Ent}{k:Nat}{e:Ent}(h:qtY D l k)(he:l[k]?=some e)(hv:qcq e=true):qtY D l (k+1):=by
 refine⟨h.1,fun o ho=>?_⟩;rw[h.2 o ho,qjt he,qu5 hv];have:=qmy ho;rw[if_neg (by simp;omega)];rfl
theorem qsI{D:DataW Unit}{l:List Ent}{k:Nat}{e:Ent}(h:qtY D l k)(he:l[k]?=some e)(hq:e.q=qar (l.take k) e.o+1):qtY (D.put (.int .i64 e.o) (.lit (.int .i64 e.q))) l (k+1):=by
 refine⟨by obtain⟨es,rfl⟩:=h.1;exact⟨_,rfl⟩,fun o ho=>?_⟩;rw[qjt he];by_cases ho2:o=e.o
 ·subst ho2;rw[atKey_put_same h.1 (by simp[WideAt.IsKeyLit]),hq];simp
 ·rw[atKey_put_other (by intro hh;cases hh;exact ho2 rfl),h.2 o ho,if_neg (by simp;exact fun hh=>ho2 hh.symm)];rfl
theorem qdM(A:Option Addr)(c:Nat)(l:List Ent)(w:World)(h:Row w A (qaH.cells l))(hn:l.length≤1000000000)(hp:∀e∈l,e.p.length≤1000000) :
  Calls Tryz.prog 160 #[.slice A l.length c] w fun e w'=>e=.returned (.bool (qax l))∧Ext w w':=by
 have H:=hJ h;have HPL:=hJ hp;clear h hp;have hmm:=@run_makeMap Tryz.prog;by_cases hl:l.length≤2000;rotate_left
 ·have hl':2000<l.length:=by omega
  have HL:=hJ hl;clear hl;go_enter Tryz.func160,Tryz.ntmps160;go_wp2;go_ret;exact⟨qae (qpU HL.out).symm,Ext.refl _⟩
 have hl':¬2000<l.length:=by omega
 go_enter Tryz.func160,Tryz.ntmps160;go_wp2;go_loopw [3,13] (fun lv i wr=>∃(k:Nat) (D:DataW Unit),k≤l.length∧i=.int .i64 k∧lv=.int .i64 (qcy l k)∧Hid (∀j,j<k→qhG l j=true)∧Hid (wr.ownsMap Tryz.prog 3 (plainElem (H:=Unit) Tryz.prog 3) w.heap.size k D)∧Hid (qtY D l k)∧Ext w wr) (fun _ i _=>l.length - (intOf i).toNat)
 case atStart=>exact⟨0,.map [],zO _,rfl,rfl,hJ (fun j hj=>absurd hj (Nat.not_lt_zero _)),hJ (World.ownsMap_made _ _ _ _),hJ (qqw l),(Ext.refl _).alloc _⟩
 case round=>
  obtain⟨k,D,hk,rfl,rfl,HT,HM,HQ,HS0⟩:=hrel;have HS:=hJ HS0;clear HS0;by_cases hlt:k<l.length
  ·obtain⟨b,off,e,rfl,hb,c0,c1,c2,c3,HX⟩:=qbO (H.out.ext HS.out) hlt;have HN:=hJ (qkN HX.out);have hpl:e.p.length≤1000000:=HPL.out e (zX HX.out);have hsz:=qbE e.p;have E1:=hJ (Ext.new wr (.cells #[.int .i64 e.v,.int .i64 e.o,.int .i64 e.q,.string (qaF e.p)] 66));by_cases hz:k=0
   ·have HZ:=hJ hz;have hz1:((k:Int) == 0)=true:=by simp[hz]
    have hz2:decide ((0:Int)<(k:Int))=false:=decide_eq_false (by omega);have hz3:decide (0<k)=false:=decide_eq_false (by omega);clear hz;go_wp2_with fail;refine(qe3 e _ hpl).mono ?_;cases hv:qcq e
    ·have HV:=hJ hv;clear hv;rintro r w2 ⟨rfl,hx2⟩;have X2:=hJ (HS.out.trans (E1.out.trans hx2));clear hx2;go_wp2;go_ret;exact⟨qae (qgz HX.out (by rw[qmq HZ.out];exact HV.out)).symm,X2.out⟩
    ·have HV:=hJ hv;clear hv;rintro r w2 ⟨rfl,hx2⟩;have X1:=hJ (E1.out.trans hx2);have X2:=hJ (HS.out.trans X1.out);have d0:w2.cell? (Pw wr 0)=some (.int .i64 e.v):=by rw[hx2.cell (by simp)];simp
     clear hx2;go_wp2;go_roundw
     case rel=>exact⟨k+1,D,by omega,by go_num,by rw[HN.out],hJ (qjb HT.out HX.out (by rw[qmq HZ.out];exact HV.out)),hJ ((qex HM.out X1.out).mono (Nat.le_succ _)),hJ (qlY HQ.out HX.out HV.out),X2.out⟩
     case measure=>simp[intOf];omega
   ·have HZ:=hJ hz;have hz1:((k:Int) == 0)=false:=beq_eq_false_iff_ne.2 (by omega);have hz2:decide ((0:Int)<(k:Int))=true:=decide_eq_true (by omega);have hz3:decide (0<k)=true:=decide_eq_true (by omega);clear hz;by_cases hne:e.v=qcy l k
    ·have HE:=hJ hne;have hne':(e.v != qcy l k)=false:=by simp[hne]
     clear hne;have HI:=hJ (qt3 (l:=l) HZ.out HE.out);generalize qcy l k=lv at *;go_wp2_with fail;refine(qcM e.o _).mono ?_;cases hid:qcl e.o
     ·have HD:=hJ hid;clear hid;rintro r w2 ⟨rfl,rfl⟩;go_wp2;go_ret;exact⟨qae (qgz HX.out (by rw[HI.out,HD.out];rfl)).symm,HS.out.alloc _⟩
     ·have HD:=hJ hid;have hip:=qmy hid;clear hid;rintro r w2 ⟨rfl,rfl⟩;by_cases h6:e.p.length≤6000;rotate_left
      ·have H6:=hJ h6;have h6':6000<e.p.length:=by omega
       clear h6;go_wp2;go_ret;exact⟨qae (qgz HX.out (by rw[HI.out,decide_eq_false H6.out];simp)).symm,HS.out.alloc _⟩
      have H6:=hJ h6;have h6':¬6000<e.p.length:=by omega
      clear h6;have hkey:keyOf Tryz.prog 3 (.int .i64 e.o)=some (.int .i64 e.o):=keyOf_int_mk Tryz.underlying3 (WalkArith.wf_i64 (by omega));obtain⟨cc,hrun,hat,_⟩:=(qex HM.out E1.out).lookup_int qvl Tryz.underlying217 Tryz.underlying3 (quR _) hkey;have hcc:cc=(qar (l.take k) e.o:Int):=by
       have:=hat.symm.trans (HQ.out.2 e.o HD.out);simpa using this
      subst hcc;have hnk:=qi8 l k e.o;have hw1:IntKind.i64.wrap ((qar (l.take k) e.o:Int)+1)=(qar (l.take k) e.o:Int)+1:=IntWalk.i64_in _ (by omega);by_cases hq:e.q=qar (l.take k) e.o+1
      ·have HQQ:=hJ hq;have hq':(e.q != (qar (l.take k) e.o:Int)+1)=false:=by simp[hq]
       have HM1:=hJ (qex HM.out E1.out);have hqb:1≤e.q∧e.q≤2001:=by omega
       clear hq hat;go_wp2_with (first
        | (at_mapUpdate;refine wpList_mapUpdate_own _ rfl _ _ _ 217 rfl 3 3 qvl Tryz.underlying217 _ w.heap.size k _ rfl HM1.out (by unfold maxLen;omega) _ _ _ rfl rfl hkey _ [] (plainElem_int Tryz.underlying3 (WalkArith.wf_i64 (by omega))) ?_;intro w3 hown3 hgrow3)
        | go_in)
       have X3:=hJ (Below.grown (HS.out.trans E1.out) hgrow3 (HS.out.trans E1.out).size (fun j hj=>by cases hj;exact zR _));have HM3:=hJ hown3;clear hown3 hgrow3 hrun;go_roundw
       case rel=>exact⟨k+1,_,by omega,by go_num,by rw[HN.out,←HE.out],hJ (qjb HT.out HX.out (by rw[HI.out,HD.out,decide_eq_true H6.out,decide_eq_true HQQ.out];rfl)),HM3,hJ (qsI HQ.out HX.out HQQ.out),X3.out⟩
       case measure=>simp[intOf];omega
      ·have HQQ:=hJ hq;have hq':(e.q != (qar (l.take k) e.o:Int)+1)=true:=by simp[hq]
       clear hq hat;go_wp2;go_ret;exact⟨qae (qgz HX.out (by rw[HI.out,decide_eq_false HQQ.out];simp)).symm,HS.out.alloc _⟩
    ·have HE:=hJ hne;have hne':(e.v != qcy l k)=true:=by simp[hne]
     clear hne;by_cases hlo:e.v<qcy l k
     ·have HL:=hJ (quc HZ.out HE.out hlo);generalize qcy l k=lv at *;have hlo':decide (e.v<lv)=true:=decide_eq_true hlo;go_wp2;go_ret;exact⟨qae (qgz HX.out HL.out).symm,HS.out.alloc _⟩
     ·have HL:=hJ (quo HZ.out HE.out hlo);generalize qcy l k=lv at *;have hlo':decide (e.v<lv)=false:=decide_eq_false hlo;clear hlo;go_wp2_with fail;refine(qe3 e _ hpl).mono ?_;cases hv:qcq e
      ·have HV:=hJ hv;clear hv;rintro r w2 ⟨rfl,hx2⟩;have X2:=hJ (HS.out.trans (E1.out.trans hx2));clear hx2;go_wp2;go_ret;exact⟨qae (qgz HX.out (by rw[HL.out];exact HV.out)).symm,X2.out⟩
      ·have HV:=hJ hv;clear hv;rintro r w2 ⟨rfl,hx2⟩;have X1:=hJ (E1.out.trans hx2);have X2:=hJ (HS.out.trans X1.out);have d0:w2.cell? (Pw wr 0)=some (.int .i64 e.v):=by rw[hx2.cell (by simp)];simp
       clear hx2;go_wp2;go_roundw
       case rel=>exact⟨k+1,D,by omega,by go_num,by rw[HN.out],hJ (qjb HT.out HX.out (by rw[HL.out];exact HV.out)),hJ ((qex HM.out X1.out).mono (Nat.le_succ _)),hJ (qlY HQ.out HX.out HV.out),X2.out⟩
       case measure=>simp[intOf];omega
  ·go_wp2;go_ret;exact⟨qae (qma hl (fun j hj=>HT.out j (by omega))).symm,HS.out⟩
end Go.Proofs.YtponbabbabnaeaaGreat
namespace Go.Proofs.YtponbabbabnaeaaGreat
open Go.RowKit
def qs5(w:World)(r:Option Vw)(en:Ending)(w':World):Prop:=
 ∃A c,en=.returned (.tuple #[.agg #[Jq (r.getD (0,[])).1,.slice A (r.getD (0,[])).2.length c],.bool r.isSome])∧(r.getD (0,[])).2.length≤c∧c≤maxLen∧Hid (Row w' A (qaq (r.getD (0,[])).2))∧Ext w w'
theorem qtD{l:List Vw}{k:Nat}{v:Vw}{n:Int}(h:l[k]?=some v)(hne:(v.1 == n)=false)(h1:qaQ (l.take k) n=none):qaQ (l.take (k+1)) n=none:=by
 unfold qaQ at *;rw[qbv h,List.find?_append,h1];simp[hne]
theorem qq3{l:List Vw}{k:Nat}{v:Vw}{n:Int}(h:l[k]?=some v)(he:(v.1 == n)=true)(h1:qaQ (l.take k) n=none):qaQ l n=some v:=by
 unfold qaQ at *;have hk:=(zZ h).1;rw[←List.take_append_drop (k+1) l,qbv h,List.append_assoc,List.find?_append,h1,List.find?_append];simp[he]
theorem qrD{l:List Vw}{k:Nat}{n:Int}(h:¬k<l.length)(h1:qaQ (l.take k) n=none):qaQ l n=none:=by rwa [List.take_of_length_le (by omega)] at h1
theorem qkd(A:Option Addr)(c:Nat)(l:List VwM)(n:Int)(w:World)(h:qaC.Box w A l)(hn:l.length≤1000000000) :
  Calls Tryz.prog 90 #[.slice A l.length c,Jq n] w (qs5 w (qaQ (vws l) n)):=by
 have H0:=hJ (Ext.new w (.cells #[Jq 0,Zq] 46));have H:=hJ h;clear h;go_enter Tryz.func90,Tryz.ntmps90;go_wp2;go_loopw [10] (fun i wr=>∃k:Nat,k≤l.length∧i=Jq k∧Hid (qaQ ((vws l).take k) n=none)∧Ext (w.alloc (.cells #[Jq 0,Zq] 46)) wr) (fun i _=>l.length - (intOf i).toNat)
 case atStart=>exact⟨0,zO _,rfl,hJ rfl,Ext.refl _⟩
 case round=>
  obtain⟨k,hk,rfl,HT,HS0⟩:=hrel;have HS:=hJ HS0;clear HS0;have q0:wr.cell? (Pw w 0)=some (Jq 0):=by simpa using HS.out.cell_new 0
  have q1:wr.cell? (Pw w 1)=some Zq:=by simpa using HS.out.cell_new 1
  have f0:wr.frozen? (Pw w 0)=false:=HS.out.frozen_new 0;have f1:wr.frozen? (Pw w 1)=false:=HS.out.frozen_new 1;have z1:w.heap.size<wr.heap.size:=by have:=HS.out.size;simp at this;omega
  by_cases hlt:k<l.length
  ·obtain⟨b,off,m,X,cx,xs,rfl,hb0,d0,d1,HR,hl1,hl2,HX⟩:=qdN H.out hlt;have hb:b<wr.heap.size:=by omega
   have c0:wr.cell? (Pq b (off+k*2))=some (Jq m):=by rw[(H0.out.trans HS.out).cell (by exact hb0)];exact d0
   have c1:wr.cell? (Pq b (off+k*2+1))=some (.slice X xs.length cx):=by rw[(H0.out.trans HS.out).cell (by exact hb0)];exact d1
   clear d0 d1;cases he:m == n
   ·have HE:=hJ he;go_wp2;go_roundw
    case rel=>exact⟨k+1,by omega,by go_num,hJ (qtD (qgU HX.out) HE.out HT.out),HS.out.alloc _⟩
    case measure=>simp[intOf];omega
   ·have HE:=hJ (qq3 (qgU HX.out) he HT.out);have X1:=hJ ((((H0.out.trans HS.out).set (p:=(Pw w 0)) (by simp) (Jq m)).set (p:=(Pw w 1)) (by simp) (.slice X xs.length cx)).alloc (.cells #[Jq m,.slice X xs.length cx] 46));have z2:w.heap.size≠wr.heap.size:=by omega
    go_wp2;refine bodyPost_ret (v:=.tuple #[.agg #[Jq m,.slice X xs.length cx],.bool true]) (by simp[results,Tryz.results90,go_sem,q0,q1,z1]) rfl ?_;rw[HE.out];exact⟨X,cx,rfl,hl1,hl2,hJ (HR.out.ext X1.out),X1.out⟩
  ·have HE:=hJ (qrD (l:=vws l) (by rw[qaX];exact hlt) HT.out);go_wp2;refine bodyPost_ret (v:=.tuple #[.agg #[Jq 0,Zq],.bool false]) (by simp[results,Tryz.results90,go_sem,q0,q1]) rfl ?_;rw[HE.out];exact⟨none,0,rfl,zR _,zO _,hJ (Row.nil _ _),((H0.out.trans HS.out).set (by simp) _).set (by simp) _⟩
theorem qi6(n:Int)(A:Option Addr)(c:Nat)(xs:List Int)(w:World)(h:Row w A (qaq xs))(hn:xs.length≤9223372036854775807) :
  Calls Tryz.prog 51 #[.agg #[Jq n,.slice A xs.length c]] w fun e w'=>e=.returned (Jq (qa1 (n,xs)))∧Ext w w':=by
 have H0:=hJ (Ext.new w (.cells #[Jq n,.slice A xs.length c] 46));have HX:=hJ (h.ext H0.out);clear h;go_enter Tryz.func51,Tryz.ntmps51;go_wp2_with fail;refine(qdp n A c xs _ HX.out hn).mono ?_;cases hv:qap n xs
 ·have HV:=hJ hv;clear hv;rintro e w1 ⟨rfl,hx1⟩;have X1:=hJ (H0.out.trans hx1);clear hx1;go_wp2;go_ret;exact⟨qeW (by simp[qa1,HV.out]),X1.out⟩
 ·have HV:=hJ hv;have hvl:=qaU hv;clear hv;rintro e w1 ⟨rfl,hx1⟩;have X1:=hJ (H0.out.trans hx1);have q1:w1.cell? (Pw w 1)=some (.slice A xs.length c):=by simpa using hx1.cell_new 1
  obtain⟨b,off,x,rfl,hcx,HXx⟩:=(HX.out.ext hx1).at_ (show 0<xs.length by omega);simp only[Nat.add_zero] at hcx;have k0:0<xs.length:=by omega
  have k1:(0:Int)<(xs.length:Int):=by omega
  clear hx1;go_wp2;go_ret;exact⟨qeW (by simp[qa1,HV.out,HXx.out]),X1.out⟩
theorem qt6{l:List Ent}{b:Int}(h:b = -1):qaY l b=decide (l.length=0):=by simp[qaY,h]
theorem qs9{l:List Ent}{b:Int}(h:b≠-1):qaY l b=(decide (0<l.length)&&(qax l&&decide (qca l=b))):=by simp[qaY,h]
theorem qfL{l:List Ent}{j:Nat}{e:Ent}(hj:l.length=j+1)(h:l[j]?=some e):qca l=e.v:=by
 unfold qca;rw[hj,Nat.add_sub_cancel,h]
theorem qdl(A:Option Addr)(c:Nat)(l:List Ent)(base:Int)(w:World)(h:Row w A (qaH.cells l))(hn:l.length≤1000000000)(hp:∀e∈l,e.p.length≤1000000) :
  Calls Tryz.prog 89 #[.slice A l.length c,Jq base] w fun e w'=>e=.returned (.bool (qaY l base))∧Ext w w':=by
 have H:=hJ h;have HPL:=hJ hp;clear h hp;by_cases hb:base = -1
 ·have HB:=hJ hb;subst hb;go_enter Tryz.func89,Tryz.ntmps89;go_wp2;go_ret;exact⟨qae (by rw[qt6 rfl,Bool.eq_iff_iff];simp),Ext.refl _⟩
 ·have HB:=hJ (qs9 (l:=l) hb);have hb':(base == -1)=false:=beq_eq_false_iff_ne.2 hb;clear hb;by_cases hz:l.length=0
  ·have hz':decide ((0:Int)<(l.length:Int))=false:=decide_eq_false (by omega);have hz2:decide (0<l.length)=false:=decide_eq_false (by omega);have HZ:=hJ hz2;clear hz;go_enter Tryz.func89,Tryz.ntmps89;go_wp2;go_ret;exact⟨qae (by rw[HB.out,HZ.out];rfl),Ext.refl _⟩
  ·obtain⟨j,hj⟩:∃j,l.length=j+1:=⟨l.length - 1,by omega⟩;have hz':decide ((0:Int)<(l.length:Int))=true:=decide_eq_true (by omega);have hz2:decide (0<l.length)=true:=decide_eq_true (by omega);have HZ:=hJ hz2;have hw1:IntKind.i64.wrap ((l.length:Int) - 1)=(j:Int):=by rw[IntWalk.i64_in _ (by omega)];omega
   have k1:(0:Int)≤(j:Int):=by omega
   have k2:(j:Int)<(l.length:Int):=by omega
   have k3:j<l.length:=by omega
   have HJ:=hJ hj;clear hz hj;go_enter Tryz.func89,Tryz.ntmps89;go_wp2_with fail;refine(qdM A c l _ H.out hn HPL.out).mono ?_;cases hv:qax l
   ·have HV:=hJ hv;clear hv;rintro r w1 ⟨rfl,hx1⟩;have X1:=hJ hx1;clear hx1;go_wp2;go_ret;exact⟨qae (by rw[HB.out,HV.out];simp),X1.out⟩
   ·have HV:=hJ hv;clear hv;rintro r w1 ⟨rfl,hx1⟩;have X1:=hJ hx1;obtain⟨b,off,e,rfl,hb,c0,c1,c2,c3,HX⟩:=qbO (H.out.ext hx1) k3;have HL:=hJ (qfL HJ.out HX.out);clear hx1;go_wp2;go_ret;exact⟨qae (by rw[HB.out,HV.out,HZ.out,HL.out,Bool.eq_iff_iff];simp),X1.out⟩
def qe2(a b:List Ent):Bool:=decide (a=b)
theorem qo3(a b:Ent)(w:World):(binOp .neq 66 (qkM a) (qkM b)).run Tryz.prog w=.ok (.bool (!decide (a=b))) w:=by
 obtain⟨a1,a2,a3,a4⟩:=a;obtain⟨b1,b2,b3,b4⟩:=b;unfold qkM;simp only[Ent.mk.injEq];by_cases h1:a1=b1
 ·by_cases h2:a2=b2
  ·by_cases h3:a3=b3
   ·by_cases h4:a4=b4
    ·simp[go_sem,h1,h2,h3,h4]
    ·simp[go_sem,h1,h2,h3,h4,qdZ]
   ·simp[go_sem,h1,h2,h3]
  ·simp[go_sem,h1,h2]
 ·simp[go_sem,h1]
theorem qpE{xs ys:List Ent}{k:Nat}{x y:Ent}(hx:xs[k]?=some x)(hy:ys[k]?=some y)(he:x=y)(h:xs.take k=ys.take k):xs.take (k+1)=ys.take (k+1):=by
 rw[qbv hx,qbv hy,h,he]
theorem qsa{xs ys:List Ent}{k:Nat}(h1:¬k<xs.length)(h2:xs.length=ys.length)(h:xs.take k=ys.take k):qe2 xs ys=true:=by
 rw[List.take_of_length_le (by omega),List.take_of_length_le (by omega)] at h;exact decide_eq_true h
theorem qnW{xs ys:List Ent}{k:Nat}{x y:Ent}(hx:xs[k]?=some x)(hy:ys[k]?=some y)(he:¬x=y):qe2 xs ys=false:=
 decide_eq_false fun h=>by subst h;rw[hx] at hy;exact he (Option.some.inj hy)
theorem qi3(A A':Option Addr)(c c':Nat)(xs ys:List Ent)(w:World)(h:Row w A (qaH.cells xs))(h':Row w A' (qaH.cells ys))(hn:xs.length≤1000000000) :
  Calls Tryz.prog 179 #[.slice A xs.length c,.slice A' ys.length c'] w fun e w'=>e=.returned (.bool (qe2 xs ys))∧Still w w':=by
 have H:=hJ h;have H':=hJ h';clear h h';by_cases hl:xs.length=ys.length
 ·have HL:=hJ hl;have hb:((xs.length:Int) != (ys.length:Int))=false:=by simp[hl]
  have hle:ys.length≤xs.length:=by omega
  have hge:xs.length≤ys.length:=by omega
  clear hl;go_enter Tryz.func179,Tryz.ntmps179;go_wp2;go_loopw [5,13] (fun _ i wr=>∃k:Nat,k≤xs.length∧i=Jq k∧Hid (xs.take k=ys.take k)∧Still w wr) (fun _ i _=>xs.length - (intOf i).toNat)
  case atStart=>exact⟨0,zO _,rfl,hJ rfl,Still.refl _⟩
  case round=>
   obtain⟨k,hk,rfl,HT,HS⟩:=hrel;by_cases hlt:k<xs.length
   ·obtain⟨b,off,x,rfl,hb1,c0,c1,c2,c3,HX⟩:=qbO (HS.row H.out) hlt;obtain⟨b',off',y,rfl,hb2,d0,d1,d2,d3,HY⟩:=qbO (HS.row H'.out) (show k<ys.length by omega);have hq:=qo3 x y;unfold qkM at hq;by_cases he:x=y
    ·have HE:=hJ he;rw[decide_eq_true he] at hq;clear he;go_wp2;go_quiet (fail);go_wp2;go_roundw
     case rel=>exact⟨k+1,by omega,by go_num,hJ (qpE HX.out HY.out HE.out HT.out),HS.drewN _⟩
     case measure=>simp[intOf];omega
    ·have HE:=hJ he;rw[decide_eq_false he] at hq;clear he;go_wp2;go_quiet (fail);go_wp2;go_ret;exact⟨qae (qnW HX.out HY.out HE.out).symm,HS.drewN _⟩
   ·go_wp2;go_ret;exact⟨qae (qsa hlt HL.out HT.out).symm,HS⟩
 ·have HE:Hid (qe2 xs ys=false):=hJ (decide_eq_false fun e=>hl (by rw[e]));have hb:((xs.length:Int) != (ys.length:Int))=true:=by simp;omega
  clear hl;go_enter Tryz.func179,Tryz.ntmps179;go_wp2;go_ret;exact⟨qae HE.out.symm,Still.refl _⟩
theorem qr0{w w':World}{a b c d:Value}{t t':TypeId}(h:Ext ((w.alloc (.cells #[a,b] t)).alloc (.cells #[c,d] t')) w') :
  w'.cell? (Pq w.heap.size 0)=some a∧w'.cell? (Pq w.heap.size 1)=some b∧w'.cell? (Pq (w.heap.size+1) 0)=some c∧w'.cell? (Pq (w.heap.size+1) 1)=some d∧w.heap.size+1<w'.heap.size:=by
 have h1:Ext (w.alloc (.cells #[a,b] t)) w':=(Ext.new _ _).trans h;have e:(w.alloc (.cells #[a,b] t)).heap.size=w.heap.size+1:=by simp
 refine⟨by simpa using h1.cell_new 0,by simpa using h1.cell_new 1,?_,?_,?_⟩
 ·have:=h.cell_new 0;rw[e] at this;simpa using this
 ·have:=h.cell_new 1;rw[e] at this;simpa using this
 ·have:=h.size;simp at this;omega
theorem qbG{w:World}{p q:Addr}{u v:Value}(h:w.cell? q=some v)(hne:q.block≠p.block):(w.setCell p u).cell? q=some v:=(World.cell?_of_block (Below.heap_setCell _ _ _ _ hne)).trans h
theorem qvs{w v1:World}{o1 o2:Obj}{a b:Value}{t:TypeId}(h:Ext ((((w.alloc o1).alloc o2).alloc (.cells #[a,b] t)).drew) v1) :
  v1.cell? (Pq (w.heap.size+1+1) 0)=some a∧v1.cell? (Pq (w.heap.size+1+1) 1)=some b∧v1.frozen? (Pq (w.heap.size+1+1) 0)=false∧v1.frozen? (Pq (w.heap.size+1+1) 1)=false:=by
 have h1:Ext (((w.alloc o1).alloc o2).alloc (.cells #[a,b] t)) v1:=Ext.trans (Ext.drew (Ext.refl _)) h;have e:((w.alloc o1).alloc o2).heap.size=w.heap.size+1+1:=by simp
 have a0:=h1.cell_new 0;have a1:=h1.cell_new 1;have a2:=h1.frozen_new 0;have a3:=h1.frozen_new 1;rw[e] at a0 a1 a2 a3;exact⟨by simpa using a0,by simpa using a1,a2,a3⟩
theorem qoL(n m:Int)(xs ys:List Int){r:Int×List Int×Int}(hr:qb9 n xs (qfD n xs m ys)=r):qbD (n,xs) (m,ys)=(decide (r.2.2=0)&&(decide (r.1=m)&&qkW r.2.1 ys)):=by
 unfold qbD;simp only[hr];obtain⟨a,b,c⟩:=r;rw[Bool.eq_iff_iff];simp only[Prod.mk.injEq,zE,zB,qkW];exact⟨fun⟨h1,h2,h3⟩=>⟨h3,h1,h2⟩,fun⟨h1,h2,h3⟩=>⟨h2,h3,h1⟩⟩
theorem qjK(n m:Int)(A B:Option Addr)(c d:Nat)(xs ys:List Int)(w:World)(hx:Row w A (qaq xs))(hy:Row w B (qaq ys))(hn:xs.length≤1000000)(hm:ys.length≤1000000) :
  Calls Tryz.prog 159 #[.agg #[Jq n,.slice A xs.length c],.agg #[Jq m,.slice B ys.length d]] w fun e w'=>e=.returned (.bool (qbD (n,xs) (m,ys)))∧Ext w w':=by
 have H0:=hJ ((Ext.new w (.cells #[Jq n,.slice A xs.length c] 46)).alloc (.cells #[Jq m,.slice B ys.length d] 46));have hn':xs.length≤9223372036854775807:=by omega
 have hm':ys.length≤9223372036854775807:=by omega
 obtain⟨dl,hdl⟩:∃l,qfD n xs m ys=l:=⟨_,rfl⟩;have hdn:dl.length≤9223372036854775807:=by
  rw[←hdl];unfold qfD;split
  ·rw[qgB];have:=qeb xs ys false;have:=qeb ys xs false;omega
  ·simp
 obtain⟨⟨nn,zs,er⟩,hr⟩:∃r,qb9 n xs dl=r:=⟨_,rfl⟩;have HF:=hJ (qoL n m xs ys (r:=(nn,zs,er)) (by rw[hdl];exact hr));have HD:=hJ hdl;have HN:=hJ hr;clear hdl hr;simp only at HF;have RX0:=hJ (hx.ext H0.out.drew);have RY0:=hJ (hy.ext H0.out.drew);have RX1:=hJ (hx.ext ((H0.out.alloc (.cells #[Jq 0,Zq] 46)).drew));have RY1:=hJ (hy.ext ((H0.out.alloc (.cells #[Jq 0,Zq] 46)).drew));have HX:=hJ (hx.ext H0.out);have HY:=hJ (hy.ext H0.out);clear hx hy;go_enter Tryz.func159,Tryz.ntmps159;go_upto_region 1 with fail;go_cut [5,6] (fun s5 s6 wx=>∃p A1 c1,s5=.pointer (some (Pq p 0))∧s6=Jq er∧wx.cell? (Pq p 0)=some (Jq nn)∧wx.cell? (Pq p 1)=some (.slice A1 zs.length c1)∧zs.length≤c1∧c1≤maxLen∧Hid (Row wx A1 (qaq zs))∧Ext ((w.alloc (.cells #[Jq n,.slice A xs.length c] 46)).alloc (.cells #[Jq m,.slice B ys.length d] 46)) wx)
 case first=>
  go_region_held3 (fun w'=>w'.cell? (Pw w 0)=some (Jq n)∧w'.cell? (Pw w 1)=some (.slice A xs.length c)∧w'.cell? (Pv w 0)=some (Jq m)∧w'.cell? (Pv w 1)=some (.slice B ys.length d))
   (first|exact⟨r0,r1,r2,r3⟩|exact⟨t0,t1,t2,t3⟩|exact⟨qbG (qbG t0 (by simp only;omega)) (by simp only;omega),qbG (qbG t1 (by simp only;omega)) (by simp only;omega),qbG (qbG t2 (by simp only;omega)) (by simp only;omega),qbG (qbG t3 (by simp only;omega)) (by simp only;omega)⟩|(go_keep;done))
   (first
    | (go_at_call 195;(with_reducible refine(qqA n m A B c d xs ys _ (by first|exact RX0.out|exact RX1.out) (by first|exact RY0.out|exact RY1.out) hn' hm').mono ?_);rw[HD.out];rintro e v1 ⟨A1,c1,rfl,h11,h12,ho1,hx1⟩;have RD0:=hJ ho1.row;have RD1:=hJ (RD0.out.ext (Ext.new _ (.cells #[.int .i64 0,.slice none 0 0] 46)));(first|have X1:Hid (Ext ((w.alloc (.cells #[.int .i64 n,.slice A xs.length c] 46)).alloc (.cells #[.int .i64 m,.slice B ys.length d] 46)) v1):=hJ (Ext.trans (Ext.drew (Ext.refl _)) hx1)|have X1:Hid (Ext ((w.alloc (.cells #[.int .i64 n,.slice A xs.length c] 46)).alloc (.cells #[.int .i64 m,.slice B ys.length d] 46)) v1):=hJ (Ext.trans (Ext.drew (Ext.new _ (.cells #[.int .i64 0,.slice none 0 0] 46))) hx1));have RX2:=hJ (Row.ext (by first|exact RX0.out|exact RX1.out) hx1);have RX3:=hJ (RX2.out.ext (Ext.new _ (.cells #[.int .i64 0,.slice none 0 0] 46)));obtain⟨r0,r1,r2,r3,y1⟩:=qr0 X1.out;clear ho1)
    | (go_at_call 194;(with_reducible refine(qrK n A A1 c c1 xs dl _ (by first|exact RX2.out|exact RX3.out) (by first|exact RD0.out|exact RD1.out) hn' hdn).mono ?_);rw[HN.out];rintro e v2 ⟨A2,c2,rfl,h21,h22,ho2,hx2⟩;have RN0:=hJ ho2;have t0:v2.cell? ⟨w.heap.size,0,none⟩=some (.int .i64 n):=(by rw[hx2.cell (by first|exact(show w.heap.size<v1.heap.size by omega)|(simp;omega))];first|exact r0|(rw[(Ext.new v1 _).cell (by exact(show w.heap.size<v1.heap.size by omega))];exact r0));have t1:v2.cell? ⟨w.heap.size,1,none⟩=some (.slice A xs.length c):=(by rw[hx2.cell (by first|exact(show w.heap.size<v1.heap.size by omega)|(simp;omega))];first|exact r1|(rw[(Ext.new v1 _).cell (by exact(show w.heap.size<v1.heap.size by omega))];exact r1));have t2:v2.cell? ⟨w.heap.size+1,0,none⟩=some (.int .i64 m):=(by rw[hx2.cell (by first|exact(show w.heap.size+1<v1.heap.size by omega)|(simp;omega))];first|exact r2|(rw[(Ext.new v1 _).cell (by exact(show w.heap.size+1<v1.heap.size by omega))];exact r2));have t3:v2.cell? ⟨w.heap.size+1,1,none⟩=some (.slice B ys.length d):=(by rw[hx2.cell (by first|exact(show w.heap.size+1<v1.heap.size by omega)|(simp;omega))];first|exact r3|(rw[(Ext.new v1 _).cell (by exact(show w.heap.size+1<v1.heap.size by omega))];exact r3));have y2:w.heap.size+1<v2.heap.size:=(by have:=hx2.size;first|omega|(simp at this;omega));(first|(have k0:v2.cell? ⟨v1.heap.size,0,none⟩=some (.int .i64 0):=(by rw[hx2.cell (by simp)];simp);have k1:v2.cell? ⟨v1.heap.size,1,none⟩=some (.slice none 0 0):=(by rw[hx2.cell (by simp)];simp);have f0:v2.frozen? ⟨v1.heap.size,0,none⟩=false:=(by rw[hx2.frozen (by simp)];simp);have f1:v2.frozen? ⟨v1.heap.size,1,none⟩=false:=(by rw[hx2.frozen (by simp)];simp);have n1:w.heap.size≠v1.heap.size:=(by omega);have n2:w.heap.size+1≠v1.heap.size:=(by omega))|(have y3:w.heap.size+2<v1.heap.size:=(by have:=hx1.size;simp at this;omega);have g1:=hJ (qvs hx1);have k0:v2.cell? ⟨w.heap.size+1+1,0,none⟩=some (.int .i64 0):=(by rw[hx2.cell (by exact y3)];exact g1.out.1);have k1:v2.cell? ⟨w.heap.size+1+1,1,none⟩=some (.slice none 0 0):=(by rw[hx2.cell (by exact y3)];exact g1.out.2.1);have f0:v2.frozen? ⟨w.heap.size+1+1,0,none⟩=false:=(by rw[hx2.frozen (by exact y3)];exact g1.out.2.2.1);have f1:v2.frozen? ⟨w.heap.size+1+1,1,none⟩=false:=(by rw[hx2.frozen (by exact y3)];exact g1.out.2.2.2))|skip);clear ho2))
  ·have X2:=hJ (X1.out.trans hx2);go_wp2;go_meet
   case rel=>exact⟨v2.heap.size,A2,c2,rfl,rfl,by simp,by simp,h21,h22,hJ (RN0.out.row.ext (Ext.new _ _)),X2.out.alloc _⟩
  ·have X2:=hJ (X1.out.trans ((Ext.new _ _).trans hx2));have RN1:=hJ ((RN0.out.set (p:=(Pw v1 0)) (fun q hq=>by have:=(RN0.out.lt q hq).1;simp at this;simp only;omega) (Jq nn)).set (p:=(Pw v1 1)) (fun q hq=>by have:=(RN0.out.lt q hq).1;simp at this;simp only;omega) (.slice A2 zs.length c2));go_wp2;go_meet
   case rel=>exact⟨v1.heap.size,A2,c2,rfl,rfl,by simp[go_sem,k0],by simp[go_sem,k1],h21,h22,hJ RN1.out.row,(X2.out.set (by simp;omega) _).set (by simp;omega) _⟩
  ·have X2:=hJ (X1.out.trans hx2);have RN1:=hJ ((RN0.out.set (p:=(Pq (w.heap.size+1+1) 0)) (fun q hq=>by have:=(RN0.out.lt q hq).1;simp only;omega) (Jq nn)).set (p:=(Pq (w.heap.size+1+1) 1)) (fun q hq=>by have:=(RN0.out.lt q hq).1;simp only;omega) (.slice A2 zs.length c2));go_wp2;go_meet
   case rel=>exact⟨w.heap.size+1+1,A2,c2,rfl,rfl,by simp[go_sem,k0],by simp[go_sem,k1],h21,h22,hJ RN1.out.row,(X2.out.set (by simp) _).set (by simp) _⟩
 case rest=>
  obtain⟨p,A1,c1,rfl,rfl,s0,s1,h1,h2,HR,HS0⟩:=hcut;have HS:=hJ HS0;clear HS0;obtain⟨r0,r1,r2,r3,y1⟩:=qr0 HS.out;by_cases he:er=0;rotate_left
  ·have he':(er == 0)=false:=beq_eq_false_iff_ne.2 he;have HE:=hJ he;clear he;go_wp2;go_ret;exact⟨qae (by rw[HF.out,decide_eq_false HE.out];rfl),H0.out.trans HS.out⟩
  subst he;by_cases hv:nn=m;rotate_left
  ·have hv':(nn == m)=false:=beq_eq_false_iff_ne.2 hv;have HE:=hJ hv;clear hv;go_wp2;go_ret;exact⟨qae (by rw[HF.out,decide_eq_false HE.out];rfl),H0.out.trans HS.out⟩
  subst hv;go_wp2_with fail;refine(qoY _ _ _ _ zs ys _ HR.out (HY.out.ext HS.out) (by unfold maxLen at h2;omega)).mono ?_;rintro e w4 ⟨rfl,hs4⟩;have X4:=hJ (HS.out.trans hs4.ext);clear hs4;go_wp2;go_ret;exact⟨qae (by rw[HF.out];simp),H0.out.trans X4.out⟩
theorem qgj{l:List Vw}{i:Nat}{v:Vw}(h:l[i]?=some v):qbu l i=v:=by unfold qbu;rw[h];rfl
theorem qrA{l:List Vw}(h:¬1≤l.length):qaw l=false:=by unfold qaw;rw[decide_eq_false h];rfl
theorem qsR{l:List Vw}(h:¬l.length≤2000):qaw l=false:=by unfold qaw;rw[decide_eq_false h];simp
theorem qqS{l:List Vw}{v:Vw}(h:l[0]?=some v)(hv:qap v.1 v.2=false):qaw l=false:=by unfold qaw;rw[qgj h,hv];simp
theorem quW{l:List Vw}{k:Nat}{a b:Vw}(ha:l[k]?=some a)(hb:l[k+1]?=some b)(hf:qbD a b=false):qaw l=false:=by
 have hk:=(zZ hb).1;unfold qaw;rw[show ((List.range (l.length - 1)).all fun i=>qbD (qbu l i) (qbu l (i+1)))=false from by
  rw[List.all_eq_false];exact⟨k,List.mem_range.2 (by omega),by rw[qgj ha,qgj hb,hf];simp⟩]
 simp
theorem qt4{l:List Vw}{v:Vw}(h1:1≤l.length)(h2:l.length≤2000)(h:l[0]?=some v)(hv:qap v.1 v.2=true)(hf:∀j,j<l.length - 1→qbD (qbu l j) (qbu l (j+1))=true):qaw l=true:=by
 unfold qaw;rw[decide_eq_true h1,decide_eq_true h2,qgj h,hv,show ((List.range (l.length - 1)).all fun i=>qbD (qbu l i) (qbu l (i+1)))=true from by
  rw[List.all_eq_true];exact fun i hi=>hf i (List.mem_range.1 hi)];rfl
theorem qsV{l:List Vw}{k:Nat}{a b:Vw}(ha:l[k]?=some a)(hb:l[k+1]?=some b)(hf:qbD a b=true)(h:∀j,j<k→qbD (qbu l j) (qbu l (j+1))=true):∀j,j<k+1→qbD (qbu l j) (qbu l (j+1))=true:=by
 intro j hj;rcases Nat.lt_or_ge j k with h1|h1
 ·exact h j h1
 ·rw[show j=k by omega,qgj ha,qgj hb];exact hf
theorem qic(n m:Int)(A B:Option Addr)(c d:Nat)(xs ys:List Int)(w:World)(hx:Row w A (qaq xs))(hy:Row w B (qaq ys))(hn:xs.length≤1000000)(hm:ys.length≤1000000)(r:Bool)(hr:qbD (n,xs) (m,ys)=r) :
  Calls Tryz.prog 159 #[.agg #[Jq n,.slice A xs.length c],.agg #[Jq m,.slice B ys.length d]] w fun e w'=>e=.returned (.bool r)∧Ext w w':=by
 subst hr;exact qjK n m A B c d xs ys w hx hy hn hm
theorem qfo(A:Option Addr)(c:Nat)(l:List VwM)(w:World)(h:qaC.Box w A l)(hn:l.length≤1000000000)(hm:∀v∈l,v.xs.length≤1000000) :
  Calls Tryz.prog 88 #[.slice A l.length c] w fun e w'=>e=.returned (.bool (qaw (vws l)))∧Ext w w':=by
 have H:=hJ h;have HM:=hJ hm;clear h hm;by_cases h1:1≤l.length;rotate_left
 ·have h1':l.length<1:=by omega
  have H1:=hJ h1;clear h1;go_enter Tryz.func88,Tryz.ntmps88;go_wp2;go_ret;exact⟨qae (qrA (by rw[qaX];exact H1.out)).symm,Ext.refl _⟩
 have h1':¬l.length<1:=by omega
 have h1i:decide ((l.length:Int)<1)=false:=decide_eq_false (by omega);by_cases h2:l.length≤2000;rotate_left
 ·have h2':2000<l.length:=by omega
  have H2:=hJ h2;clear h2;go_enter Tryz.func88,Tryz.ntmps88;go_wp2;go_ret;exact⟨qae (qsR (by rw[qaX];exact H2.out)).symm,Ext.refl _⟩
 have h2':¬2000<l.length:=by omega
 have h2i:decide ((2000:Int)<(l.length:Int))=false:=decide_eq_false (by omega);obtain⟨b,off,n0,X0,cx0,xs0,hA,hb,c0,c1,HR0,hl1,hl2,HX0⟩:=qdN H.out (show 0<l.length by omega);simp only[Nat.zero_mul,Nat.add_zero] at c0 c1;subst hA;have HP0:=hJ (qgU HX0.out);have hx0:xs0.length≤9223372036854775807:=by have:=HM.out _ (zX HX0.out);simp only at this;omega
 have k0:0<l.length:=by omega
 go_enter Tryz.func88,Tryz.ntmps88;go_wp2_with fail;refine(qdp n0 X0 cx0 xs0 _ HR0.out hx0).mono ?_;cases hv:qap n0 xs0
 ·have HV:=hJ hv;clear hv;rintro e w1 ⟨rfl,hx1⟩;have X1:=hJ hx1;clear hx1;go_wp2;go_ret;exact⟨qae (qqS HP0.out HV.out).symm,X1.out⟩
 have HV:=hJ hv;clear hv;rintro e w1 ⟨rfl,hx1⟩;have X1:=hJ hx1;clear hx1 c0 c1;go_wp2;go_loopw [3] (fun i wr=>∃k:Nat,k+1≤l.length∧i=Jq ((k+1:Nat):Int)∧Hid (∀j,j<k→qbD (qbu (vws l) j) (qbu (vws l) (j+1))=true)∧Ext w wr) (fun i _=>l.length - (intOf i).toNat)
 case atStart=>exact⟨0,by omega,rfl,hJ (fun j hj=>absurd hj (Nat.not_lt_zero _)),X1.out⟩
 case round=>
  obtain⟨k,hk,rfl,HT,HS0⟩:=hrel;have HS:=hJ HS0;clear HS0;by_cases hlt:k+1<l.length
  ·obtain⟨b1,off1,n1,Y1,cy1,ys1,hA1,hb1,c0,c1,HR1,hl3,hl4,HX1⟩:=qdN (H.out.ext HS.out) (show k<l.length by omega);obtain⟨b2,off2,n2,Y2,cy2,ys2,hA2,hb2,d0,d1,HR2,hl5,hl6,HX2⟩:=qdN (H.out.ext HS.out) hlt;simp only[zJ,Addr.mk.injEq,and_true] at hA1 hA2;obtain⟨rfl,rfl⟩:=hA1;obtain⟨rfl,rfl⟩:=hA2;have HP1:=hJ (qgU HX1.out);have HP2:=hJ (qgU HX2.out);have hy1:ys1.length≤1000000:=HM.out _ (zX HX1.out);have hy2:ys2.length≤1000000:=HM.out _ (zX HX2.out);have RY1:=hJ (HR1.out.ext (Ext.drew (Ext.refl _)));have RY2:=hJ (HR2.out.ext (Ext.drew (Ext.refl _)));obtain⟨i,hi⟩:∃i,k+1=i:=⟨_,rfl⟩;have HI:=hJ hi;have hw1:IntKind.i64.wrap ((i:Int) - 1)=(k:Int):=by rw[IntWalk.i64_in _ (by omega)];omega
   have m1:(0:Int)≤(k:Int):=by omega
   have m2:(k:Int)<(l.length:Int):=by omega
   have m3:k<l.length:=by omega
   rw[hi] at d0 d1 hlt⊢;have hwi:IntKind.i64.wrap ((i:Int)+1)=(i:Int)+1:=IntWalk.i64_in _ (by omega);clear hi;cases hf:qbD (n1,ys1) (n2,ys2)
   ·have HF:=hJ hf;clear hf;go_wp2;refine qeS 9 (by kernel_rfl) (by kernel_rfl) ?_;simp only[List.take_succ_cons,List.take_zero,List.drop_succ_cons,List.drop_zero];with_reducible refine qbr (v:=?_) ?_ ?_ ?_;rotate_left
    ·rfl
    ·(go_simp<;>with_reducible rfl)
    try simp only[Act.put,l1,l2,l3]
    with_reducible refine qbr (v:=?_) ?_ ?_ ?_;rotate_left
    ·rfl
    ·(go_simp<;>with_reducible rfl)
    try simp only[Act.put,l1,l2,l3]
    with_reducible refine qbr (v:=?_) ?_ ?_ ?_;rotate_left
    ·rfl
    ·(go_simp<;>with_reducible rfl)
    try simp only[Act.put,l1,l2,l3]
    with_reducible refine qbr (v:=?_) ?_ ?_ ?_;rotate_left
    ·rfl
    ·(go_simp<;>with_reducible rfl)
    try simp only[Act.put,l1,l2,l3]
    with_reducible refine qbr (v:=?_) ?_ ?_ ?_;rotate_left
    ·rfl
    ·(go_simp<;>with_reducible rfl)
    try simp only[Act.put,l1,l2,l3]
    with_reducible refine qbr (v:=?_) ?_ ?_ ?_;rotate_left
    ·rfl
    ·(go_simp<;>with_reducible rfl)
    try simp only[Act.put,l1,l2,l3]
    with_reducible refine qbr (v:=?_) ?_ ?_ ?_;rotate_left
    ·rfl
    ·(go_simp<;>with_reducible rfl)
    try simp only[Act.put,l1,l2,l3]
    with_reducible refine qbr (v:=?_) ?_ ?_ ?_;rotate_left
    ·rfl
    ·(go_simp<;>with_reducible rfl)
    try simp only[Act.put,l1,l2,l3]
    with_reducible refine qbr (v:=?_) ?_ ?_ ?_;rotate_left
    ·rfl
    ·(go_simp<;>with_reducible rfl)
    try simp only[Act.put,l1,l2,l3]
    refine wpStill_nil ?_;go_wp2_with fail;refine(qic n1 n2 Y1 Y2 cy1 cy2 ys1 ys2 _ RY1.out RY2.out hy1 hy2 _ HF.out).mono ?_;rintro e w2 ⟨rfl,hx2⟩;have X2:=hJ (HS.out.drew.trans hx2);clear hx2;go_wp2;go_ret;exact⟨qae (quW HP1.out HP2.out HF.out).symm,X2.out⟩
   ·have HF:=hJ hf;clear hf;go_wp2;refine qeS 9 (by kernel_rfl) (by kernel_rfl) ?_;simp only[List.take_succ_cons,List.take_zero,List.drop_succ_cons,List.drop_zero];with_reducible refine qbr (v:=?_) ?_ ?_ ?_;rotate_left
    ·rfl
    ·(go_simp<;>with_reducible rfl)
    try simp only[Act.put,l1,l2,l3]
    with_reducible refine qbr (v:=?_) ?_ ?_ ?_;rotate_left
    ·rfl
    ·(go_simp<;>with_reducible rfl)
    try simp only[Act.put,l1,l2,l3]
    with_reducible refine qbr (v:=?_) ?_ ?_ ?_;rotate_left
    ·rfl
    ·(go_simp<;>with_reducible rfl)
    try simp only[Act.put,l1,l2,l3]
    with_reducible refine qbr (v:=?_) ?_ ?_ ?_;rotate_left
    ·rfl
    ·(go_simp<;>with_reducible rfl)
    try simp only[Act.put,l1,l2,l3]
    with_reducible refine qbr (v:=?_) ?_ ?_ ?_;rotate_left
    ·rfl
    ·(go_simp<;>with_reducible rfl)
    try simp only[Act.put,l1,l2,l3]
    with_reducible refine qbr (v:=?_) ?_ ?_ ?_;rotate_left
    ·rfl
    ·(go_simp<;>with_reducible rfl)
    try simp only[Act.put,l1,l2,l3]
    with_reducible refine qbr (v:=?_) ?_ ?_ ?_;rotate_left
    ·rfl
    ·(go_simp<;>with_reducible rfl)
    try simp only[Act.put,l1,l2,l3]
    with_reducible refine qbr (v:=?_) ?_ ?_ ?_;rotate_left
    ·rfl
    ·(go_simp<;>with_reducible rfl)
    try simp only[Act.put,l1,l2,l3]
    with_reducible refine qbr (v:=?_) ?_ ?_ ?_;rotate_left
    ·rfl
    ·(go_simp<;>with_reducible rfl)
    try simp only[Act.put,l1,l2,l3]
    refine wpStill_nil ?_;go_wp2_with fail;refine(qic n1 n2 Y1 Y2 cy1 cy2 ys1 ys2 _ RY1.out RY2.out hy1 hy2 _ HF.out).mono ?_;rintro e w2 ⟨rfl,hx2⟩;have X2:=hJ (HS.out.drew.trans hx2);clear hx2;go_wp2;go_roundw
    case rel=>exact⟨k+1,by have:=HI.out;omega,by have:=HI.out;rw[←this];go_num,hJ (qsV HP1.out HP2.out HF.out HT.out),X2.out⟩
    case measure=>simp[intOf]<;>omega
  ·obtain⟨i,hi⟩:∃i,k+1=i:=⟨_,rfl⟩;have HI:=hJ hi;rw[hi] at hlt⊢;clear hi;go_wp2;go_ret;exact⟨qae (qt4 (by rw[qaX];exact h1) (by rw[qaX];exact h2) HP0.out HV.out (fun j hj=>HT.out j (by rw[qaX] at hj;have:=HI.out;omega))).symm,HS.out⟩
structure BM where
 self:Int
 base:Int
 stable:Int
 sent:Int
 Av:Option Addr
 cv:Nat
 vs:List VwM
 Al:Option Addr
 cl:Nat
 log:List Ent
 Ap:Option Addr
 cp:Nat
 pend:List (List UInt8)
 Am:Option Addr
 cm:Nat
 marks:List (Int×Int)
 Af:Option Addr
 cf:Nat
 fls:List FlM
def BM.st(b:BM):St:=⟨b.self,vws b.vs,b.base,b.log,b.stable,b.sent,b.pend,b.marks,b.fls.map FlM.v⟩
abbrev BM.cells(b:BM):Array Value:=#[.int .i64 b.self,.slice b.Av b.vs.length b.cv,.int .i64 b.base,.slice b.Al b.log.length b.cl,.int .i64 b.stable,.int .i64 b.sent,.slice b.Ap b.pend.length b.cp,.slice b.Am b.marks.length b.cm,.slice b.Af b.fls.length b.cf]
structure BM.Reads(w:World)(b:BM):Prop where
 vs:qaC.Box w b.Av b.vs
 log:Row w b.Al (qaH.cells b.log)
 pend:Row w b.Ap (qdC.cells b.pend)
 marks:Row w b.Am (qat.cells b.marks)
 fls:flE.Box w b.Af b.fls
theorem BM.Reads.ext{w w':World}{b:BM}(h:b.Reads w)(e:Ext w w'):b.Reads w':=⟨h.vs.ext e,h.log.ext e,h.pend.ext e,h.marks.ext e,h.fls.ext e⟩
structure BM.Fits(b:BM):Prop where
 vs:b.vs.length≤100000
 vx:∀v∈b.vs,v.xs.length≤1000000
 log:b.log.length≤100000
 lp:∀e∈b.log,e.p.length≤1000000
 pend:b.pend.length≤100000
 pp:∀p∈b.pend,p.length≤1000000
 marks:b.marks.length≤100000
 fls:b.fls.length≤100000
 fl:∀f∈b.fls,f.log.length≤100000∧∀e∈f.log,e.p.length≤1000000
 cl:b.log.length≤b.cl∧b.cl≤maxLen
theorem qhV{l:List VwM}{m:Nat}(h:∀v∈l,v.xs.length≤m):(qad (vws l)).2.length≤m:=by
 unfold qad qbu;cases hi:(vws l)[(vws l).length - 1]? with
 | none=>simp
 | some v=>
  obtain⟨u,hu,rfl⟩:=List.mem_map.1 (zX hi);exact h u hu
theorem qe8(n:Int)(A:Option Addr)(k c:Nat)(w:World):(Instr.field 46 (.agg #[Jq n,.slice A k c]) 0).run Tryz.prog w=.ok (Jq n) w:=by
 simp[Instr.field,asAgg,go_sem]
theorem qef(A:Option Addr)(c:Nat)(l:List VwM)(w:World)(h:qaC.Box w A l)(hp:0<l.length)(hn:l.length≤1000000000)(n:Int)(xs:List Int)(hr:qad (vws l)=(n,xs)) :
  Calls Tryz.prog 49 #[.slice A l.length c] w fun e w'=>∃A c,e=.returned (.agg #[Jq n,.slice A xs.length c])∧xs.length≤c∧c≤maxLen∧Hid (Row w' A (qaq xs))∧Ext w w':=by
 have:=qq9 A c l w h hp hn;rw[hr] at this;exact this
theorem qbJ(n:Int)(A:Option Addr)(c:Nat)(xs:List Int)(w:World)(h:Row w A (qaq xs))(hn:xs.length≤9223372036854775807)(s:Int)(hs:qa1 (n,xs)=s) :
  Calls Tryz.prog 51 #[.agg #[Jq n,.slice A xs.length c]] w fun e w'=>e=.returned (Jq s)∧Ext w w':=by
 subst hs;exact qi6 n A c xs w h hn
theorem qdU(b:BM)(w:World)(h:b.Reads w)(hp:0<b.vs.length)(hf:b.Fits) :
  Calls Tryz.prog 40 #[.agg b.cells] w fun e w'=>e=.returned (.bool (qan b.st))∧Ext w w':=by
 have H0:=hJ (Ext.new w (.cells b.cells 28));have HV:=hJ (h.vs.ext H0.out.drew);have hn:b.vs.length≤1000000000:=by have:=hf.vs;omega
 obtain⟨⟨n,xs⟩,hl⟩:∃v,qad (vws b.vs)=v:=⟨_,rfl⟩;have HL:=hJ hl;have HO:Hid (qan b.st=decide (b.base=n)):=hJ (by show decide (b.base=(qad (vws b.vs)).1)=_;rw[hl]);clear h hf hl;unfold BM.cells at H0 HV⊢;have hfd:=qe8;go_enter Tryz.func40,Tryz.ntmps40;go_wp2;go_region_held3 (fun w'=>w'.cell? (Pw w 1)=some (.slice b.Av b.vs.length b.cv)∧w'.cell? (Pw w 2)=some (Jq b.base))
  (first|exact⟨r0,r1⟩|(go_keep;done))
  (first
   | (go_at_call 49;(with_reducible refine(qef b.Av b.cv b.vs _ (by exact HV.out) hp hn n xs (by exact HL.out)).mono ?_);rintro e v1 ⟨A1,c1,rfl,_,_,_,hx1⟩;have X1:=hJ (Ext.trans H0.out.drew hx1);have r0:v1.cell? ⟨w.heap.size,1,none⟩=some (.slice b.Av b.vs.length b.cv):=(by rw[hx1.cell (by simp)];simp);have r1:v1.cell? ⟨w.heap.size,2,none⟩=some (.int .i64 b.base):=(by rw[hx1.cell (by simp)];simp);clear hx1))
 go_wp2;go_ret;exact⟨qae (by rw[HO.out,Bool.eq_iff_iff];simp),X1.out⟩
theorem qdt(b:BM)(w:World)(h:b.Reads w)(hp:0<b.vs.length)(hf:b.Fits) :
  Calls Tryz.prog 41 #[.agg b.cells] w fun e w'=>e=.returned (.bool (qas b.st))∧Ext w w':=by
 have H0:=hJ (Ext.new w (.cells b.cells 28));have HV:=hJ (h.vs.ext H0.out.drew);have hn:b.vs.length≤1000000000:=by have:=hf.vs;omega
 have hxl:=qhV hf.vx;obtain⟨⟨n,xs⟩,hl⟩:∃v,qad (vws b.vs)=v:=⟨_,rfl⟩;have HL:=hJ hl;obtain⟨sq,hsq⟩:∃s,qa1 (n,xs)=s:=⟨_,rfl⟩;have HQ:=hJ hsq;have HO:Hid (qas b.st=decide (sq=b.self)):=hJ (by show decide (qa1 (qad (vws b.vs))=b.self)=_;rw[hl,hsq]);rw[hl] at hxl;have hxl':xs.length≤9223372036854775807:=by simp only at hxl;omega
 clear h hf hl hsq hxl;unfold BM.cells at H0 HV⊢;go_enter Tryz.func41,Tryz.ntmps41;go_wp2;go_region_held3 (fun w'=>w'.cell? (Pw w 1)=some (.slice b.Av b.vs.length b.cv)∧w'.cell? (Pw w 0)=some (Jq b.self))
  (first|exact⟨r0,r1⟩|exact⟨t0,t1⟩|(go_keep;done))
  (first
   | (go_at_call 49;(with_reducible refine(qef b.Av b.cv b.vs _ (by exact HV.out) hp hn n xs (by exact HL.out)).mono ?_);rintro e v1 ⟨A1,c1,rfl,_,_,HR1,hx1⟩;have X1:=hJ (Ext.trans H0.out.drew hx1);have y1:w.heap.size<v1.heap.size:=(by have:=hx1.size;simp at this;omega);have r0:v1.cell? ⟨w.heap.size,1,none⟩=some (.slice b.Av b.vs.length b.cv):=(by rw[hx1.cell (by simp)];simp);have r1:v1.cell? ⟨w.heap.size,0,none⟩=some (.int .i64 b.self):=(by rw[hx1.cell (by simp)];simp);clear hx1)
   | (go_at_call 51;(with_reducible refine(qbJ n A1 c1 xs _ (by exact HR1.out) hxl' sq (by exact HQ.out)).mono ?_);rintro e v2 ⟨rfl,hx2⟩;have X2:=hJ (Ext.trans X1.out hx2);have t0:v2.cell? ⟨w.heap.size,1,none⟩=some (.slice b.Av b.vs.length b.cv):=(by rw[hx2.cell (by exact y1)];exact r0);have t1:v2.cell? ⟨w.heap.size,0,none⟩=some (.int .i64 b.self):=(by rw[hx2.cell (by exact y1)];exact r1);clear hx2))
 go_wp2;go_ret;exact⟨qae (by rw[HO.out,Bool.eq_iff_iff];simp),X2.out⟩
end Go.Proofs.YtponbabbabnaeaaGreat
