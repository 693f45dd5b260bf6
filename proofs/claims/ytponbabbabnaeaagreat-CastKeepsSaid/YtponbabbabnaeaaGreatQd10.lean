/- Part 10 of the proof: contracts of functions that the statement reaches. Conditions: as each theorem says. -/
import Derived.Lib.AppendZerosOnto
import Derived.Test.YtponbabbabnaeaaGreatQd01
import Derived.Test.YtponbabbabnaeaaGreatQd09
import Derived.Test.YtponbabbabnaeaaGreatQd05
import Derived.Test.YtponbabbabnaeaaGreatQd08
set_option maxRecDepth 100000
namespace Go.Proofs.YtponbabbabnaeaaGreat
open Go.RowKit
theorem qiD{P:Program}{ops:Array Oper}{rest:List Oper}{o:Oper}{a:Act}{Q:Exit→Act→World→Prop}(w:World)(hgd:o.guard=none)(s x:Operand)(t u:TypeId)
  (ho:o.op=.call {callee:=.builtin .append,args:=#[s,x],argTypes:=#[t,u]}) (va vx v:Value) (w':World) (hs:a.eval s=va) (hx:a.eval x=vx) (hrun:(Builtin.append_ #[t,u] o.type #[va,vx]).run P w=.ok v w')
  (h:wpList P ops Q rest (a.put o.dst v) w'):wpList P ops Q (o::rest) a w:=by
 refine wpList_plain hgd fun K hK=>?_
 unfold Oper.wp execOp
 simp only[ho,resolve,invoke,builtin,Sem.run_bind,Sem.run_pure,Result.andThen_ok,List.map_toArray,List.map_cons,List.map_nil,hs,hx,hrun]
 exact hK _ _ h
theorem qf1(n:Int):((uN n:Nat):Int)=IntKind.u64.wrap n:=by rw[IntKind.wrap_u64];unfold uN;omega
theorem qic(n:Int):uN n<U64:=by unfold uN U64;omega
theorem qlK{xs:List Int}{k:Nat}{x:Int}(h:xs[k]?=some x):qav (xs.take (k+1))=qav (xs.take k)++qaS (uN x):=by
 unfold qav;rw[List.take_add_one,h];simp
theorem qaD(xs:List Int):(qav xs).length≤11*xs.length:=by
 induction xs with
 | nil=>simp[qav]
 | cons x l ih=>
  have:=qat (qic x)
  unfold qav at *
  simp only[List.flatMap_cons,List.length_append,List.length_cons]
  omega
theorem qbP(A:Option Addr)(c:Nat)(xs:List Int)(w:World)(h:Row w A (qam xs))(hn:xs.length≤1000) :
  Calls Tryz.prog 48 #[.slice A xs.length c] w (GivesB w (qav xs)):=by
 have H:=hJ h;clear h
 go_enter Tryz.func48,Tryz.ntmps48
 go_wp2;go_loopw [3,8] (fun v i wr=>∃(k:Nat) (A':Option Addr) (c':Nat),k≤xs.length∧i=Jq k∧v=.slice A' (qav (xs.take k)).length c'∧(qav (xs.take k)).length≤c'∧c'≤maxLen∧Hid (Own wr w.heap.size 5 (.slice A' (qav (xs.take k)).length c') (qad (qav (xs.take k))))∧Hid (Ext w wr)) (fun _ i _=>xs.length - (intOf i).toNat)
 case atStart=>exact⟨0,none,0,Nat.zero_le _,rfl,rfl,Nat.le_refl _,Nat.zero_le _,hJ (Own.nil _ _ _),hJ (Ext.refl _)⟩
 case round=>
  obtain⟨k,A',c',hk,rfl,rfl,h1,h2,HO,HX⟩:=hrel
  by_cases hlt:k<xs.length
  ·obtain⟨b,off,x,hA,hc,HE⟩:=(H.out.ext HX.out).at_ hlt
   subst hA
   have hui:=qf1 x
   have hl:(qav (xs.take k)).length≤1000000:=by have:=qaD (xs.take k);rw[List.length_take] at this;omega
   go_wp2_with fail
   rw[←hui]
   refine(qeH A' c' (qav (xs.take k)) (uN x) wr HO.out.row hl (qic x)).mono ?_
   rintro e w1 ⟨A1,c1,rfl,hc1,hm1,ho1,hx1⟩
   have HO1:=hJ (ho1.base (B':=w.heap.size) HX.out.size)
   have X1:=hJ (HX.out.trans hx1)
   have hsn:=qlK HE.out
   rw[←hsn] at HO1 hc1⊢
   clear ho1 hx1 hsn hui;go_wp2;go_roundw
   case rel=>exact⟨k+1,A1,c1,by omega,by go_num,rfl,hc1,hm1,HO1,X1⟩
   case measure=>simp[intOf];omega
  ·have hkl:xs.take k=xs:=List.take_of_length_le (by omega)
   rw[hkl] at HO h1
   go_wp2;go_ret
   exact⟨A',c',by rw[hkl];rfl,h1,h2,HO.out,HX.out⟩
theorem qh9(A:Option Addr)(c:Nat)(bs:List UInt8)(n:Int)(w:World)(h:Row w A (qad bs))(hl:bs.length≤1000000)(hn:Hid (I64 n)) :
  Calls Tryz.prog 47 #[.slice A bs.length c,Jq n] w (GivesB w (bs++qaS (zig n))):=by
 have H:=hJ h;clear h
 go_enter Tryz.func47,Tryz.ntmps47
 go_wp2_with fail
 refine(qcS A c bs 10 w H.out (by omega) (by omega)).mono ?_
 rintro e w1 ⟨A1,c1,rfl,hc1,hm1,ho1,hx1⟩
 go_wp2_with fail
 refine(qhX w.heap.size _ bs n w1 ho1 hx1.size (by omega) hn).mono ?_
 rintro e w2 ⟨v2,rfl,ho2,hg2,hs2⟩
 go_wp2;go_ret
 exact qc0 ho2 (hg2.below hx1 hx1.size (fun k hk=>(ho1.lt k hk).1))
theorem qqc(n:Nat)(w:World)(hn:n≤1000000000) :
  Calls Tryz.prog 176 #[Zq,Jq (n:Int)] w fun e w'=>∃v,e=.returned v∧Own w' w.heap.size 5 v []∧Ext w w':=by
 by_cases h0:n=0
 ·subst h0
  go_enter Tryz.func176,Tryz.ntmps176
  go_wp2;go_ret
  exact⟨_,rfl,Own.nil _ _ _,Ext.refl _⟩
 ·obtain⟨i0,hi,hz0,hz1,hz2⟩:=info_parts qcx
  have hap:=Go.Lib.run_append_grow_zeros (P:=Tryz.prog) w 29 3 29 5 i0 (.int .u8 0) .i64 .i64 Tryz.underlying29 Tryz.underlying3 hi hz0 none 0 0 [] (by simp[Builtin.firstCells]) n (by omega) (by rw[hz1];decide) (by omega) (by omega) (by rw[hz2];omega) (by rw[hz2];have:=nextslicecap_le (need:=0+n) (old:=0) (by omega);omega)
  have hge:=grownCap_ge w n 0 5
  have hlm:=grownCap_le_maxLen w n 0 5 (by unfold maxLen;omega)
  simp only[Nat.zero_add] at hap
  have E1:Ext w (w.drew.alloc (.cells (([]:List Value).toArray++Builtin.zeroCells (Value.int .u8 0).cells n++Builtin.zeroCells (Value.int .u8 0).cells (grownCap w n 0 5 - n)) 5)):=Ext.drew1.trans (Ext.new _ _)
  have hsl:∀W,(Instr.slice 29 (.slice (some (Pw w 0)) n (grownCap w n 0 5)) none (some (Jq 0)) none).run Tryz.prog W=.ok (.slice (some (Pw w 0)) 0 (grownCap w n 0 5)) W:=fun W=>qmY.slice_h _ _ _ 0 0 rfl (by omega) W
  have HO:Own (w.drew.alloc (.cells (([]:List Value).toArray++Builtin.zeroCells (Value.int .u8 0).cells n++Builtin.zeroCells (Value.int .u8 0).cells (grownCap w n 0 5 - n)) 5)) w.heap.size 5 (.slice (some (Pw w 0)) 0 (grownCap w n 0 5)) []:=by
   refine⟨rfl,.inr ⟨w.heap.size,_,_,rfl,Nat.le_refl _,(by show (w.heap.push _)[w.heap.size]?=_;simp;rfl),Nat.zero_le _,hlm,?_,by simp⟩⟩
   simp only[Array.size_append,size_zeroCells]
   have:(Value.int IntKind.u8 0).cells.size=1:=rfl
   rw[this];simp;omega
  have HO':=hJ HO;have E1':=hJ E1;have HAP:=hJ hap
  clear HO E1 hap;generalize (w.drew.alloc (.cells (([]:List Value).toArray++Builtin.zeroCells (Value.int .u8 0).cells n++Builtin.zeroCells (Value.int .u8 0).cells (grownCap w n 0 5 - n)) 5))=w1 at *
  generalize grownCap w n 0 5=cap at *
  go_enter Tryz.func176,Tryz.ntmps176
  go_wp2_with (first
   | (at_builtin;refine qiD w rfl (.tmp 20) (.tmp 21) 29 3 rfl _ _ _ _ (by rfl) (by rfl) HAP.out ?_))
  go_ret
  exact⟨_,rfl,HO'.out,E1'.out⟩
structure BrM where
 A:Option Addr
 c:Nat
 bs:List UInt8
def brE:Elem BrM where
 f v:=[.slice v.A v.bs.length v.c]
 k:=1
 ty:=29
 st:=162
 z:=.slice none 0 0
 bytes:=24
 inn v:=[(v.A,qad v.bs)]
 ok v:=v.bs.length≤v.c∧v.c≤maxLen
 len _:=rfl
 one a:=by intro u hu;simp only[List.mem_cons,List.not_mem_nil,or_false] at hu;rcases hu with rfl;rfl
 pos:=by decide
 und:=Tryz.underlying162
 info:=by kernel_rfl
 zk:=rfl
 small:=by decide
def flat(l:List BrM):List UInt8:=l.flatMap fun b=>b.bs
theorem qi2{l:List BrM}{k:Nat}{x:BrM}(h:l[k]?=some x):flat (l.take (k+1))=flat (l.take k)++x.bs:=by
 unfold flat;rw[List.take_add_one,h];simp
theorem qom(l:List BrM)(k:Nat):(flat (l.take k)).length≤(flat l).length:=by
 have:flat l=flat (l.take k)++flat (l.drop k):=by unfold flat;rw[←List.flatMap_append,List.take_append_drop]
 rw[this,List.length_append];omega
theorem qte{w:World}{A:Option Addr}{l:List BrM}{k:Nat}(h:brE.Box w A l)(hk:k<l.length) :
  ∃b off X cx bs,A=some (Pq b off)∧b<w.heap.size∧w.cell? (Pq b (off+k))=some (.slice X bs.length cx)∧Hid (Row w X (qad bs))∧bs.length≤cx∧cx≤maxLen∧Hid (l[k]?=some ⟨X,cx,bs⟩):=by
 obtain⟨b,off,⟨X,cx,bs⟩,h1,h2,H3,H4,H5⟩:=h.at_ hk
 refine⟨b,off,X,cx,bs,h1,h2,?_,hJ (H4.out.2 (X,qad bs) (by simp[brE])),H4.out.1.1,H4.out.1.2,H5⟩
 have:=H3.out 0 (.slice X bs.length cx) rfl
 simpa[brE] using this
theorem qmv(A:Option Addr)(c:Nat)(l:List BrM)(w:World)(h:brE.Box w A l)(hn:l.length≤1000000)(hs:(flat l).length≤100000000) :
  Calls Tryz.prog 125 #[.slice A l.length c] w (GivesB w (flat l)):=by
 have H:=hJ h;clear h
 go_enter Tryz.func125,Tryz.ntmps125
 go_wp2;go_loopw [3,11] (fun v i wr=>∃(k:Nat),k≤l.length∧i=Jq k∧v=Jq ((flat (l.take k)).length:Int)∧w=wr) (fun _ i _=>l.length - (intOf i).toNat)
 case atStart=>exact⟨0,Nat.zero_le _,rfl,by first|rfl|trivial,by first|rfl|trivial⟩
 case round=>
  obtain⟨k,hk,rfl,rfl,rfl⟩:=hrel
  by_cases hlt:k<l.length
  ·obtain⟨b,off,X,cx,bs,rfl,hb,c0,HR,hc1,hc2,HE⟩:=qte H.out hlt
   have hsn:flat (l.take (k+1))=flat (l.take k)++bs:=qi2 HE.out
   have hfl:=qom l (k+1)
   rw[hsn,List.length_append] at hfl
   have hw1:IntKind.i64.wrap (((flat (l.take k)).length:Int)+(bs.length:Int))=((flat (l.take k)).length:Int)+(bs.length:Int):=IntWalk.i64_in _ (by omega)
   have hd:decide (((flat (l.take k)).length:Int)+(bs.length:Int)<0)=false:=by simp;omega
   go_wp2;go_roundw
   case rel=>exact⟨k+1,by omega,by go_num,by rw[hsn,List.length_append];simp,by first|rfl|trivial⟩
   case measure=>simp[intOf];omega
  ·have hkl:l.take k=l:=List.take_of_length_le (by omega)
   rw[hkl]
   go_wp2_with fail
   refine(qqc (flat l).length w (by omega)).mono ?_
   rintro e w1 ⟨v1,rfl,ho1,hx1⟩
   go_wp2;obtain⟨wo,hwo⟩:∃x,x=w1:=⟨w1,rfl⟩
   go_loopw [6,27] (fun v i wr=>∃(k:Nat),k≤l.length∧i=Jq k∧Hid (Own wr w.heap.size 5 v (qad (flat (l.take k))))∧Hid (Ext w wr)) (fun _ i _=>l.length - (intOf i).toNat)
   case atStart=>exact⟨0,Nat.zero_le _,rfl,hJ ho1,hJ hx1⟩
   case round=>
    obtain⟨k2,hk2,rfl,HO,HX⟩:=hrel
    by_cases hlt2:k2<l.length
    ·obtain⟨b,off,X,cx,bs,rfl,hb,c0,HR,hc1,hc2,HE⟩:=qte (H.out.ext HX.out) hlt2
     have hsn:flat (l.take (k2+1))=flat (l.take k2)++bs:=qi2 HE.out
     have hfl:=qom l (k2+1)
     rw[hsn,List.length_append] at hfl
     have HSN:=hJ hsn
     clear hsn;go_wp2_with (first
      | (at_builtin;refine qdn rfl (.tmp 31) (.tmp 32) _ 5 _ 1 rfl Tryz.underlying29 qcx rfl (by decide) wr w.heap.size _ _ (by rfl) X bs.length cx (qad bs) (by rfl) (by rw[qau]) HR.out (qdI _) HO.out (by rw[qau];omega) HX.out.size ?_;intro v3 w3 ho3 hg3 hs3))
     go_roundw
     case rel=>exact⟨k2+1,by omega,by go_num,hJ (by rw[HSN.out,qbJ];exact ho3),hJ (hg3.below HX.out HX.out.size (fun k hk=>(HO.out.lt k hk).1))⟩
     case measure=>simp[intOf];omega
    ·have hkl2:l.take k2=l:=List.take_of_length_le (by omega)
     rw[hkl2] at HO
     go_wp2;go_ret
     exact qc0 HO.out HX.out
theorem qby{α:Type}{ops:Array Oper}{o:Oper}{a:Act}{K:Act→World→Prop}{Q:Exit→Act→World→Prop}{X:Prop}(E:Elem α)(hgd:o.guard=none)(s x:Operand)
  (ho:o.op=.call {callee:=.builtin .append,args:=#[s,x],argTypes:=#[E.st,E.st]})
  (W:World) (B:Nat) (v:Value) (l:List α) (hs:a.eval s=v) (ad:Addr) (m c:Nat) (news:List α) (hx:a.eval x=.slice (some ad) m c) (hm:m=news.length) (hr:Row W (some ad) (E.cells news)) (hp:0<m)
  (hob:E.OB W B v l) (hgood:∀q∈news,E.ok q∧∀r∈E.inn q,Row W r.1 r.2∧Apt v r) (hl:l.length+m≤20000000) (hB:B≤W.heap.size)
  (h:∀v' w',E.OB w' B v' (l++news)→Grew W w' v→Stems W v v'→K (a.put o.dst v') w'):if Region.wanted o (yielded ops a.tmps)=true then Oper.wp Tryz.prog o a W K Q else X:=by
 have hw:Region.wanted o (yielded ops a.tmps)=true:=by simp[Region.wanted,hgd]
 rw[if_pos hw]
 exact qgP E s x ho W B v l hs ad m c news hx hm hr hp hob hgood hl hB h
theorem qiS{a b:World}{v:Value}(g:Grew a b v){p i:Nat}(hp:p<a.heap.size)(hv:∀k,v.ownBlock=some k→k≠p):b.cell? (Pq p i)=a.cell? (Pq p i):=
 World.cell?_of_block (a:=⟨p,i,none⟩) (g.block p hp (fun e=>hv p e.symm rfl))
theorem qhg(x y z:Int)(w:World):Row (w.alloc (.cells #[Jq x,Jq y,Jq z] 3)) (some (Pq w.heap.size 0)) (qam [x,y,z]):=by
 intro _
 refine⟨w.heap.size,0,rfl,by simp,fun j q hj=>?_⟩
 simp only[qam,List.map_cons,List.map_nil] at hj
 match j,hj with
 | 0,hj=>simpa using hj
 | 1,hj=>simpa using hj
 | 2,hj=>simpa using hj
theorem qff(x:Int)(w:World):Row (w.alloc (.cells #[Jq x] 3)) (some (Pq w.heap.size 0)) (qam [x]):=by
 intro _
 refine⟨w.heap.size,0,rfl,by simp,fun j q hj=>?_⟩
 simp only[qam,List.map_cons,List.map_nil] at hj
 match j,hj with
 | 0,hj=>simpa using hj
theorem qja(x y:Int)(w:World):Row (w.alloc (.cells #[Jq x,Jq y] 3)) (some (Pq w.heap.size 0)) (qam [x,y]):=by
 intro _
 refine⟨w.heap.size,0,rfl,by simp,fun j q hj=>?_⟩
 simp only[qam,List.map_cons,List.map_nil] at hj
 match j,hj with
 | 0,hj=>simpa using hj
 | 1,hj=>simpa using hj
theorem qsy{w:World}{n m off:Nat}{xs:List Value}(h:Row w (some (Pq m off)) xs)(hn:n=m):Row w.drew (some (Pq n off)) xs:=by subst hn;exact h.ext Ext.drew1
theorem qrQ(a b:BrM)(w:World):Row (w.alloc (.cells #[.slice a.A a.bs.length a.c,.slice b.A b.bs.length b.c] 29)) (some (Pq w.heap.size 0)) (brE.cells [a,b]):=by
 intro _
 refine⟨w.heap.size,0,rfl,by simp,fun j q hj=>?_⟩
 simp only[Elem.cells,brE,List.flatMap_cons,List.flatMap_nil,List.append_nil,List.cons_append,List.nil_append] at hj
 match j,hj with
 | 0,hj=>simpa using hj
 | 1,hj=>simpa using hj
theorem qkS{w:World}{v:Value}{A1 A2:Option Addr}{c1 c2:Nat}{b1 b2:List UInt8}(h1:Row w A1 (qad b1))(h2:Row w A2 (qad b2))(k1:b1.length≤c1)(k1':c1≤maxLen)(k2:b2.length≤c2)(k2':c2≤maxLen)(a1:Apt v (A1,qad b1))(a2:Apt v (A2,qad b2)) :
  ∀q∈[(⟨A1,c1,b1⟩:BrM),⟨A2,c2,b2⟩],brE.ok q∧∀r∈brE.inn q,Row w r.1 r.2∧Apt v r:=by
 intro q hq
 simp only[List.mem_cons,List.not_mem_nil,or_false] at hq
 rcases hq with rfl|rfl
 ·exact⟨⟨k1,k1'⟩,fun r hr=>by simp only[brE,List.mem_cons,List.not_mem_nil,or_false] at hr;subst hr;exact⟨h1,a1⟩⟩
 ·exact⟨⟨k2,k2'⟩,fun r hr=>by simp only[brE,List.mem_cons,List.not_mem_nil,or_false] at hr;subst hr;exact⟨h2,a2⟩⟩
theorem Elem.own_new{α:Type}(E:Elem α)(w:World)(l:List α):E.Own (w.alloc (.cells (E.cells l).toArray E.ty)) w.heap.size (.slice (some (Pq w.heap.size 0)) l.length l.length) l∨maxLen<l.length:=by
 rcases Nat.lt_or_ge maxLen l.length with h|h
 ·exact .inr h
 ·exact .inl ⟨by rw[E.cells_len],.inr ⟨w.heap.size,l.length,(E.cells l).toArray,rfl,Nat.le_refl _,(by show (w.heap.push _)[w.heap.size]?=_;simp),Nat.le_refl _,h,by simp[E.cells_len],by rw[List.take_of_length_le (by rw[E.cells_len];exact Nat.le_refl _)]⟩⟩
theorem qpQ(a b:List BrM):flat (a++b)=flat a++flat b:=by simp[flat]
theorem qiU{l:List Ent}{k:Nat}{e:Ent}(h:l[k]?=some e):(l.take (k+1)).flatMap qgQ=(l.take k).flatMap qgQ++qgQ e:=by rw[List.take_add_one,h];simp
theorem qkM{e:Ent}{m:Nat}(h:e.p.length≤m)(hm:m≤100000000):(qgQ e).length≤m+44:=by
 have h1:=qaD [e.v,e.o,e.q]
 have h2:=qat (v:=e.p.length) (by unfold U64;omega)
 unfold qgQ qd5
 simp only[List.length_append,List.length_cons,List.length_nil] at *
 omega
theorem qfg{l:List Ent}(h:∀e∈l,e.p.length≤6000):(l.flatMap qgQ).length≤6044*l.length:=by
 induction l with
 | nil=>simp
 | cons e l ih=>
  have h1:=qkM (h e (by simp)) (by omega)
  have h2:=ih (fun e he=>h e (by simp[he]))
  simp only[List.flatMap_cons,List.length_append,List.length_cons]
  omega
set_option maxHeartbeats 1000000 in
theorem qcf(A Al:Option Addr)(c cl:Nat)(body:List UInt8)(log:List Ent)(w:World)(hb:Row w A (qad body))(hbl:body.length≤1000)(hbc:body.length≤c∧c≤maxLen)(hr:Row w Al (qaz.cells log))(hn:log.length≤2000)(hp:∀e∈log,e.p.length≤6000) :
  Calls Tryz.prog 52 #[.slice A body.length c,.slice Al log.length cl] w (GivesB w (body++qbd log)):=by
 have H:=hJ hb;have HR:=hJ hr;have HP:=hJ hp
 obtain⟨hbc1,hbc2⟩:=hbc
 clear hb hr hp;have E0:Hid (Ext w (w.alloc (.cells #[Jq (log.length:Int)] 3))):=hJ (Ext.new _ _)
 go_enter Tryz.func52,Tryz.ntmps52
 go_wp2_with fail
 refine(qbP _ 1 [(log.length:Int)] _ (qff _ _) (by simp)).mono ?_
 rintro e w1 ⟨A1,c1,rfl,h11,h12,ho1,hx1⟩
 have X1:=hJ (E0.out.trans hx1)
 have HR1:=hJ ho1.row
 clear ho1 hx1;have HB2:Hid (brE.OB (w1.alloc (.cells #[.slice A body.length c,.slice A1 (qav [(log.length:Int)]).length c1] 29)) w.heap.size (.slice (some (Pw w1 0)) 2 2) [⟨A,c,body⟩,⟨A1,c1,qav [(log.length:Int)]⟩]):=hJ ⟨((brE.own_new w1 [⟨A,c,body⟩,⟨A1,c1,qav [(log.length:Int)]⟩]).resolve_right (by unfold maxLen;simp)).base X1.out.size,qkS (H.out.ext (X1.out.trans (Ext.new _ _))) (HR1.out.ext (Ext.new _ _)) hbc1 hbc2 h11 h12 (fun p q hne hp hq=>by cases hq;have:=qf7 (H.out.ext X1.out) hne hp;simp at this⊢;omega) (fun p q hne hp hq=>by cases hq;have:=qf7 HR1.out hne hp;simp at this⊢;omega)⟩
 have X2:Hid (Ext w (w1.alloc (.cells #[.slice A body.length c,.slice A1 (qav [(log.length:Int)]).length c1] 29))):=hJ (X1.out.trans (Ext.new _ _))
 go_wp2;go_loopw [5,16] (fun v i wr=>∃(k:Nat) (l:List BrM) (v':Value),v'=v∧k≤log.length∧i=Jq k∧Hid (flat l=body++qav [(log.length:Int)]++(log.take k).flatMap qgQ)∧Hid (l.length=2+2*k)∧Hid (brE.OB wr w.heap.size v l)∧Hid (Ext w wr)) (fun _ i _=>log.length - (intOf i).toNat)
 case atStart=>exact⟨0,_,_,rfl,Nat.zero_le _,rfl,hJ (by simp[flat]),hJ rfl,HB2,X2⟩
 case round=>
  obtain⟨k,l,v,rfl,hk,rfl,HF,HLL,HO,HX⟩:=hrel
  by_cases hlt:k<log.length
  ·obtain⟨b,off,e,rfl,hb,c0,c1',c2',c3',HE⟩:=qbG (HR.out.ext HX.out) hlt
   have hep:e.p.length≤100000000:=by have:=HP.out e (List.mem_of_getElem? HE.out);omega
   go_wp2;refine qac 15 (fun w'=>w'.cell? (Pw wr 0)=some (Jq e.v)∧w'.cell? (Pw wr 1)=some (Jq e.o)∧w'.cell? (Pw wr 2)=some (Jq e.q)∧w'.cell? (Pw wr 3)=some (.string (qax e.p))) (by kernel_rfl) ⟨by simp,by simp,by simp,by simp⟩ (fun hHeld=>?_)
   refine E_t 0 20 ?_;refine E_t 1 21 ?_;refine E_t 2 22 ?_;refine E_t 3 23 ?_;refine E_t 4 24 ?_;refine E_t 5 25 ?_;refine E_t 6 26 ?_;refine E_t 9 29 ?_;refine E_t 10 30 ?_;refine E_r 7 (some 27) fun K hK=>?_
   go_simp;clear hHeld;refine hK.out _ _ ⟨by simp,by simp,by simp,by simp⟩ (fun hHeld=>?_)
   clear hK K;try simp only[Act.put,aP1,aP2,aP3]
   refine E_r 8 (some 28) fun K hK=>?_
   go_simp;go_at_call 48;refine(qbP _ 3 [e.v,e.o,e.q] _ (by exact qsy (qhg _ _ _ _) (by simp)) (by simp)).mono ?_
   rintro e1 w1 ⟨A1,c1,rfl,h11,h12,ho1,hx1⟩
   have X1:Hid (Ext (wr.alloc (.cells #[Jq e.v,Jq e.o,Jq e.q,.string (qax e.p)] 66)) w1):=hJ (((Ext.new _ _).trans Ext.drew1).trans hx1)
   have HR1:Hid (Row w1 A1 (qad (qav [e.v,e.o,e.q]))):=hJ ho1.row
   have HN1:Hid (∀p,qad (qav [e.v,e.o,e.q])≠[]→A1=some p→wr.heap.size≤p.block):=hJ (fun p _ hp=>by subst hp;have:=(ho1.lt p.block rfl).1;simp at this;omega)
   clear ho1 hx1;have r0_w1:w1.cell? (Pw wr 0)=some (Jq e.v):=by rw[X1.out.cell_new];rfl
   have r1_w1:w1.cell? (Pw wr 1)=some (Jq e.o):=by rw[X1.out.cell_new];rfl
   have r2_w1:w1.cell? (Pw wr 2)=some (Jq e.q):=by rw[X1.out.cell_new];rfl
   have r3_w1:w1.cell? (Pw wr 3)=some (.string (qax e.p)):=by rw[X1.out.cell_new];rfl
   clear hHeld;refine hK.out _ _ ⟨r0_w1,r1_w1,r2_w1,r3_w1⟩ (fun hHeld=>?_)
   clear hK K;try simp only[Act.put,aP1,aP2,aP3]
   refine E_r 11 (some 31) fun K hK=>?_
   go_simp;go_at_call 120;refine(qd3 none 0 [] e.p _ (Row.nil _ _) (by simp) hep).mono ?_
   rintro e2 w2 ⟨A2,c2,rfl,h21,h22,ho2,hx2⟩
   have X2:Hid (Ext (wr.alloc (.cells #[Jq e.v,Jq e.o,Jq e.q,.string (qax e.p)] 66)) w2):=hJ (X1.out.trans hx2)
   have HR12:Hid (Row w2 A1 (qad (qav [e.v,e.o,e.q]))):=hJ (HR1.out.ext hx2)
   have HR2:Hid (Row w2 A2 (qad (qd5 e.p))):=hJ ho2.row
   have HN2:Hid (∀p,qad (qd5 e.p)≠[]→A2=some p→wr.heap.size≤p.block):=hJ (fun p _ hp=>by subst hp;have:=(ho2.lt p.block rfl).1;have:=X1.out.size;simp at this;omega)
   clear ho2 hx2;have r0_w2:w2.cell? (Pw wr 0)=some (Jq e.v):=by rw[X2.out.cell_new];rfl
   have r1_w2:w2.cell? (Pw wr 1)=some (Jq e.o):=by rw[X2.out.cell_new];rfl
   have r2_w2:w2.cell? (Pw wr 2)=some (Jq e.q):=by rw[X2.out.cell_new];rfl
   have r3_w2:w2.cell? (Pw wr 3)=some (.string (qax e.p)):=by rw[X2.out.cell_new];rfl
   clear hHeld;refine hK.out _ _ ⟨r0_w2,r1_w2,r2_w2,r3_w2⟩ (fun hHeld=>?_)
   clear hK K;try simp only[Act.put,aP1,aP2,aP3]
   refine E_r 12 (some 32) fun K hK=>?_
   go_simp;have X3:Hid (Ext (wr.alloc (.cells #[Jq e.v,Jq e.o,Jq e.q,.string (qax e.p)] 66)) (w2.alloc (.cells #[.slice A1 (qav [e.v,e.o,e.q]).length c1,.slice A2 (qd5 e.p).length c2] 29))):=hJ (X2.out.trans (Ext.new _ _))
   have HRB:Hid (Row (w2.alloc (.cells #[.slice A1 (qav [e.v,e.o,e.q]).length c1,.slice A2 (qd5 e.p).length c2] 29)) (some (Pw w2 0)) (brE.cells [⟨A1,c1,qav [e.v,e.o,e.q]⟩,⟨A2,c2,qd5 e.p⟩])):=hJ (qrQ _ _ _)
   have HO3:=hJ (HO.out.ext ((Ext.new wr _).trans X3.out))
   have HG3:Hid (∀q∈[(⟨A1,c1,qav [e.v,e.o,e.q]⟩:BrM),⟨A2,c2,qd5 e.p⟩],brE.ok q∧∀r∈brE.inn q,Row (w2.alloc (.cells #[.slice A1 (qav [e.v,e.o,e.q]).length c1,.slice A2 (qd5 e.p).length c2] 29)) r.1 r.2∧Apt v r):=hJ (qkS (HR12.out.ext (Ext.new _ _)) (HR2.out.ext (Ext.new _ _)) h11 h12 h21 h22 (qgN (E:=brE) (l:=l) HN1.out HO.out.1) (qgN (E:=brE) (l:=l) HN2.out HO.out.1))
   generalize w2.alloc (.cells #[.slice A1 (qav [e.v,e.o,e.q]).length c1,.slice A2 (qd5 e.p).length c2] 29)=w3 at *
   have r0_w3:w3.cell? (Pw wr 0)=some (Jq e.v):=by rw[X3.out.cell_new];rfl
   have r1_w3:w3.cell? (Pw wr 1)=some (Jq e.o):=by rw[X3.out.cell_new];rfl
   have r2_w3:w3.cell? (Pw wr 2)=some (Jq e.q):=by rw[X3.out.cell_new];rfl
   have r3_w3:w3.cell? (Pw wr 3)=some (.string (qax e.p)):=by rw[X3.out.cell_new];rfl
   clear hHeld;refine hK.out _ _ ⟨r0_w3,r1_w3,r2_w3,r3_w3⟩ (fun hHeld=>?_)
   clear hK K;try simp only[Act.put,aP1,aP2,aP3]
   refine E_r 13 (some 33) fun K hK=>?_
   refine qby brE rfl (.tmp 20) (.tmp 32) rfl w3 w.heap.size v l (by rfl) _ 2 2 [⟨A1,c1,qav [e.v,e.o,e.q]⟩,⟨A2,c2,qd5 e.p⟩] (by rfl) rfl HRB.out (by decide) HO3.out HG3.out (by have:=HLL.out;omega) (by have:=X3.out.size;have:=HX.out.size;simp at *;omega) ?_
   intro v4 w4 ho4 hg4 hs4
   have HO4:=hJ ho4
   have X4:Hid (Ext w w4):=hJ (hg4.below (HX.out.trans ((Ext.new wr _).trans X3.out)) (by have:=X3.out.size;have:=HX.out.size;simp at *;omega) (fun k hk=>(HO.out.1.lt k hk).1))
   have Y4:Hid (∀i,w4.cell? (Pw wr i)=w3.cell? (Pw wr i)):=hJ (fun i=>qiS hg4 (by have:=X3.out.size;simp at this;omega) (fun k hk=>by have:=(HO.out.1.lt k hk).2;omega))
   have r0_w4:w4.cell? (Pw wr 0)=some (Jq e.v):=(Y4.out 0).trans r0_w3
   have r1_w4:w4.cell? (Pw wr 1)=some (Jq e.o):=(Y4.out 1).trans r1_w3
   have r2_w4:w4.cell? (Pw wr 2)=some (Jq e.q):=(Y4.out 2).trans r2_w3
   have r3_w4:w4.cell? (Pw wr 3)=some (.string (qax e.p)):=(Y4.out 3).trans r3_w3
   clear ho4 hg4 hs4;clear hHeld;refine hK.out _ _ ⟨r0_w4,r1_w4,r2_w4,r3_w4⟩ (fun hHeld=>?_)
   clear hK K;try simp only[Act.put,aP1,aP2,aP3]
   refine E_t 14 5 ?_;refine qaE (by kernel_rfl) (by rfl) ?_
   go_wp2;go_roundw
   case rel=>exact⟨k+1,_,_,rfl,by omega,by go_num,hJ (by rw[qpQ,HF.out,qiU HE.out];simp[flat,qgQ]),hJ (by have:=HLL.out;simp;omega),HO4,X4⟩
   case measure=>simp[intOf];omega
  ·have hkl:log.take k=log:=List.take_of_length_le (by omega)
   rw[hkl] at HF
   have hfl:Hid ((flat l).length≤100000000):=hJ (by
    rw[HF.out]
    have h1:=qaD [(log.length:Int)]
    have h2:=qfg HP.out
    simp only[List.length_append,List.length_cons,List.length_nil] at *
    omega)
   obtain⟨A2,c2,rfl,h21,h22,HBX⟩:∃A c',v=.slice A l.length c'∧l.length≤c'∧c'≤maxLen∧Hid (brE.Box wr A l):=by
    obtain⟨A,c',h1,h2,h3,h4⟩:=HO.out.slice
    exact⟨A,c',h1,h2,h3,hJ h4⟩
   go_wp2_with fail
   refine(qmv A2 c2 l wr HBX.out (by have:=HLL.out;omega) hfl.out).mono ?_
   rintro e w2 ⟨A3,c3,rfl,h31,h32,ho3,hx3⟩
   go_wp2;go_ret
   have hf:flat l=body++qbd log:=by rw[HF.out];unfold qbd;rw[List.append_assoc]
   rw[←hf]
   exact⟨A3,c3,rfl,h31,h32,ho3.base HX.out.size,HX.out.trans hx3⟩
theorem qgy(b:BM)(st:Int)(Ap:Option Addr)(seq:Int)(j:Nat)(p:List UInt8)(w:World)(hAp:b.Ap=Ap)(h:b.Reads w)(hn:b.pend.length≤1000000000)(hs:0≤b.sent∧b.sent≤1099511627776)(hq:0≤seq∧seq≤1099511627776)
  (hj:(b.pend.length:Int) - 1 - (b.sent - seq)=(j:Int)) (hp:b.pend[j]?=some p) :
  Calls Tryz.prog 112 #[.agg #[Jq b.self,.slice b.Av b.vs.length b.cv,Jq b.base,.slice b.Al b.log.length b.cl,Jq st,Jq b.sent,.slice Ap b.pend.length b.cp,.slice b.Am b.marks.length b.cm,.slice b.Af b.fls.length b.cf],Jq seq] w fun e w'=>e=.returned (.string (qax p))∧Ext w w':=by
 have H0:=hJ (Ext.new w (.cells (b.cells3 st Ap) 28))
 have hjl:j<b.pend.length:=(List.getElem?_eq_some_iff.1 hp).1
 obtain⟨bb,off,p',rfl,hb,c0,HP⟩:=qnN (show Row w Ap (qda.cells b.pend) by rw[←hAp];exact h.pend) hjl
 have hpp:p'=p:=by have:=HP.out.symm.trans hp;exact Option.some.inj this
 subst hpp
 have hw1:IntKind.i64.wrap ((b.pend.length:Int) - 1)=(b.pend.length:Int) - 1:=IntWalk.i64_in _ (by omega)
 have hw2:IntKind.i64.wrap (b.sent - seq)=b.sent - seq:=IntWalk.i64_in _ (by omega)
 have hw3:IntKind.i64.wrap ((b.pend.length:Int) - 1 - (b.sent - seq))=(j:Int):=by rw[IntWalk.i64_in _ (by omega)];exact hj
 have k1:(0:Int)≤(j:Int):=by omega
 have k2:(j:Int)<(b.pend.length:Int):=by omega
 clear hj hp hs hq hAp h HP;unfold BM.cells3 at H0
 go_enter Tryz.func112,Tryz.ntmps112
 go_wp2;go_ret
 exact⟨rfl,H0.out⟩
theorem qjb:∀(l:List FlM) (k:Nat) (f:FlM) (A:Option Addr) (c:Nat),l[k]?=some f→flE.cells (l.set k ⟨f.m,f.b,A,c,f.log⟩)=(flE.cells l).set (k*3+2) (.slice A f.log.length c):=by
 intro l
 induction l with
 | nil=>intro k f A c h;simp at h
 | cons x l ih=>
  intro k f A c h
  match k,h with
  | 0,h=>simp only[List.getElem?_cons_zero,Option.some.injEq] at h;subst h;rfl
  | k+1,h=>
   rw[List.set_cons_succ,flE.cells_cons,flE.cells_cons,ih k f A c (by simpa using h)]
   have e1:(k+1)*3+2=k*3+2+1+1+1:=by omega
   rw[e1]
   rfl
theorem qrn{w:World}{B g cap:Nat}{l:List FlM}{k:Nat}{f:FlM}{A:Option Addr}{c:Nat}(h:flE.OB w B (.slice (some (Pq g 0)) l.length cap) l)(hf:l[k]?=some f)(h1:f.log.length≤c)(h2:c≤maxLen)(hr:Row w A (qaz.cells f.log))(hap:Apt (.slice (some (Pq g 0)) l.length cap) (A,qaz.cells f.log)) :
  flE.OB (w.setCell (Pq g (k*3+2)) (.slice A f.log.length c)) B (.slice (some (Pq g 0)) l.length cap) (l.set k ⟨f.m,f.b,A,c,f.log⟩):=by
 have far:∀{r:Option Addr×List Value},Row w r.1 r.2→Apt (.slice (some (Pq g 0)) l.length cap) r→Row (w.setCell (Pq g (k*3+2)) (.slice A f.log.length c)) r.1 r.2:=fun h1 h2=>
  qd1 h1 (fun q hne hq=>Ne.symm (h2 q g hne hq rfl))
 refine⟨?_,fun q hq=>?_⟩
 ·obtain⟨h1,h2⟩:=h.1
  refine⟨by rw[flE.cells_len],.inr ?_⟩
  rcases h2 with ⟨h2,_⟩|⟨g',cap',cur,hv,h3,hh,h4,h5,h6,h7⟩
  ·cases h2
  ·simp only[Value.slice.injEq,Option.some.injEq,Addr.mk.injEq,and_true,true_and] at hv
   obtain⟨rfl,rfl⟩:=hv
   refine⟨g,cap,cur.setIfInBounds (k*3+2) (.slice A f.log.length c),by rw[List.length_set],h3,?_,by rw[List.length_set];exact h4,h5,by simpa using h6,?_⟩
   ·exact heap_setCell_same _ _ _ _ _ _ hh
   ·rw[List.length_set,Array.toList_setIfInBounds,List.take_set,h7,qjb l k f A c hf]
 ·rcases List.mem_or_eq_of_mem_set hq with hq|rfl
  ·exact⟨(h.2 q hq).1,fun r hr'=>⟨far ((h.2 q hq).2 r hr').1 ((h.2 q hq).2 r hr').2,((h.2 q hq).2 r hr').2⟩⟩
  ·refine⟨⟨h1,h2⟩,fun r hr'=>?_⟩
   simp only[flE,List.mem_cons,List.not_mem_nil,or_false] at hr'
   subst hr'
   exact⟨far (r:=(A,qaz.cells f.log)) hr hap,hap⟩
def flv(l:List FlM):List Fls:=l.map FlM.v
theorem qrP{l:List FlM}{k:Nat}{f:FlM}{A:Option Addr}{c:Nat}(h:l[k]?=some f):flv (l.set k ⟨f.m,f.b,A,c,f.log⟩)=flv l:=by
 unfold flv
 rw[List.map_set]
 apply List.ext_getElem?
 intro i
 by_cases hi:k=i
 ·subst hi
  rw[List.getElem?_set]
  obtain⟨hk,he⟩:=List.getElem?_eq_some_iff.1 h
  simp[hk,he,FlM.v]
 ·rw[List.getElem?_set];simp[hi]
def ColR(col:Nat→Nat)(k:Nat)(A:Option Addr)(xs:List Value):Prop:=∀p,xs≠[]→A=some p→col p.block=k
def ColV(col:Nat→Nat)(k:Nat)(v:Value):Prop:=∀q,v.ownBlock=some q→col q=k
def BIs(w:World)(p:Nat)(vals:Array Value)(t:TypeId):Prop:=w.heap[p]?=some (.cells vals t (0,0))
theorem BIs.lt{w:World}{p:Nat}{vals:Array Value}{t:TypeId}(h:BIs w p vals t):p<w.heap.size:=by
 rcases Nat.lt_or_ge p w.heap.size with hlt|hge
 ·exact hlt
 ·unfold BIs at h;rw[Array.getElem?_eq_none hge] at h;cases h
theorem BIs.cell{w:World}{p:Nat}{vals:Array Value}{t:TypeId}(h:BIs w p vals t)(i:Nat):w.cell? (Pq p i)=vals[i]?:=cell_of_row w p i vals t (0,0) h
theorem BIs.free{w:World}{p:Nat}{vals:Array Value}{t:TypeId}(h:BIs w p vals t)(i:Nat):w.frozen? (Pq p i)=false:=by
 unfold BIs at h;simp[World.frozen?,h]
theorem BIs.set{w:World}{p:Nat}{vals:Array Value}{t:TypeId}(h:BIs w p vals t)(i:Nat)(v:Value):BIs (w.setCell (Pq p i) v) p (vals.setIfInBounds i v) t:=heap_setCell_same _ _ _ _ _ _ h
theorem BIs.same{w w':World}{p:Nat}{vals:Array Value}{t:TypeId}(h:BIs w p vals t)(e:w'.heap[p]?=w.heap[p]?):BIs w' p vals t:=by unfold BIs;rw[e];exact h
theorem BIs.ext{w w':World}{p:Nat}{vals:Array Value}{t:TypeId}(h:BIs w p vals t)(e:Ext w w'):BIs w' p vals t:=h.same (e.block p h.lt)
theorem BIs.new(w:World)(vals:Array Value)(t:TypeId):BIs (w.alloc (.cells vals t)) w.heap.size vals t:=by
 show (w.heap.push _)[w.heap.size]?=_;simp
structure Off(col:Nat→Nat)(c:Nat)(w w':World):Prop where
 size:w.heap.size≤w'.heap.size
 block:∀k,k<w.heap.size→col k≠c→w'.heap[k]?=w.heap[k]?
theorem Off.ext{col:Nat→Nat}(c:Nat){w w':World}(e:Ext w w'):Off col c w w':=⟨e.size,fun k hk _=>e.block k hk⟩
theorem Off.row{col:Nat→Nat}{c k:Nat}{w w':World}{A:Option Addr}{xs:List Value}(o:Off col c w w')(h:Row w A xs)(hc:ColR col k A xs)(hk:k≠c):Row w' A xs:=by
 intro hx
 obtain⟨b,off,h1,h2,h3⟩:=h hx
 refine⟨b,off,h1,Nat.lt_of_lt_of_le h2 o.size,fun j u hj=>?_⟩
 have hb:w'.heap[b]?=w.heap[b]?:=o.block b h2 (by rw[hc _ hx h1];exact hk)
 exact(World.cell?_of_block (a:=⟨b,off+j,none⟩) hb).trans (h3 j u hj)
theorem Off.own{α:Type}{E:Elem α}{col:Nat→Nat}{c k B:Nat}{w w':World}{v:Value}{l:List α}(o:Off col c w w')(h:E.Own w B v l)(hc:ColV col k v)(hk:k≠c):E.Own w' B v l:=
 h.keep fun q hq hlt=>o.block q hlt (by rw[hc q hq];exact hk)
theorem Off.box{α:Type}{E:Elem α}{col:Nat→Nat}{c:Nat}{w w':World}{A:Option Addr}{l:List α}(o:Off col c w w')(h:E.Box w A l)(h1:ColR col 0 A (E.cells l))(h2:∀a∈l,∀r∈E.inn a,ColR col 0 r.1 r.2)(hk:0≠c):E.Box w' A l:=
 ⟨o.row h.1 h1 hk,fun a ha=>⟨(h.2 a ha).1,fun r hr=>o.row ((h.2 a ha).2 r hr) (h2 a ha r hr) hk⟩⟩
def qai(col:Nat→Nat)(n c:Nat):Nat→Nat:=fun k=>if k<n then col k else c
theorem qah{col:Nat→Nat}{n c k:Nat}(h:k<n):qai col n c k=col k:=by unfold qai;rw[if_pos h]
theorem qbu{col:Nat→Nat}{n c k:Nat}(h:n≤k):qai col n c k=c:=by unfold qai;rw[if_neg (by omega)]
theorem ColR.old{col col':Nat→Nat}{k:Nat}{w:World}{A:Option Addr}{xs:List Value}(h:ColR col k A xs)(hr:Row w A xs)(hc:∀q,q<w.heap.size→col' q=col q):ColR col' k A xs:=
 fun p hne hp=>(hc _ (qf7 hr hne hp)).trans (h p hne hp)
theorem ColV.old{α:Type}{E:Elem α}{B:Nat}{l:List α}{col col':Nat→Nat}{k:Nat}{w:World}{v:Value}(h:ColV col k v)(hr:E.Own w B v l)(hc:∀q,q<w.heap.size→col' q=col q):ColV col' k v:=
 fun q hq=>(hc q (hr.lt q hq).2).trans (h q hq)
structure BM.Lies(w:World)(B:Nat)(col:Nat→Nat)(b:BM):Prop where
 vs:qas.Box w b.Av b.vs
 vc:ColR col 0 b.Av (qas.cells b.vs)
 vi:∀v∈b.vs,ColR col 0 v.A (qam v.xs)
 log:qaz.Own w B (.slice b.Al b.log.length b.cl) b.log
 lc:ColV col 2 (.slice b.Al b.log.length b.cl)
 pend:Row w b.Ap (qda.cells b.pend)
 pc:ColR col 6 b.Ap (qda.cells b.pend)
 marks:qao.Own w B (.slice b.Am b.marks.length b.cm) b.marks
 mc:ColV col 3 (.slice b.Am b.marks.length b.cm)
 fls:flE.Own w B (.slice b.Af b.fls.length b.cf) b.fls
 fc:ColV col 4 (.slice b.Af b.fls.length b.cf)
 fi:∀f∈b.fls,flE.ok f∧Row w f.A (qaz.cells f.log)∧ColR col 0 f.A (qaz.cells f.log)
theorem BM.Lies.reads{w:World}{B:Nat}{col:Nat→Nat}{b:BM}(h:b.Lies w B col):b.Reads w:=
 ⟨h.vs,h.log.row,h.pend,h.marks.row,h.fls.row,fun a ha=>⟨(h.fi a ha).1,fun r hr=>by
  simp only[flE,List.mem_cons,List.not_mem_nil,or_false] at hr
  subst hr
  exact(h.fi a ha).2.1⟩⟩
theorem BM.Lies.off{w w':World}{B c:Nat}{col col':Nat→Nat}{b:BM}(h:b.Lies w B col)(o:Off col c w w')(hc:c≠0∧c≠2∧c≠3∧c≠4∧c≠6)(hcol:∀k,k<w.heap.size→col' k=col k):b.Lies w' B col':=by
 obtain⟨c0,c2,c3,c4,c6⟩:=hc
 refine⟨o.box h.vs h.vc (fun a ha r hr=>?_) (Ne.symm c0),h.vc.old h.vs.1 hcol,fun v hv=>(h.vi v hv).old ((h.vs.2 v hv).2 (v.A,qam v.xs) (by simp[qas])) hcol,o.own h.log h.lc (Ne.symm c2),h.lc.old h.log hcol,o.row h.pend h.pc (Ne.symm c6),h.pc.old h.pend hcol,
  o.own h.marks h.mc (Ne.symm c3),h.mc.old h.marks hcol,o.own h.fls h.fc (Ne.symm c4),h.fc.old h.fls hcol,fun f hf=>⟨(h.fi f hf).1,o.row (h.fi f hf).2.1 (h.fi f hf).2.2 (Ne.symm c0),(h.fi f hf).2.2.old (h.fi f hf).2.1 hcol⟩⟩
 simp only[qas,List.mem_cons,List.not_mem_nil,or_false] at hr
 subst hr
 exact h.vi a ha
theorem BM.Lies.ext{w w':World}{B:Nat}{col col':Nat→Nat}{b:BM}(h:b.Lies w B col)(e:Ext w w')(hcol:∀k,k<w.heap.size→col' k=col k):b.Lies w' B col':=
 h.off (Off.ext 1 e) (by decide) hcol
theorem BM.Lies.base{w:World}{B B':Nat}{col:Nat→Nat}{b:BM}(h:b.Lies w B col)(hb:B'≤B):b.Lies w B' col:=
 ⟨h.vs,h.vc,h.vi,h.log.base hb,h.lc,h.pend,h.pc,h.marks.base hb,h.mc,h.fls.base hb,h.fc,h.fi⟩
theorem BIs.free9{w:World}{p:Nat}{vals:Array Value}{t:TypeId}(h:BIs w p vals t) :
  w.frozen? (Pq p 0)=false∧w.frozen? (Pq p 1)=false∧w.frozen? (Pq p 2)=false∧w.frozen? (Pq p 3)=false∧w.frozen? (Pq p 4)=false∧w.frozen? (Pq p 5)=false∧w.frozen? (Pq p 6)=false∧w.frozen? (Pq p 7)=false∧w.frozen? (Pq p 8)=false:=
 ⟨h.free _,h.free _,h.free _,h.free _,h.free _,h.free _,h.free _,h.free _,h.free _⟩
end Go.Proofs.YtponbabbabnaeaaGreat
