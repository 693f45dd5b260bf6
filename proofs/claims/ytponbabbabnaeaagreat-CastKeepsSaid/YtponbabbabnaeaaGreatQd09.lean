/- Part 9 of the proof: contracts of functions that the statement reaches. Conditions: as each theorem says. -/
import Derived.Lib.AppendStr
import Derived.Laws.BitsAllLaws
import Derived.Deep.RegionHeld3
import Derived.Test.YtponbabbabnaeaaGreatQd01
import Derived.Test.YtponbabbabnaeaaGreatQd05
import Derived.Test.YtponbabbabnaeaaGreatQd08
import Derived.Test.YtponbabbabnaeaaGreatQd04
set_option maxRecDepth 100000
namespace Go.Proofs.YtponbabbabnaeaaGreat
open Go.RowKit
theorem qfl(p:List UInt8):Go.Lib.strCells (qax p)=qad p:=by
 rw[qdE];simp[Go.Lib.strCells,qad]
theorem qiv(B:Nat)(v:Value)(xs p:List UInt8)(w:World)(ho:Own w B 5 v (qad xs))(hB:B≤w.heap.size)(hl:xs.length≤100000000)(hp:p.length≤100000000) :
  Calls Tryz.prog 172 #[v,.string (qax p)] w fun e w'=>∃v',e=.returned v'∧Own w' B 5 v' (qad (xs++qd5 p))∧Grew w w' v:=by
 have HO:=hJ ho;clear ho
 have hn:Hid (p.length<U64):=hJ (by unfold U64;omega)
 have HL:=hJ (qat hn.out)
 have hsz:=qbq p
 have hw:IntKind.u64.wrap (p.length:Int)=(p.length:Int):=qcy hn.out
 go_enter Tryz.func172,Tryz.ntmps172
 go_wp2_with fail
 refine(qc1 B v xs p.length w HO.out hB (by omega) hn).mono ?_
 rintro e w1 ⟨v1,rfl,ho1,hg1,hs1⟩
 have HO1:=hJ ho1;clear ho1
 have hl1:(xs++qaS p.length).length≤100000100:=by have:=HL.out;simp;omega
 obtain⟨i0,hi,hz0,hz1,hz2⟩:=info_parts qcx
 go_wp2_with (first
  | (at_builtin;refine Go.Lib.wpList_append_own_string w1 rfl (.tmp 9) (.tmp 10) 29 9 rfl B 5 i0 Tryz.underlying29 Tryz.underlying9 hi hz0 hz1 hz2 v1 (xs++qaS p.length).length (qad (xs++qaS p.length)) (by rfl) (by have:=HO1.out;unfold Own at this;rw[qau] at this;exact this) (qax p) (by rfl) (by rw[qbq];unfold maxLen;omega) (by rw[qbq];omega) (Nat.le_trans hB hg1.size) ?_;intro v2 w2 ho2 hg2 _))
 go_ret
 refine⟨v2,rfl,?_,hg1.trans hs1 hg2⟩
 have hb:qad (xs++qd5 p)=qad (xs++qaS p.length)++Go.Lib.strCells (qax p):=by rw[qfl,←qbJ];unfold qd5;rw[List.append_assoc]
 unfold Own
 rw[hb,List.length_append,qau,Go.Lib.strCells_length]
 exact ho2
theorem qd3(A:Option Addr)(c:Nat)(bs p:List UInt8)(w:World)(h:Row w A (qad bs))(hl:bs.length≤100000000)(hp:p.length≤100000000) :
  Calls Tryz.prog 120 #[.slice A bs.length c,.string (qax p)] w (GivesB w (bs++qd5 p)):=by
 have H:=hJ h;clear h
 have hsz:=qbq p
 have hw:IntKind.i64.wrap ((p.length:Int)+10)=((p.length+10:Nat):Int):=by rw[IntWalk.i64_in _ (by omega)];simp
 go_enter Tryz.func120,Tryz.ntmps120
 go_wp2_with fail
 refine(qcS A c bs (p.length+10) w H.out (by omega) (by omega)).mono ?_
 rintro e w1 ⟨A1,c1,rfl,hc1,hm1,ho1,hx1⟩
 go_wp2_with fail
 refine(qiv w.heap.size _ bs p w1 ho1 hx1.size hl hp).mono ?_
 rintro e w2 ⟨v2,rfl,ho2,hg2⟩
 go_wp2;go_ret
 exact qc0 ho2 (hg2.below hx1 hx1.size (fun k hk=>(ho1.lt k hk).1))
def qn3:Nat→Nat→Nat
 | 0,s=>s
 | k+1,s=>qn3 k (qhs s)
theorem qgw(k:Nat):∀s,qn3 (k+1) s=qhs (qn3 k s):=by
 induction k with
 | zero=>intro s;rfl
 | succ k ih=>intro s;rw[qn3,ih (qhs s),qn3]
theorem qkc(s:Nat)(b:UInt8):qsh s b=qn3 8 (s ^^^ b.toNat):=rfl
theorem qra{s:Nat}(h:s<4294967296):qhs s<4294967296:=by
 unfold qhs
 refine Nat.xor_lt_two_pow (n:=32) (by omega) ?_
 have:s % 2<2:=Nat.mod_lt _ (by decide)
 omega
theorem qkB(k:Nat):∀s,s<4294967296→qn3 k s<4294967296:=by
 induction k with
 | zero=>intro s h;exact h
 | succ k ih=>intro s h;exact ih _ (qra h)
theorem qeS{s:Nat}(b:UInt8)(h:s<4294967296):s ^^^ b.toNat<4294967296:=Nat.xor_lt_two_pow (n:=32) h (by have:=b.toNat_lt;omega)
theorem qh1(bs:List UInt8):∀s,s<4294967296→bs.foldl qsh s<4294967296:=by
 induction bs with
 | nil=>intro s h;exact h
 | cons b l ih=>intro s h;exact ih _ (by rw[qkc];exact qkB _ _ (qeS b h))
theorem qpk{s:Nat}(h:s<4294967296):bits .xor .u32 ((s:Int) / 2) (3988292384*bits .and .u32 (s:Int) 1 % 4294967296)=((qhs s:Nat):Int):=by
 have h1:bits .and .u32 (s:Int) 1=((s % 2:Nat):Int):=by
  have:=u32_and_nat s 1 h (by decide)
  rw[Nat.and_one_is_mod] at this
  exact this
 rw[h1]
 have h2:(3988292384*((s % 2:Nat):Int)) % 4294967296=((3988292384*(s % 2):Nat):Int):=by
  have:s % 2<2:=Nat.mod_lt _ (by decide)
  omega
 rw[h2]
 have h3:((s:Int) / 2)=((s / 2:Nat):Int):=by omega
 rw[h3,u32_xor_nat _ _ (by omega) (by have:s % 2<2:=Nat.mod_lt _ (by decide);omega)]
 rfl
theorem qkT{s:Nat}(b:UInt8)(h:s<4294967296):bits .xor .u32 (s:Int) ((b.toNat:Int) % 4294967296)=((s ^^^ b.toNat:Nat):Int):=by
 have hb:=b.toNat_lt
 rw[show ((b.toNat:Int) % 4294967296)=(b.toNat:Int) by omega]
 exact u32_xor_nat _ _ h (by omega)
theorem qfU(A:Option Addr)(c:Nat)(bs:List UInt8)(w:World)(h:Row w A (qad bs))(hl:bs.length≤1000000000) :
  Calls Tryz.prog 175 #[.slice A bs.length c] w fun e w'=>e=.returned (.int .u32 (qf5 bs:Int))∧w=w':=by
 have H:=hJ h;clear h
 go_enter Tryz.func175,Tryz.ntmps175
 go_wp2;go_loopw [3,8] (fun s i wr=>∃(k n:Nat),k≤bs.length∧i=Jq (k:Int)∧s=.int .u32 (n:Int)∧Hid (n=(bs.take k).foldl qsh 4294967295)∧w=wr) (fun _ i _=>bs.length - (intOf i).toNat)
 case atStart=>exact⟨0,4294967295,Nat.zero_le _,rfl,rfl,hJ rfl,rfl⟩
 case round=>
  obtain⟨k,n,hk,rfl,rfl,HN,rfl⟩:=hrel
  have hn:Hid (n<4294967296):=hJ (by rw[HN.out];exact qh1 _ _ (by decide))
  by_cases hlt:k<bs.length
  ·obtain⟨b,off,x,rfl,c0,HX⟩:=H.out.byte hlt
   have hcb:=qkT x hn.out
   have hfin:∀m j:Nat,m=qn3 j (n ^^^ x.toNat)→j≤8→¬j<8→m=(bs.take (k+1)).foldl qsh 4294967295:=by
    intro m j h1 h2 h3
    have h8:j=8:=by omega
    subst h8
    rw[h1,←qkc,HN.out,List.take_add_one,HX.out];simp
   go_wp2;go_loopw [3,16] (fun s i wr=>∃(j m:Nat),j≤8∧i=Jq (j:Int)∧s=.int .u32 (m:Int)∧Hid (m=qn3 j (n ^^^ x.toNat))∧w=wr) (fun _ i _=>8 - (intOf i).toNat)
   case atStart=>exact⟨0,n ^^^ x.toNat,Nat.zero_le _,rfl,rfl,hJ rfl,by first|trivial|rfl⟩
   case round=>
    obtain⟨j,m,hj,rfl,rfl,HM,rfl⟩:=hrel
    have hm:Hid (m<4294967296):=hJ (by rw[HM.out];exact qkB _ _ (qeS x hn.out))
    by_cases hj8:j<8
    ·have hcs:=qpk hm.out
     go_wp2;go_roundw
     case rel=>exact⟨j+1,qhs m,by omega,by go_num,rfl,hJ (by rw[qgw,HM.out]),by first|trivial|rfl⟩
     case measure=>simp[intOf];omega
    ·go_wp2
     go_roundw
     case rel=>exact⟨k+1,m,by omega,by go_num,rfl,hJ (hfin m j HM.out hj hj8),by first|trivial|rfl⟩
     case measure=>simp[intOf];omega
  ·have hkl:k=bs.length:=by omega
   subst hkl
   go_wp2;go_ret
   refine⟨?_,rfl⟩
   have hx:=u32_xor_nat 4294967295 n (by decide) hn.out
   have hc:qf5 bs=4294967295 ^^^ n:=by unfold qf5;rw[HN.out,List.take_length]
   rw[hc,←hx]
   rfl
theorem qrm(v:Nat)(w:World):Row (w.alloc (.cells #[.int .u8 ((v:Int) % 256),.int .u8 ((v:Int) / 256 % 256),.int .u8 ((v:Int) / 65536 % 256),.int .u8 ((v:Int) / 16777216 % 256)] 5)) (some (Pq w.heap.size 0)) (qad (le4 v)):=by
 intro _
 refine⟨w.heap.size,0,rfl,by simp,fun j q hj=>?_⟩
 simp only[qad,le4,List.map_cons,List.map_nil,UInt8.toNat_ofNat'] at hj
 rw[show ((v % 2 ^ 8:Nat):Int)=(v:Int) % 256 by omega,show ((v / 256 % 2 ^ 8:Nat):Int)=(v:Int) / 256 % 256 by omega,show ((v / 65536 % 2 ^ 8:Nat):Int)=(v:Int) / 65536 % 256 by omega,show ((v / 16777216 % 2 ^ 8:Nat):Int)=(v:Int) / 16777216 % 256 by omega] at hj
 match j,hj with
 | 0,hj=>simpa using hj
 | 1,hj=>simpa using hj
 | 2,hj=>simpa using hj
 | 3,hj=>simpa using hj
theorem qld(B:Nat)(v:Value)(xs:List UInt8)(n:Nat)(w:World)(ho:Own w B 5 v (qad xs))(hB:B≤w.heap.size)(hl:xs.length≤1000000000) :
  Calls Tryz.prog 174 #[v,.int .u32 (n:Int)] w fun e w'=>∃v',e=.returned v'∧Own w' B 5 v' (qad (xs++le4 n))∧Grew w w' v:=by
 have HO:=hJ ho;clear ho
 go_enter Tryz.func174,Tryz.ntmps174
 go_wp2_with (first
  | (at_builtin;refine qdn rfl (.tmp 5) (.tmp 17) _ 5 _ 1 rfl Tryz.underlying29 qcx rfl (by decide) _ B v (qad xs) (by rfl) _ _ _ (qad (le4 n)) (by rfl) (by rfl) (qrm n w) (qdI _) (HO.out.ext (Ext.new _ _)) (by rw[qau];omega) (by simp;omega) ?_;intro v1 w1 ho1 hg1 hs1))
 go_ret
 refine⟨v1,rfl,?_,?_⟩
 ·rw[qbJ];exact ho1
 ·exact⟨hg1.os,hg1.tape,hg1.output,Nat.le_trans (by simp) hg1.size,fun k hk hne=>(hg1.block k (by simp;omega) hne).trans (Below.heap_alloc _ _ _ hk)⟩
theorem qrp(k:Nat)(hk:k≤255)(w:World):Row (w.alloc (.cells #[.int .u8 65,.int .u8 71,.int .u8 (k:Int)] 5)) (some (Pq w.heap.size 0)) (qad [65,71,UInt8.ofNat k]):=by
 intro _
 refine⟨w.heap.size,0,rfl,by simp,fun j q hj=>?_⟩
 simp only[qad,List.map_cons,List.map_nil,UInt8.toNat_ofNat'] at hj
 rw[show ((k % 2 ^ 8:Nat):Int)=(k:Int) by omega] at hj
 match j,hj with
 | 0,hj=>simpa using hj
 | 1,hj=>simpa using hj
 | 2,hj=>simpa using hj
def qqx(w:World)(bs:List UInt8)(err:Int)(en:Ending)(w':World):Prop:=
 ∃A c,en=.returned (.tuple #[.slice A bs.length c,Jq err])∧bs.length≤c∧c≤maxLen∧Own w' w.heap.size 5 (.slice A bs.length c) (qad bs)∧Ext w w'
theorem qpr(k:Nat)(A:Option Addr)(c:Nat)(body:List UInt8)(w:World)(h:Row w A (qad body))(hl:body.length≤100000000)(hk:1≤k∧k≤255) :
  Calls Tryz.prog 124 #[Jq (k:Int),.slice A body.length c] w fun e w'=>∃err,qqx w (qa2 k body) err e w':=by
 have H:=hJ h;clear h
 by_cases hb:body.length≤16777216
 ·have HF:Hid (qa2 k body=qd2 k body++le4 (qf5 (qd2 k body))):=hJ (by unfold qa2;rw[if_pos hb])
  have hn:Hid (body.length<U64):=hJ (by unfold U64;omega)
  have HL:=hJ (qat hn.out)
  have hw:IntKind.u64.wrap (body.length:Int)=(body.length:Int):=qcy hn.out
  have hw8:IntKind.i64.wrap ((body.length:Int)+8)=((body.length+8:Nat):Int):=by rw[IntWalk.i64_in _ (by omega)];simp
  have E0:Hid (Ext w (w.alloc (.cells #[.int .u8 65,.int .u8 71,.int .u8 (k:Int)] 5))):=hJ (Ext.new _ _)
  go_enter Tryz.func124,Tryz.ntmps124
  go_wp2_with fail
  refine(qcS (some (Pw w 0)) 3 [65,71,UInt8.ofNat k] (body.length+8) _ (qrp k hk.2 w) (by simp) (by omega)).mono ?_
  rintro e w1 ⟨A1,c1,rfl,hc1,hm1,ho1,hx1⟩
  have X1:=hJ (E0.out.trans hx1)
  have HO1:=hJ (ho1.base (B':=w.heap.size) (by simp))
  clear ho1 hx1;go_wp2_with fail
  refine(qc1 w.heap.size _ _ body.length w1 HO1.out X1.out.size (by simp) hn).mono ?_
  rintro e w2 ⟨v2,rfl,ho2,hg2,hs2⟩
  have X2:=hJ (hg2.below X1.out X1.out.size (fun k hk=>(HO1.out.lt k hk).1))
  have HO2:=hJ ho2
  clear ho2 hg2 hs2;go_wp2_with (first
   | (at_builtin;refine qdn rfl (.tmp 29) (.tmp 30) _ 5 _ 1 rfl Tryz.underlying29 qcx rfl (by decide) _ w.heap.size v2 _ (by rfl) A body.length c (qad body) (by rfl) (by rw[qau]) (H.out.ext X2.out) (qdI _) HO2.out (by have:=HL.out;rw[qau];simp;omega) X2.out.size ?_;intro v3 w3 ho3 hg3 hs3))
  have X3:=hJ (hg3.below X2.out X2.out.size (fun k hk=>(HO2.out.lt k hk).1))
  have HO3:Hid (Own w3 w.heap.size 5 v3 (qad (qd2 k body))):=hJ (by rw[←qbJ] at ho3;exact ho3)
  have hpl:(qd2 k body).length≤100000100:=by have:=HL.out;unfold qd2;simp;omega
  clear ho3 hg3 hs3;obtain⟨A3,c3,rfl,h31,h32,HR3⟩:∃A c',v3=.slice A (qd2 k body).length c'∧(qd2 k body).length≤c'∧c'≤maxLen∧Hid (Row w3 A (qad (qd2 k body))):=by
   obtain⟨A,c',h1,h2,h3,h4⟩:=HO3.out.slice
   rw[qau] at h1 h2
   exact⟨A,c',h1,h2,h3,hJ h4⟩
  go_wp2_with fail
  refine(qfU A3 c3 (qd2 k body) w3 HR3.out (by omega)).mono ?_
  rintro e w4 ⟨rfl,rfl⟩
  go_wp2_with fail
  refine(qld w.heap.size _ (qd2 k body) (qf5 (qd2 k body)) w3 HO3.out X3.out.size (by omega)).mono ?_
  rintro e w5 ⟨v5,rfl,ho5,hg5⟩
  have X5:=hJ (hg5.below X3.out X3.out.size (fun k hk=>(HO3.out.lt k hk).1))
  go_wp2;go_ret2
  obtain⟨A5,c5,h1,h2,h3,h4⟩:=ho5.slice
  rw[qau] at h1 h2
  subst h1
  rw[HF.out]
  exact⟨0,A5,c5,rfl,h2,h3,ho5,X5.out⟩
 ·have HF:Hid (qa2 k body=[]):=hJ (by unfold qa2;rw[if_neg hb])
  go_enter Tryz.func124,Tryz.ntmps124
  go_wp2;go_ret2
  rw[HF.out]
  exact⟨1,none,0,rfl,Nat.le_refl _,Nat.zero_le _,Own.nil _ _ _,Ext.refl _⟩
def qmY:Elem UInt8 where
 f b:=[.int .u8 (b.toNat:Int)]
 k:=1
 ty:=5
 st:=29
 z:=.int .u8 0
 bytes:=1
 inn _:=[]
 ok _:=True
 len _:=rfl
 one a:=by intro u hu;simp only[List.mem_cons,List.not_mem_nil,or_false] at hu;rcases hu with rfl;rfl
 pos:=by decide
 und:=Tryz.underlying29
 info:=by kernel_rfl
 zk:=rfl
 small:=by decide
theorem qhS(xs:List UInt8):qmY.cells xs=qad xs:=by
 induction xs with
 | nil=>rfl
 | cons x l ih=>rw[qmY.cells_cons,ih];rfl
def qcB(A:Option Addr)(l c k:Nat):Option Addr:=if c=l then A else A.map (·.add (l*k))
theorem qov(A:Option Addr)(c k:Nat):qcB A 0 c k=A:=by
 unfold qcB
 split
 ·rfl
 ·cases A with
  | none=>rfl
  | some a=>simp[Addr.add]
section
variable {α:Type} (E:Elem α)
theorem Elem.size_run(W:World):(sizeOf (Tryz.prog.elem E.st)).run Tryz.prog W=.ok E.k W:=by
 obtain⟨i,hi,_,hz,_⟩:=E.info_parts
 have:Tryz.prog.elem E.st=E.ty:=by unfold Program.elem;rw[E.und]
 rw[this]
 simp[sizeOf,typeInfo,hi,hz]
theorem Elem.und':Tryz.prog.underlying E.st=some (.slice (Tryz.prog.elem E.st)):=by
 have:Tryz.prog.elem E.st=E.ty:=by unfold Program.elem;rw[E.und]
 rw[this];exact E.und
theorem Elem.slice_lh(A:Option Addr)(n c lo hi:Nat)(li hI:Int)(e1:li=lo)(e2:hI=hi)(h1:lo≤hi)(h2:hi≤c)(W:World) :
  (Instr.slice E.st (.slice A n c) (some (Jq li)) (some (Jq hI)) none).run Tryz.prog W=.ok (.slice (qcB A lo c E.k) (hi - lo) (c - lo)) W:=by
 subst e1 e2
 rw[run_slice_lh W _ A n c E.und' _ _ _ _ (by omega) (by omega) (by omega),E.size_run]
 simp[sliced,qcB,Result.andThen]
theorem Elem.slice_l(A:Option Addr)(n c lo:Nat)(li:Int)(e1:li=lo)(h1:lo≤n)(W:World) :
  (Instr.slice E.st (.slice A n c) (some (Jq li)) none none).run Tryz.prog W=.ok (.slice (qcB A lo c E.k) (n - lo) (c - lo)) W:=by
 subst e1
 rw[run_slice_l W _ A n c E.und' _ _ (by omega) (by omega),E.size_run]
 simp[sliced,qcB,Result.andThen]
theorem Elem.slice_h(A:Option Addr)(n c hi:Nat)(hI:Int)(e2:hI=hi)(h2:hi≤c)(W:World) :
  (Instr.slice E.st (.slice A n c) none (some (Jq hI)) none).run Tryz.prog W=.ok (.slice A hi c) W:=by
 subst e2
 rw[run_slice_h W _ A n c E.und' _ _ (by omega) (by omega),E.size_run]
 have:=qov A c E.k
 unfold qcB at this
 simp only[sliced,Result.andThen,this,Int.toNat_natCast,Nat.sub_zero]
theorem Elem.slice_lhm(A:Option Addr)(n c lo hi mx:Nat)(li hI mI:Int)(e1:li=lo)(e2:hI=hi)(e3:mI=mx)(h1:lo≤hi)(h2:hi≤mx)(h3:mx≤c)(W:World) :
  (Instr.slice E.st (.slice A n c) (some (Jq li)) (some (Jq hI)) (some (Jq mI))).run Tryz.prog W=.ok (.slice (qcB A lo mx E.k) (hi - lo) (mx - lo)) W:=by
 subst e1 e2 e3
 rw[run_slice_lhm W _ A n c E.und' _ _ _ _ _ _ (by omega) (by omega) (by omega) (by omega),E.size_run]
 simp[sliced,qcB,Result.andThen]
theorem Elem.cells_drop(l:List α)(n:Nat):E.cells (l.drop n)=(E.cells l).drop (n*E.k):=by
 induction l generalizing n with
 | nil=>simp[Elem.cells]
 | cons a l ih=>
  match n with
  | 0=>simp
  | n+1=>
   rw[List.drop_succ_cons,ih,E.cells_cons,Nat.succ_mul,Nat.add_comm (n*E.k) E.k,←List.drop_drop,List.drop_left' (E.len a)]
theorem Elem.cells_take(l:List α)(n:Nat):E.cells (l.take n)=(E.cells l).take (n*E.k):=by
 induction l generalizing n with
 | nil=>simp[Elem.cells]
 | cons a l ih=>
  match n with
  | 0=>simp[Elem.cells]
  | n+1=>
   rw[List.take_succ_cons,E.cells_cons,E.cells_cons,ih,Nat.succ_mul,Nat.add_comm (n*E.k) E.k,List.take_append,E.len]
   congr 1
   ·rw[List.take_of_length_le (by rw[E.len];omega)]
   ·congr 1;omega
end
theorem Row.take{w:World}{A:Option Addr}{xs:List Value}(h:Row w A xs)(n:Nat):Row w A (xs.take n):=by
 intro hne
 have hx:xs≠[]:=by intro e;subst e;simp at hne
 obtain⟨b,off,h1,h2,h3⟩:=h hx
 refine⟨b,off,h1,h2,fun j v hj=>h3 j v ?_⟩
 rw[List.getElem?_take] at hj
 split at hj
 ·exact hj
 ·cases hj
theorem Row.sub{w:World}{A:Option Addr}{xs:List Value}{l k c:Nat}(h:Row w A xs)(hc:xs.length≤c*k):Row w (qcB A l c k) (xs.drop (l*k)):=by
 intro hne
 have hk:l*k<xs.length:=by
  rcases Nat.lt_or_ge (l*k) xs.length with h1|h1
  ·exact h1
  ·exact absurd (List.drop_eq_nil_of_le h1) hne
 obtain⟨b,off,rfl,hb,h3⟩:=h.addr hk
 unfold qcB
 rw[if_neg (by intro e;subst e;omega)]
 refine⟨b,off+l*k,?_,hb,fun j v hj=>?_⟩
 ·simp only[Option.map_some,Option.some.injEq]
  unfold Addr.add
  split<;>simp_all
 ·have:=h3 (l*k+j) v (by rw[←hj,List.getElem?_drop])
  rw[Nat.add_assoc];exact this
theorem Elem.row_sub{α:Type}{E:Elem α}{w:World}{A:Option Addr}{l:List α}{c:Nat}(h:Row w A (E.cells l))(hc:l.length≤c)(lo hi:Nat):Row w (qcB A lo c E.k) (E.cells ((l.take hi).drop lo)):=by
 rw[E.cells_drop]
 refine Row.sub (c:=c) ?_ ?_
 ·rw[E.cells_take];exact h.take _
 ·rw[E.cells_len]
  exact Nat.mul_le_mul_right _ (by rw[List.length_take];omega)
theorem Elem.row_from{α:Type}{E:Elem α}{w:World}{A:Option Addr}{l:List α}{c:Nat}(h:Row w A (E.cells l))(hc:l.length≤c)(lo:Nat):Row w (qcB A lo c E.k) (E.cells (l.drop lo)):=by
 have:=Elem.row_sub h hc lo l.length
 rwa [List.take_length] at this
theorem Elem.row_upto{α:Type}{E:Elem α}{w:World}{A:Option Addr}{l:List α}(h:Row w A (E.cells l))(hi:Nat):Row w A (E.cells (l.take hi)):=by
 rw[E.cells_take];exact h.take _
theorem qdH{w:World}{A:Option Addr}{bs:List UInt8}(h:Row w A (qad bs)):Row w A (qmY.cells bs):=by rw[qhS];exact h
theorem qcQ{w:World}{A:Option Addr}{bs:List UInt8}(h:Row w A (qmY.cells bs)):Row w A (qad bs):=by rw[←qhS];exact h
end Go.Proofs.YtponbabbabnaeaaGreat
namespace Go.Proofs.YtponbabbabnaeaaGreat
section
variable {P:Program} {ops:Array Oper} {Q:Exit→Act→World→Prop} {md:Region.Mode} {S:World→Prop} {n:Nat}
def wpE(P:Program)(md:Region.Mode)(ops:Array Oper)(Q:Exit→Act→World→Prop)(S:World→Prop)(n:Nat):Nat→Array Bool→Act→World→Prop
 | 0,listed,a,w=>Region.ready md ops listed=[]∧Q .normal a w
 | fuel+1,listed,a,w=>
  (Region.ready md ops listed=[]→Q .normal a w)∧
  ∀i∈Region.ready md ops listed,wpOp P ops Q i (fun a' w'=>(i<n→S w')∧wpE P md ops Q S n fuel (listed.setIfInBounds i true) a' w') a w
theorem qls:∀(fuel:Nat) (listed:Array Bool) (a:Act) (w:World),wpE P md ops Q S n fuel listed a w→wpAny P md ops Q fuel listed a w
 | 0,_,_,_,h=>h
 | fuel+1,_,_,_,h=>⟨h.1,fun i hi=>wpOp_mono (fun a' w' h'=>qls fuel _ a' w' h'.2) (h.2 i hi)⟩
def qto(md:Region.Mode)(ops:Array Oper)(n:Nat):Bool:=
 (List.range ops.size).all fun t=>decide (t≤n)||(List.range t).any fun j=>decide (n≤j)&&Region.waitsFor md ops t j
theorem qnK{n:Nat}{listed:Array Bool}(hs:Region.sinkB md ops n=true)(hc:qto md ops n=true)(inv:HeadInv md ops n listed) :
  ∀(d i:Nat),n - i=d→i<n→listed.getD i true=false→∀t,n≤t→t∉Region.ready md ops listed:=by
 intro d
 induction d using Nat.strongRecOn with
 | _ d ih=>
  intro i hd hi hun t ht hr
  obtain⟨_,ot,hot,hall⟩:=mem_ready.1 hr
  have htlt:t<ops.size:=(Array.getElem?_eq_some_iff.1 hot).1
  by_cases htn:t=n
  ·subst htn
   have h1:=List.all_eq_true.1 hs i (List.mem_range.2 hi)
   obtain⟨j,hj,hj2⟩:=List.any_eq_true.1 h1
   simp only[Bool.and_eq_true,decide_eq_true_eq] at hj2
   obtain⟨oj,hoj,e,he,hb,hon⟩:=Region.waitsFor_spec hj2.2
   have hjle:j≤t:=by have:=List.mem_range.1 hj;omega
   by_cases hjt:j=t
   ·subst hjt
    have:oj=ot:=Option.some.inj (hoj.symm.trans hot)
    subst this
    have h2:=hall e he hb
    rw[hon,getD_both hun] at h2
    cases h2
   ·cases hl:listed.getD j false with
    | true=>
     have h2:=inv.closed j oj hoj hl e he hb
     rw[hon,getD_both hun] at h2
     cases h2
    | false=>
     have hjs:j<listed.size:=by rw[inv.size];omega
     exact ih (t - j) (by omega) j rfl (by omega) (getD_in hjs hl) t (Nat.le_refl _) hr
  ·have h1:=List.all_eq_true.1 hc t (List.mem_range.2 htlt)
   simp only[Bool.or_eq_true,decide_eq_true_eq] at h1
   rcases h1 with h1|h1
   ·omega
   ·obtain⟨t',ht',h3⟩:=List.any_eq_true.1 h1
    simp only[Bool.and_eq_true,decide_eq_true_eq] at h3
    obtain⟨o',ho',e,he,hb,hon⟩:=Region.waitsFor_spec h3.2
    have:o'=ot:=Option.some.inj (ho'.symm.trans hot)
    subst this
    have h2:=hall e he hb
    rw[hon,getD_both (inv.tail t' h3.1 (by have:=List.mem_range.1 ht';omega))] at h2
    cases h2
theorem qr4{i:Nat}{oi:Oper}{v:Value}(hi:ops[i]?=some oi)(hsel:∀(j:Nat) (o:Oper) cs b,ops[j]?=some o→o.op≠.select cs b)
  (hs:n=ops.size∨(Region.sinkB md ops n=true∧qto md ops n=true∧n<ops.size)) (hin:i<n)
  (hQ:∀c a w,Q (.panic c) (a.put oi.dst v) w→Q (.panic c) a w) :
  ∀(fuel:Nat) (listed:Array Bool) (a:Act) (w:World),HeadInv md ops n listed→
   (∀j oj,ops[j]?=some oj→j≠i→listed.getD j true=false→(∀e∈oj.after,Region.binds md e=true→e.on≠i)→oi.apart ops oj=true)→
   i∈Region.ready md ops listed→YieldsIf P ops S oi v a→S w→
   wpE P md ops Q S n fuel (listed.setIfInBounds i true) (a.put oi.dst v) w→wpE P md ops Q S n (fuel+1) listed a w:=by
 intro fuel
 induction fuel with
 | zero=>
  intro listed a w _ _ hr hy hS H
  refine⟨fun h=>(by rw[h] at hr;cases hr),fun j hj=>?_⟩
  by_cases hji:j=i
  ·subst hji;exact hy.wpOp hi hS ⟨fun _=>hS,H⟩
  ·have:=ready_mono hj hji
   rw[H.1] at this
   cases this
 | succ fuel ih=>
  intro listed a w inv hfree hr hy hS H
  have hun:=(mem_ready.1 hr).1
  refine⟨fun h=>(by rw[h] at hr;cases hr),fun j hj=>?_⟩
  by_cases hji:j=i
  ·subst hji;exact hy.wpOp hi hS ⟨fun _=>hS,H⟩
  ·have hjn:j<n:=by
    rcases Nat.lt_or_ge j n with h|h
    ·exact h
    ·rcases hs with hs|⟨hs,hc,hn⟩
     ·obtain⟨_,oj,hoj,_⟩:=mem_ready.1 hj
      have:=(Array.getElem?_eq_some_iff.1 hoj).1
      omega
     ·exact absurd hj (qnK hs hc inv _ i rfl hin hun j h)
   have h1:=H.2 j (ready_mono hj hji)
   obtain⟨hjun,oj,hoj,hall⟩:=mem_ready.1 hj
   have hnot:∀e∈oj.after,Region.binds md e=true→e.on≠i:=fun e he hb heq=>by
    have h1:=hall e he hb
    rw[heq,getD_both hun] at h1
    cases h1
   have h2:=wpOp_putIf hoj (hfree j oj hoj hji hjun hnot) (fun cs b=>hsel i oi cs b hi) (fun cs b=>hsel j oj cs b hoj) hQ hy h1
   have hfree':∀k ok,ops[k]?=some ok→k≠i→(listed.setIfInBounds j true).getD k true=false→
     (∀e∈ok.after,Region.binds md e=true→e.on≠i)→oi.apart ops ok=true:=fun k ok hk hki hun hno=>by
    refine hfree k ok hk hki ?_ hno
    by_cases hjk:j=k
    ·subst hjk;exact hjun
    ·rw[getD_set_ne true hjk] at hun;exact hun
   refine wpOp_mono (fun a' w' h3=>⟨h3.2.1,ih (listed.setIfInBounds j true) a' w' (inv.set hj hjn) hfree' (ready_mono hr (Ne.symm hji)) h3.1 (h3.2.1 hjn) ?_⟩) h2
   rw[Array.setIfInBounds_comm _ _ hji]
   exact h3.2.2
def qrX(md:Region.Mode)(ops:Array Oper)(n:Nat)(listed:Array Bool):Bool:=
 decide (listed.size=ops.size)&&(((List.range ops.size).all fun j=>!listed.getD j false||((ops[j]?).map (·.after.all fun e=>!Region.binds md e||listed.getD e.on false)).getD true)&&((List.range ops.size).all fun t=>decide (t<n)||!listed.getD t true))
theorem qlD{listed:Array Bool}(h:qrX md ops n listed=true):HeadInv md ops n listed:=by
 unfold qrX at h
 simp only[Bool.and_eq_true,decide_eq_true_eq,List.all_eq_true,List.mem_range] at h
 obtain⟨h1,h2,h3⟩:=h
 refine⟨h1,fun j oj hj hl e he hb=>?_,fun t ht ht'=>?_⟩
 ·have h4:=h2 j (Array.getElem?_eq_some_iff.1 hj).1
  rw[hl,hj] at h4
  simp only[Bool.not_true,Option.map_some,Option.getD_some,Bool.false_or] at h4
  have h5:=Array.all_eq_true'.1 h4 e he
  rw[hb] at h5
  simpa using h5
 ·have h4:=h3 t ht'
  simp only[Bool.or_eq_true,decide_eq_true_eq,Bool.not_eq_true'] at h4
  rcases h4 with h4|h4
  ·omega
  ·exact h4
def qp6(md:Region.Mode)(ops:Array Oper)(n:Nat)(listed:Array Bool)(i:Nat):Bool:=
 Region.noSelect ops&&((decide (n=ops.size)||(Region.sinkB md ops n&&(qto md ops n&&decide (n<ops.size))))&&(decide (i<n)&&(qrX md ops n listed&&(Region.free md ops listed i&&(Region.ready md ops listed).contains i))))
theorem qjz(i:Nat){oi:Oper}{v:Value}{fuel:Nat}{listed:Array Bool}{a:Act}{w:World}(hi:ops[i]?=some oi)(hB:qp6 md ops n listed i=true)
  (hQ:∀c a w,Q (.panic c) (a.put oi.dst v) w→Q (.panic c) a w) (hy:YieldsIf P ops S oi v a) (hS:S w)
  (h:wpE P md ops Q S n fuel (listed.setIfInBounds i true) (a.put oi.dst v) w):wpE P md ops Q S n (fuel+1) listed a w:=by
 unfold qp6 at hB
 simp only[Bool.and_eq_true,Bool.or_eq_true,decide_eq_true_eq] at hB
 obtain⟨b1,b2,b5,b6,b7,b8⟩:=hB
 exact qr4 hi (Region.noSelect_spec b1) b2 b5 hQ fuel listed a w (qlD b6) (Region.free_spec hi b7) (by simpa using b8) hy hS h
def AllE(P:Program)(md:Region.Mode)(ops:Array Oper)(Q:Exit→Act→World→Prop)(S:World→Prop)(n fuel:Nat)(listed:Array Bool)(a:Act)(w:World)(rs:List Nat):Prop:=
 ∀i∈rs,wpOp P ops Q i (fun a' w'=>(i<n→S w')∧wpE P md ops Q S n fuel (listed.setIfInBounds i true) a' w') a w
theorem AllE.nil{fuel:Nat}{listed:Array Bool}{a:Act}{w:World}:AllE P md ops Q S n fuel listed a w []:=fun _ h=>by cases h
theorem AllE.cons{fuel:Nat}{listed:Array Bool}{a:Act}{w:World}{i:Nat}{o:Oper}{rs:List Nat}(ho:ops[i]?=some o)
  (h:∀K':Act→World→Prop,Shut (∀a w,S w→(S w→wpE P md ops Q S n fuel (listed.setIfInBounds i true) a w)→K' a w)→if Region.wanted o (yielded ops a.tmps)=true then Oper.wp P o a w K' Q else K' (a.put o.dst undef) w)
  (hs:AllE P md ops Q S n fuel listed a w rs):AllE P md ops Q S n fuel listed a w (i::rs):=fun j hj=>by
 rcases List.mem_cons.1 hj with rfl|hj
 ·exact wpOp_step ho (fun K' hK=>h K' (fun a w hS hW=>hK a w ⟨fun _=>hS,hW hS⟩))
 ·exact hs j hj
theorem qc3(rs:List Nat){fuel:Nat}{listed:Array Bool}{a:Act}{w:World}(hr:Region.ready md ops listed=rs)(hne:rs≠[])
  (h:AllE P md ops Q S n fuel listed a w rs):wpE P md ops Q S n (fuel+1) listed a w:=⟨fun h0=>absurd (hr▸h0) hne,hr▸h⟩
theorem qsK:∀(l:List Oper) (k:Nat) (listed:Array Bool) (a:Act) (w:World),(∀j,l[j]?=ops[k+j]?)→n≤k→
  Region.seqB md ops l.length k listed=true→wpList P ops Q l a w→wpE P md ops Q S n l.length listed a w
 | [],_,_,_,_,_,_,hB,h=>⟨by simpa[Region.seqB] using hB,h⟩
 | o::l,k,listed,a,w,hl,hnk,hB,h=>by
  have h0:ops[k]?=some o:=by simpa using (hl 0).symm
  simp only[List.length_cons,Region.seqB,Bool.and_eq_true,decide_eq_true_eq] at hB
  refine⟨fun h1=>(by rw[hB.1] at h1;cases h1),fun i hi=>?_⟩
  rw[hB.1] at hi
  have hik:i=k:=by simpa using hi
  subst hik
  have hw:wpOp P ops Q i (wpList P ops Q l) a w:=by unfold wpOp;simp only[h0];exact h
  exact wpOp_mono (fun a' w' h'=>⟨fun hlt=>by omega,qsK l (i+1) _ a' w' (fun j=>by have:=hl (j+1);simpa[Nat.add_assoc,Nat.add_comm 1 j] using this) (by omega) hB.2 h'⟩) hw
theorem qoe{S':World→Prop}{n':Nat}:∀(fuel:Nat) (listed:Array Bool) (a:Act) (w:World),(∀i,i<n→listed.getD i true=true)→wpE P md ops Q S' n' fuel listed a w→wpE P md ops Q S n fuel listed a w
 | 0,_,_,_,_,h=>h
 | fuel+1,listed,a,w,hl,h=>by
  refine⟨h.1,fun i hi=>wpOp_mono (fun a' w' h'=>⟨fun hin=>?_,qoe fuel _ a' w' (fun j hj=>?_) h'.2⟩) (h.2 i hi)⟩
  ·have:=(mem_ready.1 hi).1
   rw[hl i hin] at this
   cases this
  ·by_cases hji:i=j
   ·subst hji
    have:=(mem_ready.1 hi).1
    rw[hl i hj] at this
    cases this
   ·rw[getD_set_ne true hji];exact hl j hj
def qtM(n:Nat)(listed:Array Bool):Bool:=(List.range n).all fun i=>listed.getD i true
theorem qgo(n':Nat)(S':World→Prop){fuel:Nat}{listed:Array Bool}{a:Act}{w:World}(hB:qtM n listed=true)(hS:S' w)(h:S' w→wpE P md ops Q S' n' fuel listed a w):wpE P md ops Q S n fuel listed a w:=
 qoe fuel listed a w (fun i hi=>by
  unfold qtM at hB
  exact List.all_eq_true.1 hB i (List.mem_range.2 hi)) (h hS)
theorem qbc{l:List Oper}{fuel:Nat}{listed:Array Bool}{a:Act}{w:World}(hf:(l.drop n).length=fuel)(hB:Region.seqB md l.toArray (l.drop n).length n listed=true)
  (h:wpList P l.toArray Q (l.drop n) a w):wpE P md l.toArray Q S n fuel listed a w:=by
 subst hf
 exact qsK (l.drop n) n listed a w (fun j=>by simp) (Nat.le_refl _) hB h
theorem qaE{fuel:Nat}{listed:Array Bool}{a:Act}{w:World}(hr:Region.ready md ops listed=[])(hf:fuel=0)(h:Q .normal a w):wpE P md ops Q S n fuel listed a w:=by
 subst hf;exact⟨hr,h⟩
theorem qac(n:Nat)(S:World→Prop){id:Nat}{a:Act}{w:World}(hm:P.follows .mixedOrders=true)(hS:S w.drew)
  (h:S w.drew→wpE P .any ops Q S n ops.size (Array.replicate ops.size false) a w.drew):(Code.region id ops true).wp P Q a w:=
 wp_region_any hm (qls _ _ _ _ (h hS))
end
end Go.Proofs.YtponbabbabnaeaaGreat

namespace Go.Proofs.YtponbabbabnaeaaGreat
theorem aP1 {α : Type} {l : List α} {i : Nat} {a : α} : l.toArray.setIfInBounds i a = (l.set i a).toArray := List.setIfInBounds_toArray ..
theorem aP2 {α : Type} {a b : α} {l : List α} : (a :: l).set 0 b = b :: l := rfl
theorem aP3 {α : Type} {a b : α} {l : List α} {n : Nat} : (a :: l).set (n + 1) b = a :: l.set n b := rfl
section
variable {P : Program} {ops : Array Oper} {Q : Exit → Act → World → Prop} {md : Region.Mode} {S : World → Prop} {n : Nat}
theorem E_t (i d : Nat) {oi : Oper} {v : Value} {fuel : Nat} {listed : Array Bool} {a a' : Act} {w : World} (h : wpE P md ops Q S n fuel (listed.setIfInBounds i true) a' w)
    (hi : ops[i]? = some oi := by rfl) (hd : oi.dst = some d := by rfl) (hB : qp6 md ops n listed i = true := by kernel_rfl) (hy : ∀ w9, S w9 → (execOp a.eval oi).run P w9 = .ok (.value v) w9 := by intro w9 hSw; (try dsimp only at hSw); go_simp <;> with_reducible rfl)
    (ha : a.put (some d) v = a' := by simp only [Act.put, aP1, aP2, aP3] <;> rfl) (hQ : ∀ c a w, Q (.panic c) (a.put oi.dst v) w → Q (.panic c) a w := by exact fun _ _ _ h => h)
    (hw : Region.wanted oi (yielded ops a.tmps) = true := by rfl) (hS : S w := by assumption) : wpE P md ops Q S n (fuel + 1) listed a w := by
  subst ha; rw [← hd] at h; exact qjz i hi hB hQ (Or.inl ⟨hw, hy⟩) hS h
theorem E_r (i : Nat) (d : Option Nat) {x1 : Op} {x2 : TypeId} {x3 : String} {x4 : Array Edge} {x5 : Option (Tmp × Bool)} {fuel : Nat} {listed : Array Bool} {a : Act} {w : World}
    (h : ∀ K' : Act → World → Prop, Shut (∀ a w, S w → (S w → wpE P md ops Q S n fuel (listed.setIfInBounds i true) a w) → K' a w) → if Region.wanted ⟨d, x1, x2, x3, x4, x5⟩ (yielded ops a.tmps) = true then Oper.wp P ⟨d, x1, x2, x3, x4, x5⟩ a w K' Q else K' (a.put d undef) w)
    (hr : Region.ready md ops listed = [i] := by kernel_rfl) (ho : ops[i]? = some ⟨d, x1, x2, x3, x4, x5⟩ := by rfl) : wpE P md ops Q S n (fuel + 1) listed a w := qc3 [i] hr (by simp) (AllE.cons ho h AllE.nil)
theorem E_s (i d : Nat) {oi : Oper} {fuel : Nat} {listed : Array Bool} {a a' : Act} {w : World} (h : wpE P md ops Q S n fuel (listed.setIfInBounds i true) a' w)
    (hi : ops[i]? = some oi := by rfl) (hd : oi.dst = some d := by rfl) (hB : qp6 md ops n listed i = true := by kernel_rfl)
    (ha : a.put (some d) undef = a' := by simp only [Act.put, aP1, aP2, aP3] <;> rfl) (hQ : ∀ c a w, Q (.panic c) (a.put oi.dst undef) w → Q (.panic c) a w := by exact fun _ _ _ h => h)
    (hw : Region.wanted oi (yielded ops a.tmps) = false := by rfl) (hS : S w := by assumption) : wpE P md ops Q S n (fuel + 1) listed a w := by
  subst ha; rw [← hd] at h; exact qjz i hi hB hQ (Or.inr ⟨hw, rfl⟩) hS h
end
end Go.Proofs.YtponbabbabnaeaaGreat
namespace Go.Proofs.YtponbabbabnaeaaGreat
open Go.RowKit
theorem qfQ {P : Prop} (h : P := by
 go_wp2;(try simp only[Exit.inBlock,Exit.then]);refine bodyPost_ret (qer rfl _ _ _) rfl ?_
 exact qli _ HF.out (Ext.refl _)) : P := h
def qtQ(r:List UInt8×Nat×Int):Ending:=.returned (.tuple #[.string (qax r.1),.int .i64 (r.2.1:Int),.int .i64 r.2.2])
theorem ql8(A:Option Addr)(c:Nat)(bs:List UInt8)(m:Nat)(w:World)(h:Row w A (qad bs))(hc:bs.length≤c)(hl:bs.length≤1000000000)(hm:m≤1000000000) :
  Calls Tryz.prog 184 #[.slice A bs.length c,Jq (m:Int)] w fun e w'=>e=qtQ (qkG bs m)∧w=w':=by
 have H:=hJ h;clear h
 have hin:=qfR bs m
 obtain⟨⟨size,n,er⟩,hd⟩:∃r,qc9 bs m=r:=⟨_,rfl⟩
 have HD:=hJ hd
 rw[hd] at hin
 clear hd;have hz:er=0→size≤m∧n≤bs.length:=fun _=>hin
 by_cases he:er=0
 ·subst he
  simp only at hin
  obtain⟨h1,h2⟩:=hin
  by_cases hs:bs.length - n<size
  ·have HF:Hid (qkG bs m=([],0,2)):=hJ (by unfold qkG;rw[HD.out];simp only[ne_eq,not_true_eq_false,if_false];rw[if_pos hs])
   have hd:decide ((bs.length:Int) - (n:Int)<(size:Int))=true:=by simp;omega
   go_enter Tryz.func184,Tryz.ntmps184
   go_wp2_with fail
   refine(qcL A c bs m w H.out hl hm).mono ?_
   rintro e w' ⟨rfl,rfl⟩
   rw[HD.out]
   unfold qiJ
   go_wp2;go_ret3
   refine⟨?_,rfl⟩
   rw[HF.out]
   rfl
  ·have HF:Hid (qkG bs m=((bs.drop n).take size,n+size,0)):=hJ (by unfold qkG;rw[HD.out];simp only[ne_eq,not_true_eq_false,if_false];rw[if_neg hs])
   have hd:decide ((bs.length:Int) - (n:Int)<(size:Int))=false:=by simp;omega
   have hsl:∀W,(Instr.slice 29 (.slice A bs.length c) (some (Jq (n:Int))) (some (Jq ((n:Int)+(size:Int)))) none).run Tryz.prog W=.ok (.slice (qcB A n c 1) size (c - n)) W:=fun W=>by
    have:=qmY.slice_lh A bs.length c n (n+size) (n:Int) ((n:Int)+(size:Int)) rfl (by omega) (by omega) (by omega) W
    rw[show n+size - n=size by omega] at this;exact this
   have hcv:(convert 29 9 (.slice (qcB A n c 1) size (c - n))).run Tryz.prog w=.ok (.string (qax ((bs.drop n).take size))) w:=
    qdJ _ _ (qcQ (by have:=Elem.row_sub (qdH H.out) hc n (n+size);rw[List.drop_take,show n+size - n=size by omega] at this;exact this)) (by rw[List.length_take,List.length_drop];omega)
   go_enter Tryz.func184,Tryz.ntmps184
   go_wp2_with fail
   refine(qcL A c bs m w H.out hl hm).mono ?_
   rintro e w' ⟨rfl,rfl⟩
   rw[HD.out]
   unfold qiJ
   go_wp2;go_ret3
   refine⟨?_,rfl⟩
   rw[HF.out]
   rfl
 ·have HF:Hid (qkG bs m=([],0,er)):=hJ (by unfold qkG;rw[HD.out];simp only[ne_eq];rw[if_pos he])
  have hb:(er != 0)=true:=by simpa using he
  go_enter Tryz.func184,Tryz.ntmps184
  go_wp2_with fail
  refine(qcL A c bs m w H.out hl hm).mono ?_
  rintro e w' ⟨rfl,rfl⟩
  rw[HD.out]
  unfold qiJ
  go_wp2;go_ret3
  refine⟨?_,rfl⟩
  rw[HF.out]
  rfl
-- OPEN
def qtP(w:World)(r:Int×List UInt8×Nat×Int)(en:Ending)(w':World):Prop:=
 ∃A c,en=.returned (.tuple #[Jq r.1,.slice A r.2.1.length c,Jq (r.2.2.1:Int),Jq r.2.2.2])∧r.2.1.length≤c∧c≤maxLen∧Own w' w.heap.size 5 (.slice A r.2.1.length c) (qad r.2.1)∧Ext w w'
theorem qli{w w':World}{r:Int×List UInt8×Nat×Int}(er:Int)(h:r=(0,[],0,er))(hx:Ext w w'):qtP w r (.returned (.tuple #[Jq 0,Zq,Jq 0,Jq er])) w':=by
 subst h;exact⟨none,0,rfl,Nat.le_refl _,Nat.zero_le _,Own.nil _ _ _,hx⟩
theorem Ext.drew1{w:World}:Ext w w.drew:=(Ext.refl w).drew
theorem qer{fn:Func}{t u v x:Tmp}(h:fn.results=#[.tmp t,.tmp u,.tmp v,.tmp x])(tmps:Array Value)(P:Program)(w:World) :
  (results fn tmps).run P w=.ok (.tuple #[tmps.getD t undef,tmps.getD u undef,tmps.getD v undef,tmps.getD x undef]) w:=by
 simp[results,h]
theorem qfH(A:Option Addr)(c k:Nat)(bs:List UInt8)(m:Nat)(w:World)(h:Row w A (qad bs))(hl:bs.length≤1000000000)(hm:m≤1000000000)(hk:k=bs.length) :
  Calls Tryz.prog 181 #[.slice A k c,Jq (m:Int)] w fun e w'=>e=qiJ (((qc9 bs m).1:Int),(qc9 bs m).2.1,(qc9 bs m).2.2)∧w=w':=by subst hk;exact qcL A c bs m w h hl hm
theorem qji(A:Option Addr)(c k:Nat)(bs:List UInt8)(w:World)(h:Row w A (qad bs))(hl:bs.length≤1000000000)(hk:k=bs.length) :
  Calls Tryz.prog 175 #[.slice A k c] w fun e w'=>e=.returned (.int .u32 (qf5 bs:Int))∧w=w':=by subst hk;exact qfU A c bs w h hl
theorem qmi(A:Option Addr)(c k:Nat)(bs:List UInt8)(n:Nat)(w:World)(h:Row w A (qad bs))(hl:bs.length≤1000000000)(hn:n≤1000000000)(hk:k=bs.length) :
  Calls Tryz.prog 122 #[.slice A k c,Jq (n:Int)] w (GivesB w bs):=by subst hk;exact qcS A c bs n w h hl hn
theorem qka{x:UInt8}{n:Nat}(h:x≠UInt8.ofNat n):((x.toNat:Int) != (n:Int))=true:=by
 simp only[bne_iff_ne,ne_eq]
 intro e
 apply h
 have:x.toNat=n:=by omega
 rw[←this];simp
set_option maxHeartbeats 1000000 in
theorem qc7(A:Option Addr)(c:Nat)(bs:List UInt8)(w:World)(h:Row w A (qad bs))(hc:bs.length≤c)(hl:bs.length≤1000000) :
  Calls Tryz.prog 137 #[.slice A bs.length c] w (qtP w (qd6 bs)):=by
 have H:=hJ h;clear h
 by_cases h3:bs.length<3
 ·have HF:Hid (qd6 bs=(0,[],0,2)):=hJ (by unfold qd6;rw[if_pos h3])
  go_enter Tryz.func137,Tryz.ntmps137
  exact qfQ
 ·obtain⟨b,off,x0,rfl,k0,HX0⟩:=H.out.byte (k:=0) (by omega)
  obtain⟨b',off',x1,hA1,k1,HX1⟩:=H.out.byte (k:=1) (by omega)
  obtain⟨b2,off2,x2,hA2,k2,HX2⟩:=H.out.byte (k:=2) (by omega)
  cases hA1;cases hA2
  rw[Nat.add_zero] at k0
  by_cases g:x0≠65∨x1≠71∨x2=0
  ·have HF:Hid (qd6 bs=(0,[],0,3)):=hJ (by
    unfold qd6;rw[if_neg h3,if_pos]
    rw[HX0.out,HX1.out,HX2.out];simpa using g)
   by_cases g0:x0=65
   ·subst g0
    have k0':w.cell? (Pq b off)=some (.int .u8 65):=k0
    by_cases g1:x1=71
    ·subst g1
     have k1':w.cell? (Pq b (off+1))=some (.int .u8 71):=k1
     have g2:x2=0:=by simpa using g
     subst g2
     have k2':w.cell? (Pq b (off+2))=some (.int .u8 0):=k2
     clear k0 k1 k2 g;go_enter Tryz.func137,Tryz.ntmps137
     exact qfQ
    ·have hb:((x1.toNat:Int) != 71)=true:=qka (n:=71) g1
     clear k0 k2 g;go_enter Tryz.func137,Tryz.ntmps137
     exact qfQ
   ·have hb:((x0.toNat:Int) != 65)=true:=qka (n:=65) g0
    clear k1 k2 g;go_enter Tryz.func137,Tryz.ntmps137
    exact qfQ
  ·simp only[ne_eq,not_or,Classical.not_not] at g
   obtain⟨g0,g1,g2⟩:=g
   subst g0 g1
   have k0':w.cell? (Pq b off)=some (.int .u8 65):=k0
   have k1':w.cell? (Pq b (off+1))=some (.int .u8 71):=k1
   have hb2:((x2.toNat:Int) == 0)=false:=by
    have:=qka (n:=0) g2
    simpa using this
   clear k0 k1;have hsl3:∀W,(Instr.slice 29 (.slice (some (Pq b off)) bs.length c) (some (Jq 3)) none none).run Tryz.prog W=.ok (.slice (qcB (some (Pq b off)) 3 c 1) (bs.length - 3) (c - 3)) W:=fun W=>qmY.slice_l (some (Pq b off)) bs.length c 3 3 rfl (by omega) W
   have HR3:Hid (Row w (qcB (some (Pq b off)) 3 c 1) (qad (bs.drop 3))):=hJ (qcQ (Elem.row_from (qdH H.out) hc 3))
   have hlen3:(bs.drop 3).length=bs.length - 3:=List.length_drop
   have hin:=qfR (bs.drop 3) 16777216
   have HOP:Hid (∀d,qc9 (bs.drop 3) 16777216=d→qd6 bs=if d.2.2≠0 then (0,[],0,d.2.2) else if bs.length - (3+d.2.1)<d.1+4 then (0,[],0,2) else if le4 (qf5 (bs.take (3+d.2.1+d.1)))≠(bs.drop (3+d.2.1+d.1)).take 4 then (0,[],0,4) else ((x2.toNat:Int),(bs.take (3+d.2.1+d.1)).drop (3+d.2.1),3+d.2.1+d.1+4,0)):=hJ (by
    intro d hd
    subst hd
    unfold qd6
    rw[if_neg h3,if_neg (by rw[HX0.out,HX1.out,HX2.out];simpa using g2),HX2.out];rfl)
   obtain⟨⟨size,n,er⟩,hd⟩:∃r,qc9 (bs.drop 3) 16777216=r:=⟨_,rfl⟩
   have HD:=hJ hd
   have HO2:=hJ (HOP.out _ hd)
   rw[hd,hlen3] at hin
   clear hd HOP g2 HX0 HX1;simp only at hin
   obtain⟨hi1,hi2⟩:=hin
   by_cases he:er=0
   ·subst he
    have HO3:Hid (qd6 bs=if bs.length - (3+n)<size+4 then (0,[],0,2) else if le4 (qf5 (bs.take (3+n+size)))≠(bs.drop (3+n+size)).take 4 then (0,[],0,4) else ((x2.toNat:Int),(bs.take (3+n+size)).drop (3+n),3+n+size+4,0)):=hJ (by rw[HO2.out];simp only[ne_eq,not_true_eq_false,if_false])
    clear HO2;by_cases hs:bs.length - (3+n)<size+4
    ·have HF:Hid (qd6 bs=(0,[],0,2)):=hJ (by rw[HO3.out,if_pos hs])
     have hdd:decide ((bs.length:Int) - (3+(n:Int))<(size:Int)+4)=true:=by simp;omega
     clear HO3;go_enter Tryz.func137,Tryz.ntmps137
     go_wp2_with fail
     refine(qfH _ _ _ (bs.drop 3) 16777216 w HR3.out (by omega) (by omega) hlen3.symm).mono ?_
     rintro e w' ⟨rfl,rfl⟩
     rw[HD.out]
     unfold qiJ
     exact qfQ
    ·have hdd:decide ((bs.length:Int) - (3+(n:Int))<(size:Int)+4)=false:=by simp;omega
     have hsl1:∀W,(Instr.slice 29 (.slice (some (Pq b off)) bs.length c) none (some (Jq (3+(n:Int)+(size:Int)))) none).run Tryz.prog W=.ok (.slice (some (Pq b off)) (3+n+size) c) W:=fun W=>qmY.slice_h (some (Pq b off)) bs.length c (3+n+size) _ (by omega) (by omega) W
     have hsl2:∀W,(Instr.slice 29 (.slice (some (Pq b off)) bs.length c) (some (Jq (3+(n:Int)+(size:Int)))) (some (Jq (3+(n:Int)+(size:Int)+4))) none).run Tryz.prog W=.ok (.slice (qcB (some (Pq b off)) (3+n+size) c 1) 4 (c - (3+n+size))) W:=fun W=>by
      have:=qmY.slice_lh (some (Pq b off)) bs.length c (3+n+size) (3+n+size+4) (3+(n:Int)+(size:Int)) (3+(n:Int)+(size:Int)+4) (by omega) (by omega) (by omega) (by omega) W
      rw[show 3+n+size+4 - (3+n+size)=4 by omega] at this;exact this
     have hcv1:∀W,Row W (some (Pq b off)) (qad bs)→(convert 29 9 (.slice (qcB (some (Pq b off)) (3+n+size) c 1) 4 (c - (3+n+size)))).run Tryz.prog W=.ok (.string (qax ((bs.drop (3+n+size)).take 4))) W:=fun W hW=>
      qdJ _ _ (qcQ (by have:=Elem.row_sub (qdH hW) hc (3+n+size) (3+n+size+4);rw[List.drop_take,show 3+n+size+4 - (3+n+size)=4 by omega] at this;exact this)) (by rw[List.length_take,List.length_drop];omega)
     have hw4:IntKind.i64.wrap (3+(n:Int)+(size:Int)+4)=3+(n:Int)+(size:Int)+4:=IntWalk.i64_in _ (by omega)
     have hk2:∀W,Row W (some (Pq b off)) (qad bs)→W.cell? (Pq b (off+2))=some (.int .u8 (x2.toNat:Int)):=fun W hW=>by
      obtain⟨b3,off3,x3,hA3,k3,HX3⟩:=hW.byte (k:=2) (by omega)
      cases hA3
      have:=HX3.out.symm.trans HX2.out
      cases this;exact k3
     have hR2:Hid (Row w (qcB (some (Pq b off)) (3+n) c 1) (qad ((bs.take (3+n+size)).drop (3+n)))):=hJ (qcQ (Elem.row_sub (qdH H.out) hc (3+n) (3+n+size)))
     have hsl5:∀W,(Instr.slice 29 (.slice (some (Pq b off)) bs.length c) (some (Jq (3+(n:Int)))) (some (Jq (3+(n:Int)+(size:Int)))) none).run Tryz.prog W=.ok (.slice (qcB (some (Pq b off)) (3+n) c 1) size (c - (3+n))) W:=fun W=>by
      have:=qmY.slice_lh (some (Pq b off)) bs.length c (3+n) (3+n+size) (3+(n:Int)) (3+(n:Int)+(size:Int)) (by omega) (by omega) (by omega) (by omega) W
      rw[show 3+n+size - (3+n)=size by omega] at this;exact this
     have hR1:Hid (Row w.drew (some (Pq b off)) (qad (bs.take (3+n+size)))):=hJ ((qcQ (Elem.row_upto (qdH H.out) _)).ext Ext.drew1)
     go_enter Tryz.func137,Tryz.ntmps137
     go_wp2_with fail
     refine(qfH _ _ _ (bs.drop 3) 16777216 w HR3.out (by omega) (by omega) hlen3.symm).mono ?_
     rintro e w' ⟨rfl,rfl⟩
     rw[HD.out]
     unfold qiJ
     go_wp2;refine qac 13 (fun w'=>Row w' (some (Pq b off)) (qad bs)) (by kernel_rfl) (H.out.ext Ext.drew1) (fun hHeld=>?_)
     refine E_t 0 53 ?_;refine E_t 1 54 ?_;refine E_t 2 55 ?_;refine E_t 6 59 ?_;refine E_t 7 60 ?_;refine E_t 8 61 ?_;refine E_t 9 62 ?_;refine E_t 10 63 ?_;refine qjz 11 (oi:=⟨some 64,_,_,_,_,_⟩) (v:=?_) rfl (by kernel_rfl) (fun _ _ _ h=>h) (Or.inl ⟨by rfl,?_⟩) (by assumption) ?_
     rotate_left
     ·(intro w9 hSw;(try dsimp only at hSw);have hq:=hcv1 w9 hSw;go_simp<;>with_reducible rfl)
     try simp only[Act.put,aP1,aP2,aP3]
     refine E_r 3 (some 56) fun K hK=>?_
     go_simp;go_at_call 175;refine(qji (some (Pq b off)) c (3+n+size) (bs.take (3+n+size)) _ hR1.out (by rw[List.length_take];omega) (by rw[List.length_take];omega)).mono ?_
     rintro e1 w1 ⟨rfl,rfl⟩
     clear hHeld;refine hK.out _ _ (H.out.ext Ext.drew1) (fun hHeld=>?_)
     clear hK K;try simp only[Act.put,aP1,aP2,aP3]
     refine E_r 4 (some 57) fun K hK=>?_
     go_simp;go_at_call 174;refine(qld w.heap.size _ [] (qf5 (bs.take (3+n+size))) _ (Own.nil _ _ _) (by simp) (by simp)).mono ?_
     rintro e2 w2 ⟨v2,rfl,ho2,hg2⟩
     have X2:Hid (Ext w w2):=hJ (hg2.below Ext.drew1 (Nat.le_refl _) (fun k hk=>by simp[Value.ownBlock] at hk))
     obtain⟨A2,c2,rfl,h21,h22,HR2⟩:∃A c',v2=.slice A 4 c'∧4≤c'∧c'≤maxLen∧Hid (Row w2 A (qad (le4 (qf5 (bs.take (3+n+size)))))):=(by obtain⟨A,c',h1,h2,h3,h4⟩:=ho2.slice;exact⟨A,c',h1,h2,h3,hJ h4⟩)
     have hcv2:=qdJ c2 4 HR2.out rfl
     clear ho2 hg2;clear hHeld;refine hK.out _ _ (H.out.ext X2.out) (fun hHeld=>?_)
     clear hK K;try simp only[Act.put,aP1,aP2,aP3]
     refine E_r 5 (some 58) fun K hK=>?_
     go_simp;clear hHeld;refine hK.out _ _ (H.out.ext X2.out) (fun hHeld=>?_)
     clear hK K;try simp only[Act.put,aP1,aP2,aP3]
     refine E_r 12 (some 65) fun K hK=>?_
     go_simp;clear hHeld;refine hK.out _ _ (H.out.ext X2.out) (fun hHeld=>?_)
     clear hK K;try simp only[Act.put,aP1,aP2,aP3]
     refine qaE (by kernel_rfl) (by rfl) ?_
     simp only[Exit.then]
     go_at_K
     by_cases hck:le4 (qf5 (bs.take (3+n+size)))=(bs.drop (3+n+size)).take 4
     ·have hq:qax (le4 (qf5 (bs.take (3+n+size))))=qax ((bs.drop (3+n+size)).take 4):=by rw[hck]
      have hq1:(!((qax (le4 (qf5 (bs.take (3+n+size))))).toList == (qax ((bs.drop (3+n+size)).take 4)).toList))=false:=by rw[qdL,qdL];rw[qkd] at hq;simpa using hq
      clear hq;rw[hq1]
      clear hq1;have HF:Hid (qd6 bs=((x2.toNat:Int),(bs.take (3+n+size)).drop (3+n),3+n+size+4,0)):=hJ (by rw[HO3.out,if_neg hs,if_neg (by simpa using hck)])
      clear HO3 hck;have h2l:(2:Int)<(bs.length:Int):=by omega
      have hwx:IntKind.i64.wrap (x2.toNat:Int)=(x2.toNat:Int):=IntWalk.i64_in _ (by have:=x2.toNat_lt;omega)
      go_wp2;refine qac 15 (fun w'=>Row w' (some (Pq b off)) (qad bs)) (by kernel_rfl) (H.out.ext (X2.out.trans Ext.drew1)) (fun hHeld=>?_)
      refine E_t 0 66 ?_;refine E_t 1 67 ?_;refine qjz 2 (oi:=⟨some 68,_,_,_,_,_⟩) (v:=?_) rfl (by kernel_rfl) (fun _ _ _ h=>h) (Or.inl ⟨by rfl,?_⟩) (by assumption) ?_
      rotate_left
      ·(intro w9 hSw;(try dsimp only at hSw);have hq:=hk2 w9 hSw;go_simp<;>with_reducible rfl)
      try simp only[Act.put,aP1,aP2,aP3]
      refine E_t 3 69 ?_;refine E_t 4 70 ?_;refine E_t 5 71 ?_;refine E_t 6 72 ?_;refine E_t 7 73 ?_;refine E_t 9 75 ?_;refine E_t 10 76 ?_;refine E_r 8 (some 74) fun K hK=>?_
      go_simp;go_at_call 122;refine(qmi _ _ _ ((bs.take (3+n+size)).drop (3+n)) 0 _ (hR2.out.ext (X2.out.trans Ext.drew1)) (by rw[List.length_drop,List.length_take];omega) (by omega) (by rw[List.length_drop,List.length_take];omega)).mono ?_
      rintro e4 w4 ⟨A4,c4,rfl,h41,h42,ho4,hx4⟩
      have X4:Hid (Ext w w4):=hJ ((X2.out.trans Ext.drew1).trans hx4)
      have HO4:=hJ (ho4.base (B':=w.heap.size) X2.out.size)
      clear ho4 hx4;clear hHeld;refine hK.out _ _ (H.out.ext X4.out) (fun hHeld=>?_)
      clear hK K;try simp only[Act.put,aP1,aP2,aP3]
      refine E_t 11 2 ?_;refine E_t 12 3 ?_;refine E_t 13 4 ?_;refine E_t 14 5 ?_;refine qaE (by kernel_rfl) (by rfl) ?_
      simp only[Exit.then]
      go_at_K
      go_wp2;(try simp only[Exit.inBlock,Exit.then]);refine bodyPost_ret (qer rfl _ _ _) rfl ?_
      rw[HF.out]
      exact⟨A4,c4,by simp,h41,h42,HO4.out,X4.out⟩
     ·have hq:¬qax (le4 (qf5 (bs.take (3+n+size))))=qax ((bs.drop (3+n+size)).take 4):=by rw[qkd];exact hck
      have hq1:(!((qax (le4 (qf5 (bs.take (3+n+size))))).toList == (qax ((bs.drop (3+n+size)).take 4)).toList))=true:=by rw[qdL,qdL];rw[qkd] at hq;simpa using hq
      clear hq;rw[hq1]
      clear hq1;have HF:Hid (qd6 bs=(0,[],0,4)):=hJ (by rw[HO3.out,if_neg hs,if_pos hck])
      clear HO3 hck;go_wp2;(try simp only[Exit.inBlock,Exit.then]);refine bodyPost_ret (qer rfl _ _ _) rfl ?_
      exact qli _ HF.out X2.out
   ·have HF:Hid (qd6 bs=(0,[],0,er)):=hJ (by rw[HO2.out,if_pos he])
    have hb:(er != 0)=true:=by simpa using he
    clear HO2;go_enter Tryz.func137,Tryz.ntmps137
    go_wp2_with fail
    refine(qfH _ _ _ (bs.drop 3) 16777216 w HR3.out (by omega) (by omega) hlen3.symm).mono ?_
    rintro e w' ⟨rfl,rfl⟩
    rw[HD.out]
    unfold qiJ
    exact qfQ
end Go.Proofs.YtponbabbabnaeaaGreat
