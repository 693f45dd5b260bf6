/- Part 14 of the proof: contracts of functions that the statement reaches. Conditions: as each theorem says. -/
import Derived.Shelf.Sort.Plain
import Derived.Test.YtponbabbabnaeaaGreatProg
import Derived.Sort.OwnSortedInts
import Derived.Test.YtponbabbabnaeaaGreatQd13
import Derived.Test.YtponbabbabnaeaaGreatQd08
import Derived.Test.YtponbabbabnaeaaGreatQd01
set_option maxRecDepth 100000
namespace Go.Proofs.YtponbabbabnaeaaGreat
def qsw(l:List Int):Prop:=l.Pairwise (·<·)∧∀k∈l,0<k
theorem qnB{l:List Int}:(∀i k,l[i]?=some k→(if i=0 then 0 else (l[i - 1]?).getD 0)<k)↔qsw l:=by
 constructor
 ·intro h
  have h2:∀(j i:Nat) (hj:j<l.length) (hi:i<j),l[i]'(by omega)<l[j]:=by
   intro j
   induction j with
   | zero=>intro i hj hi;omega
   | succ j ih=>
    intro i hj hi
    have h3:=h (j+1) l[j+1] (List.getElem?_eq_getElem hj)
    rw[if_neg (by omega),Nat.add_sub_cancel,List.getElem?_eq_getElem (by omega)] at h3
    simp only[Option.getD_some] at h3
    by_cases he:i=j
    ·subst he;exact h3
    ·have:=ih i (by omega) (by omega);omega
  refine⟨List.pairwise_iff_getElem.2 (fun i j hi hj hij=>h2 j i hj hij),fun k hk=>?_⟩
  obtain⟨i,hi,rfl⟩:=List.mem_iff_getElem.1 hk
  have h0:=h 0 l[0] (List.getElem?_eq_getElem (by omega))
  rw[if_pos rfl] at h0
  by_cases he:i=0
  ·subst he;exact h0
  ·have:=h2 i 0 hi (by omega);omega
 ·rintro⟨h1,h2⟩ i k hk
  obtain⟨hi,rfl⟩:=List.getElem?_eq_some_iff.1 hk
  split
  ·exact h2 _ (List.getElem_mem hi)
  ·rw[List.getElem?_eq_getElem (by omega)]
   exact List.pairwise_iff_getElem.1 h1 (i - 1) i (by omega) hi (by omega)
theorem qgO{α:Type}(key:α→Int)(x:α):∀(l:List α),(l.map key).Pairwise (·<·)→
  (((l[(l.takeWhile fun y=>decide (key y<key x)).length]?).map key=some (key x)→((l.set (l.takeWhile fun y=>decide (key y<key x)).length x).map key).Pairwise (·<·))∧
   ((l[(l.takeWhile fun y=>decide (key y<key x)).length]?).map key≠some (key x)→((l.take (l.takeWhile fun y=>decide (key y<key x)).length++x::l.drop (l.takeWhile fun y=>decide (key y<key x)).length).map key).Pairwise (·<·)))
 | [],_=>by simp
 | y::l,h=>by
  have hl:(l.map key).Pairwise (·<·):=by simp only[List.map_cons,List.pairwise_cons] at h;exact h.2
  have hy:∀z∈l,key y<key z:=by
   simp only[List.map_cons,List.pairwise_cons,List.mem_map,forall_exists_index,and_imp,forall_apply_eq_imp_iff₂] at h
   exact h.1
  obtain⟨i1,i2⟩:=qgO key x l hl
  by_cases hlt:key y<key x
  ·simp only[List.takeWhile_cons,hlt,decide_true,if_true,List.length_cons,List.getElem?_cons_succ,List.set_cons_succ,List.take_succ_cons,List.drop_succ_cons,List.map_cons,List.cons_append,List.pairwise_cons]
   refine⟨fun he=>⟨fun a ha=>?_,i1 he⟩,fun he=>⟨fun a ha=>?_,i2 he⟩⟩
   ·obtain⟨z,hz,rfl⟩:=List.mem_map.1 ha
    rcases List.mem_or_eq_of_mem_set hz with hz|rfl
    ·exact hy z hz
    ·exact hlt
   ·obtain⟨z,hz,rfl⟩:=List.mem_map.1 ha
    rcases List.mem_append.1 hz with hz|hz
    ·exact hy z (List.mem_of_mem_take hz)
    ·rcases List.mem_cons.1 hz with rfl|hz
     ·exact hlt
     ·exact hy z (List.mem_of_mem_drop hz)
  ·simp only[List.takeWhile_cons,hlt,decide_false,Bool.false_eq_true,if_false,List.length_nil,List.getElem?_cons_zero,Option.map_some,Option.some.injEq,List.set_cons_zero,List.map_cons,List.take_zero,List.nil_append,List.drop_zero,List.pairwise_cons]
   refine⟨fun he=>⟨fun a ha=>?_,hl⟩,fun he=>⟨fun a ha=>?_,?_,hl⟩⟩
   ·obtain⟨z,hz,rfl⟩:=List.mem_map.1 ha
    rw[←he];exact hy z hz
   ·rcases List.mem_cons.1 ha with rfl|ha
    ·exact Int.lt_iff_le_and_ne.2 ⟨Int.not_lt.1 hlt,fun e=>he (congrArg some e.symm)⟩
    ·obtain⟨z,hz,rfl⟩:=List.mem_map.1 ha
     have:=hy z hz
     show key x<key z
     omega
   ·intro a ha
    obtain⟨z,hz,rfl⟩:=List.mem_map.1 ha
    exact hy z hz
theorem qfT{α:Type}{l:List α}{k:Nat}{x z:α}(h:z∈l.take k++x::l.drop k):z=x∨z∈l:=by
 rcases List.mem_append.1 h with h|h
 ·exact .inr (List.mem_of_mem_take h)
 ·rcases List.mem_cons.1 h with h|h
  ·exact .inl h
  ·exact .inr (List.mem_of_mem_drop h)
def qtR(s:St)(m:Int×Int):Prop:=m.1≠s.self∧qbr (qaf s.views).2 m.1=true∧0≤m.2∧m.2≤s.log.length
theorem qi0{s:St}:qca s=true↔(s.marks=[]∨(qaL s=true∧qaN s=true))∧(s.fls=[]∨(qaL s=false∧qaN s=true))∧(qsw (s.marks.map Prod.fst)∧∀m∈s.marks,qtR s m)∧(qsw (s.fls.map Prod.fst)∧∀f∈s.fls,qb2 f.1=true∧qbL s.views f=true):=by
 unfold qca
 simp only[Bool.and_eq_true,Bool.or_eq_true,decide_eq_true_eq,List.all_eq_true,List.mem_range,Bool.not_eq_true',List.length_eq_zero_iff]
 refine and_congr Iff.rfl (and_congr Iff.rfl (and_congr ?_ ?_))
 ·rw[←qnB]
  constructor
  ·intro h
   have h1:∀i m,s.marks[i]?=some m→qe2 s i m=true:=by
    intro i m hm
    have:=h i (List.getElem?_eq_some_iff.1 hm).1
    unfold qbo at this
    rw[hm] at this
    exact this
   refine⟨fun i k hk=>?_,fun m hm=>?_⟩
   ·rw[List.getElem?_map] at hk
    obtain⟨m,hm,rfl⟩:=Option.map_eq_some_iff.1 hk
    have:=h1 i m hm
    unfold qe2 qqV at this
    simp only[Bool.and_eq_true,decide_eq_true_eq] at this
    have h2:=this.1
    rw[List.getElem?_map]
    cases hx:s.marks[i - 1]? with
    | none=>rw[hx] at h2;simpa using h2
    | some y=>rw[hx] at h2;simpa using h2
   ·obtain⟨i,hi,rfl⟩:=List.mem_iff_getElem.1 hm
    have:=h1 i _ (List.getElem?_eq_getElem hi)
    unfold qe2 at this
    simp only[Bool.and_eq_true,decide_eq_true_eq] at this
    exact this.2
  ·rintro⟨h1,h2⟩ i hi
   unfold qbo
   rw[List.getElem?_eq_getElem hi]
   have h3:=h1 i (s.marks[i]).1 (by rw[List.getElem?_map,List.getElem?_eq_getElem hi];rfl)
   have h4:=h2 _ (List.getElem_mem hi)
   unfold qe2 qqV
   simp only[Bool.and_eq_true,decide_eq_true_eq]
   refine⟨?_,h4⟩
   rw[List.getElem?_map] at h3
   cases hx:s.marks[i - 1]? with
   | none=>rw[hx] at h3;simpa using h3
   | some y=>rw[hx] at h3;simpa using h3
 ·rw[←qnB]
  constructor
  ·intro h
   have h1:∀i m,s.fls[i]?=some m→qrj s i m=true:=by
    intro i m hm
    have:=h i (List.getElem?_eq_some_iff.1 hm).1
    unfold qdm at this
    rw[hm] at this
    exact this
   refine⟨fun i k hk=>?_,fun m hm=>?_⟩
   ·rw[List.getElem?_map] at hk
    obtain⟨m,hm,rfl⟩:=Option.map_eq_some_iff.1 hk
    have:=h1 i m hm
    unfold qrj qqv at this
    simp only[Bool.and_eq_true,decide_eq_true_eq] at this
    have h2:=this.1
    rw[List.getElem?_map]
    cases hx:s.fls[i - 1]? with
    | none=>rw[hx] at h2;simpa using h2
    | some y=>rw[hx] at h2;simpa using h2
   ·obtain⟨i,hi,rfl⟩:=List.mem_iff_getElem.1 hm
    have:=h1 i _ (List.getElem?_eq_getElem hi)
    unfold qrj at this
    simp only[Bool.and_eq_true,decide_eq_true_eq] at this
    exact this.2
  ·rintro⟨h1,h2⟩ i hi
   unfold qdm
   rw[List.getElem?_eq_getElem hi]
   have h3:=h1 i (s.fls[i]).1 (by rw[List.getElem?_map,List.getElem?_eq_getElem hi];rfl)
   have h4:=h2 _ (List.getElem_mem hi)
   unfold qrj qqv
   simp only[Bool.and_eq_true,decide_eq_true_eq]
   refine⟨?_,h4⟩
   rw[List.getElem?_map] at h3
   cases hx:s.fls[i - 1]? with
   | none=>rw[hx] at h3;simpa using h3
   | some y=>rw[hx] at h3;simpa using h3
structure VS(s:St):Prop where
 self:qb2 s.self=true
 vs:qaq s.views=true
 sent0:0≤s.sent
 sent:s.sent≤1099511627776
 based:qaX s.log s.base=true
 known:s.base = -1∨∃v,qaA s.views s.base=some v∧qbr v.2 s.self=true
 own:(qay s.log s.self:Int)≤s.sent
 st0:0≤s.stable
 st:s.stable≤s.log.length
 pl:s.pend.length≤32
 pd:(s.pend.length:Int)=s.sent - qay (s.log.take s.stable.toNat) s.self
 pp:∀p∈s.pend,p.length≤6000
 mk0:s.marks=[]∨(qaL s=true∧qaN s=true)
 fl0:s.fls=[]∨(qaL s=false∧qaN s=true)
 mka:qsw (s.marks.map Prod.fst)
 mks:∀m∈s.marks,qtR s m
 fla:qsw (s.fls.map Prod.fst)
 fls:∀f∈s.fls,qb2 f.1=true∧qbL s.views f=true
theorem qb1{s:St}:qbp s=true↔VS s:=by
 constructor
 ·intro h
  obtain⟨h1,h2,h3,h4,h5,h6,h7,h8,h9,h10,h11,h12,h13⟩:=qfx h
  obtain⟨k1,k2,⟨k3,k4⟩,k5,k6⟩:=qi0.1 h13
  exact⟨h1,h2,h3,h4,h5,h6,h7,h8,h9,h10,h11,h12,k1,k2,k3,k4,k5,k6⟩
 ·intro h
  unfold qbp
  simp only[Bool.and_eq_true,decide_eq_true_eq,Bool.or_eq_true,List.all_eq_true]
  refine⟨h.self,h.vs,h.sent0,h.sent,h.based,?_,h.own,h.st0,h.st,h.pl,h.pd,h.pp,qi0.2 ⟨h.mk0,h.fl0,⟨h.mka,h.mks⟩,h.fla,h.fls⟩⟩
  rcases h.known with hk|⟨v,hk,hv⟩
  ·exact .inl hk
  ·right;rw[hk];exact hv
theorem qsx{l:List Vw}(h:qaq l=true):∀i,i<l.length→(qbB l i).1=(qbB l 0).1+i:=by
 obtain⟨_,_,_,h4⟩:=qa7 h
 intro i
 induction i with
 | zero=>intro _;simp
 | succ i ih=>intro hi;have h5:=(qfV (h4 i (by omega))).2;have:=ih (by omega);rw[h5,this];push_cast;omega
theorem qdW{l:List Vw}{i:Nat}(h:i<l.length):qbB l i=l[i]:=by unfold qbB;rw[List.getElem?_eq_getElem h];rfl
theorem qo5{l:List Vw}(h:qaq l=true){i:Nat}(hi:i<l.length):qaA l (qbB l i).1=some (qbB l i):=by
 unfold qaA
 refine List.find?_eq_some_iff_getElem.2 ⟨by simp,i,hi,(qdW hi).symm,fun j hj=>?_⟩
 have h1:=qsx h i hi;have h2:=qsx h j (by omega)
 rw[qdW (by omega)] at h2
 simp;omega
theorem qeA{l:List Vw}(h:qaq l=true):qaA l (qaf l).1=some (qaf l):=qo5 h (by have:=(qa7 h).1;omega)
theorem VS.last{s:St}(h:VS s):qan (qaf s.views).1 (qaf s.views).2=true:=qf2 h.vs
theorem VS.open_base{s:St}(h:VS s)(ho:qaL s=true):s.base=(qaf s.views).1∧s.base≠-1:=by
 unfold qaL at ho
 simp only[decide_eq_true_eq] at ho
 have:=qa5 h.last
 exact⟨ho,by omega⟩
theorem VS.log{s:St}(h:VS s)(hb:s.base≠-1):0<s.log.length∧qaw s.log=true∧qb9 s.log=s.base:=by
 have:=h.based
 unfold qaX at this
 rw[if_neg hb] at this
 simp only[Bool.and_eq_true,decide_eq_true_eq] at this
 exact this
theorem VS.lead_has{s:St}(h:VS s)(hl:qaN s=true):qbr (qaf s.views).2 s.self=true:=by
 unfold qaN qbl at hl
 rw[if_pos h.last] at hl
 simp only[decide_eq_true_eq] at hl
 have h1:=(qaH h.last).1
 rw[List.getElem?_eq_getElem (by omega)] at hl
 rw[qb4,←hl]
 exact List.getElem_mem _
theorem qew{l:List Ent}{b:Int}(h0:0<l.length)(hv:qaw l=true)(hb:qb9 l=b)(hn:b≠-1):qaX l b=true:=by
 unfold qaX
 rw[if_neg hn,hv,hb]
 simp[h0]
theorem VS.extend{s:St}(h:VS s){ex:List Ent}(hb:qaX (s.log++ex) s.base=true)(ho:(qay (s.log++ex) s.self:Int)≤s.sent):VS {s with log:=s.log++ex}:=by
 have h1:=h.st;have h0:=h.st0
 refine⟨h.self,h.vs,h.sent0,h.sent,hb,h.known,ho,h.st0,by simp;omega,h.pl,?_,h.pp,h.mk0,h.fl0,h.mka,fun m hm=>?_,h.fla,h.fls⟩
 ·show (s.pend.length:Int)=s.sent - qay ((s.log++ex).take s.stable.toNat) s.self
  rw[List.take_append_of_le_length (by omega)];exact h.pd
 ·obtain⟨m1,m2,m3,m4⟩:=h.mks m hm
  exact⟨m1,m2,m3,by simp;omega⟩
theorem VS.raise{s:St}(h:VS s){n:Int}(hn:s.stable<n)(hl:n≤s.log.length):VS {s with pend:=s.pend.drop (qay (qdC s.log s.stable n) s.self),stable:=n}:=by
 have h1:=h.st;have h0:=h.st0;have hd:=h.pd;have hp:=h.pl;have ho:=h.own
 have e1:s.log.take n.toNat=s.log.take s.stable.toNat++qdC s.log s.stable n:=by
  unfold qdC
  rw[show s.log.take s.stable.toNat=(s.log.take n.toNat).take s.stable.toNat by rw[List.take_take,Nat.min_eq_left (by omega)],List.take_append_drop]
 have e2:qay (s.log.take n.toNat) s.self=qay (s.log.take s.stable.toNat) s.self+qay (qdC s.log s.stable n) s.self:=by rw[e1,qeu]
 have e3:=qco s.log n.toNat s.self
 refine⟨h.self,h.vs,h.sent0,h.sent,h.based,h.known,h.own,by show 0≤n;omega,hl,?_,?_,fun p hp=>h.pp p (List.mem_of_mem_drop hp),h.mk0,h.fl0,h.mka,h.mks,h.fla,h.fls⟩
 ·simp only[List.length_drop];omega
 ·show ((s.pend.drop (qay (qdC s.log s.stable n) s.self)).length:Int)=s.sent - qay (s.log.take n.toNat) s.self
  rw[List.length_drop];omega
theorem VS.relog{s:St}(h:VS s){l:List Ent}(hm:s.marks=[])(hb:qaX l (qaf s.views).1=true)(hs:qbr (qaf s.views).2 s.self=true)(hp:qht l (s.log.take s.stable.toNat)=true)(ho:(qay l s.self:Int)≤s.sent) :
  VS {s with base:=(qaf s.views).1,log:=l,fls:=[]}∧l.take s.stable.toNat=s.log.take s.stable.toNat:=by
 have h1:=h.st;have h0:=h.st0
 unfold qht at hp
 simp only[Bool.and_eq_true,decide_eq_true_eq,List.length_take] at hp
 have e:l.take s.stable.toNat=s.log.take s.stable.toNat:=by
  have:=hp.2
  rwa [Nat.min_eq_left (by omega)] at this
 refine⟨⟨h.self,h.vs,h.sent0,h.sent,hb,.inr ⟨_,qeA h.vs,hs⟩,ho,h.st0,?_,h.pl,?_,h.pp,.inl hm,.inl rfl,h.mka,fun m hm'=>?_,⟨List.Pairwise.nil,fun k hk=>by cases hk⟩,fun f hf=>by cases hf⟩,e⟩
 ·show s.stable≤(l.length:Int)
  have:=hp.1;omega
 ·show (s.pend.length:Int)=s.sent - qay (l.take s.stable.toNat) s.self
  rw[e];exact h.pd
 ·have:m∈s.marks:=hm'
  rw[hm] at this;cases this
end Go.Proofs.YtponbabbabnaeaaGreat
namespace Go.Proofs
open Go.Shelf
def Tryz.lays189_ren:Go.Shelf.Ren:=⟨fun|189=>170|125=>201|257=>200|128=>221|129=>222|294=>212|295=>213|296=>214|297=>215|298=>216|299=>217|216=>218|300=>219|301=>220|328=>226|329=>227|330=>228|331=>229|332=>230|215=>231|343=>234|n=>n,fun|28=>44|3=>3|46=>61|0=>0|51=>202|53=>146|4=>4|183=>231|182=>230|131=>156|5=>5|9=>9|218=>239|222=>243|228=>247|229=>182|n=>n,fun|n=>n⟩
theorem Tryz.lays189:Go.Proofs.Lays.n189 Tryz.prog Tryz.lays189_ren:={
 mixed:=by kernel_rfl
 f125:=Tryz.func201.trans (congrArg some (by kernel_rfl))
 f128:=Tryz.func221.trans (congrArg some (by kernel_rfl))
 f129:=Tryz.func222.trans (congrArg some (by kernel_rfl))
 f189:=Tryz.func170.trans (congrArg some (by kernel_rfl))
 f215:=Tryz.func231.trans (congrArg some (by kernel_rfl))
 f216:=Tryz.func218.trans (congrArg some (by kernel_rfl))
 f257:=Tryz.func200.trans (congrArg some (by kernel_rfl))
 f294:=Tryz.func212.trans (congrArg some (by kernel_rfl))
 f295:=Tryz.func213.trans (congrArg some (by kernel_rfl))
 f296:=Tryz.func214.trans (congrArg some (by kernel_rfl))
 f297:=Tryz.func215.trans (congrArg some (by kernel_rfl))
 f298:=Tryz.func216.trans (congrArg some (by kernel_rfl))
 f299:=Tryz.func217.trans (congrArg some (by kernel_rfl))
 f300:=Tryz.func219.trans (congrArg some (by kernel_rfl))
 f301:=Tryz.func220.trans (congrArg some (by kernel_rfl))
 f328:=Tryz.func226.trans (congrArg some (by kernel_rfl))
 f329:=Tryz.func227.trans (congrArg some (by kernel_rfl))
 f330:=Tryz.func228.trans (congrArg some (by kernel_rfl))
 f331:=Tryz.func229.trans (congrArg some (by kernel_rfl))
 f332:=Tryz.func230.trans (congrArg some (by kernel_rfl))
 f343:=Tryz.func234.trans (congrArg some (by kernel_rfl))
 t0:=Tryz.underlying0
 a0:=Tryz.isAgg0
 z0:=Tryz.sizeOf0
 v0:=Tryz.zeroValue0
 t3:=Tryz.underlying3
 a3:=Tryz.isAgg3
 z3:=Tryz.sizeOf3
 v3:=Tryz.zeroValue3
 t4:=Tryz.underlying4
 a4:=Tryz.isAgg4
 z4:=Tryz.sizeOf4
 v4:=Tryz.zeroValue4
 t5:=Tryz.underlying5
 a5:=Tryz.isAgg5
 z5:=Tryz.sizeOf5
 v5:=Tryz.zeroValue5
 t9:=Tryz.underlying9
 a9:=Tryz.isAgg9
 z9:=Tryz.sizeOf9
 v9:=Tryz.zeroValue9
 t28:=Tryz.underlying44
 a28:=Tryz.isAgg44
 z28:=Tryz.sizeOf44
 v28:=Tryz.zeroValue44
 t46:=Tryz.underlying61
 a46:=Tryz.isAgg61
 z46:=Tryz.sizeOf61
 v46:=Tryz.zeroValue61
 t51:=Tryz.underlying202
 a51:=Tryz.isAgg202
 z51:=Tryz.sizeOf202
 v51:=Tryz.zeroValue202
 t53:=Tryz.underlying146
 a53:=Tryz.isAgg146
 z53:=Tryz.sizeOf146
 v53:=Tryz.zeroValue146
 t131:=Tryz.underlying156
 a131:=Tryz.isAgg156
 z131:=Tryz.sizeOf156
 v131:=Tryz.zeroValue156
 t182:=Tryz.underlying230
 a182:=Tryz.isAgg230
 z182:=Tryz.sizeOf230
 v182:=Tryz.zeroValue230
 t183:=Tryz.underlying231
 a183:=Tryz.isAgg231
 z183:=Tryz.sizeOf231
 v183:=Tryz.zeroValue231
 t218:=Tryz.underlying239
 a218:=Tryz.isAgg239
 z218:=Tryz.sizeOf239
 v218:=Tryz.zeroValue239
 t222:=Tryz.underlying243
 a222:=Tryz.isAgg243
 z222:=Tryz.sizeOf243
 v222:=Tryz.zeroValue243
 t228:=Tryz.underlying247
 a228:=Tryz.isAgg247
 z228:=Tryz.sizeOf247
 v228:=Tryz.zeroValue247
 t229:=Tryz.underlying182
 a229:=Tryz.isAgg182
 z229:=Tryz.sizeOf182
 v229:=Tryz.zeroValue182}
end Go.Proofs
namespace Go.Proofs.YtponbabbabnaeaaGreat
open Go.RowKit Go.Sort
theorem qiW(x:Int)(l:List Int):(qsz x l).Perm (x::l):=by
 induction l with
 | nil=>exact List.Perm.refl _
 | cons y l ih=>
  unfold qsz
  split
  ·exact List.Perm.refl _
  ·exact(List.Perm.cons y ih).trans (List.Perm.swap x y l)
theorem qcR(l:List Int):(qel l).Perm l:=by
 induction l with
 | nil=>exact List.Perm.refl _
 | cons x l ih=>exact(qiW x _).trans (List.Perm.cons x ih)
theorem qkD(x:Int)(l:List Int)(h:l.Pairwise (·≤·)):(qsz x l).Pairwise (·≤·):=by
 induction l with
 | nil=>exact List.pairwise_singleton _ _
 | cons y l ih=>
  unfold qsz
  rw[List.pairwise_cons] at h
  split
  ·next hxy=>
   rw[List.pairwise_cons,List.pairwise_cons]
   refine⟨fun z hz=>?_,h⟩
   rcases List.mem_cons.1 hz with rfl|hz
   ·exact hxy
   ·exact Int.le_trans hxy (h.1 z hz)
  ·next hxy=>
   rw[List.pairwise_cons]
   refine⟨fun z hz=>?_,ih h.2⟩
   rcases List.mem_cons.1 ((qiW x l).mem_iff.1 hz) with rfl|hz
   ·omega
   ·exact h.1 z hz
theorem qf0(l:List Int):(qel l).Pairwise (·≤·):=by
 induction l with
 | nil=>exact List.Pairwise.nil
 | cons x l ih=>exact qkD x _ ih
theorem qiE:∀(a b:List Int),a.Perm b→a.Pairwise (·≤·)→b.Pairwise (·≤·)→a=b:=by
 intro a
 induction a with
 | nil=>intro b h _ _;exact h.nil_eq
 | cons x a ih=>
  intro b h ha hb
  match b,h,hb with
  | [],h,_=>exact absurd h.length_eq (by simp)
  | y::b,h,hb=>
   rw[List.pairwise_cons] at ha hb
   have hxy:x=y:=by
    have h1:x∈y::b:=h.mem_iff.1 (List.mem_cons_self ..)
    have h2:y∈x::a:=h.mem_iff.2 (List.mem_cons_self ..)
    rcases List.mem_cons.1 h1 with h1|h1
    ·exact h1
    ·rcases List.mem_cons.1 h2 with h2|h2
     ·exact h2.symm
     ·have:=hb.1 x h1;have:=ha.1 y h2;omega
   subst hxy
   rw[ih b ((List.perm_cons x).1 h) ha.2 hb.2]
theorem qpZ(l:List Int):l.mergeSort (fun x y=>decide (x≤y))=qel l:=by
 refine qiE _ _ ((List.mergeSort_perm l _).trans (qcR l).symm) ?_ (qf0 l)
 have:=List.pairwise_mergeSort (le:=fun x y:Int=>decide (x≤y)) (fun a b c h1 h2=>by simp at *;omega) (fun a b=>by simp;omega) l
 exact this.imp (fun h=>by simpa using h)
theorem qfp(l:List Int):(qel l).length=l.length:=(qcR l).length_eq
theorem qqf(g cap B:Nat)(zs:List Int)(w:World)(ho:Own w B 3 (.slice (some (Pq g 0)) zs.length cap) (qam zs))(hl:zs.length≤1000000) :
  Calls Tryz.prog 170 #[.slice (some (Pq g 0)) zs.length cap] w fun e w'=>e=.returned (.tuple #[])∧Own w' B 3 (.slice (some (Pq g 0)) zs.length cap) (qam (qel zs))∧Grew w w' (.slice (some (Pq g 0)) zs.length cap):=by
 obtain⟨h0,h2⟩:=ho
 rcases h2 with ⟨h2,_⟩|⟨g',cap',cur,hv,h3,hh,h4,h5,h6,h7⟩
 ·cases h2
 ·simp only[Value.slice.injEq,Option.some.injEq,Addr.mk.injEq,and_true,qam,List.length_map] at hv
  obtain⟨rfl,_,rfl⟩:=hv
  have hil:(qam zs).length=zs.length:=by simp[qam]
  rw[hil] at h4 h7
  have hc:=Any.slices_Sort_int Tryz.lays189 g 0 cap zs w (holds_of_blockI hh (by rw[Nat.mul_one] at h7;exact h7)) (Array.getElem?_eq_some_iff.1 hh).1 (by omega)
  refine Calls.mono hc ?_
  rintro e w' ⟨rfl,n,os,rfl⟩
  rw[qpZ]
  refine⟨rfl,?_,grownBy_sortedI _⟩
  have:=ownsRow_sortedI (w:=w) (base:=B) (g:=g) (cap:=cap) (n:=n) (os:=os) (ss:=zs) (ts:=qel zs) (qfp zs) h3 hh (by simpa using h4) h5 (by simpa using h6)
  unfold Own
  have e1:(qam (qel zs)).length=zs.length:=by simp[qam,qfp]
  rw[e1]
  simpa[qam] using this
end Go.Proofs.YtponbabbabnaeaaGreat
namespace Go.Proofs.YtponbabbabnaeaaGreat
structure Grown(s t:St)(l:List Ent):Prop where
 st:t.stable=s.stable+l.length
 cut:qdC t.log s.stable t.stable=l
 pre:t.log.take s.stable.toNat=s.log.take s.stable.toNat
structure Good(s:St)(c:Cs):Prop where
 vs:VS c.s
 gr:Grown s c.s c.dl
 z:0≤s.stable
theorem qnU(l:List Ent)(n:Int):qdC l n n=[]:=by unfold qdC;simp
theorem Grown.same{s t:St}(h1:t.stable=s.stable)(h2:t.log.take s.stable.toNat=s.log.take s.stable.toNat):Grown s t []:=⟨by simp[h1],by rw[h1];exact qnU _ _,h2⟩
theorem Good.begin{s:St}(h:VS s)(pk:List (Int×List UInt8)):Good s ⟨s,pk,[]⟩:=⟨h,Grown.same rfl rfl,h.st0⟩
theorem Good.le{s:St}{c:Cs}(g:Good s c):s.stable≤c.s.stable:=by have:=g.gr.st;omega
theorem Good.extend{s:St}{c:Cs}(g:Good s c){ex:List Ent}(hb:qaX (c.s.log++ex) c.s.base=true)(ho:(qay (c.s.log++ex) c.s.self:Int)≤c.s.sent):Good s {c with s:={c.s with log:=c.s.log++ex}}:=by
 have h1:=g.vs.st;have h0:=g.vs.st0;have hle:=g.le;have hz:=g.z
 refine⟨g.vs.extend hb ho,⟨g.gr.st,?_,?_⟩,g.z⟩
 ·show qdC (c.s.log++ex) s.stable c.s.stable=c.dl
  rw[←g.gr.cut]
  unfold qdC
  rw[List.take_append_of_le_length (by omega)]
 ·show (c.s.log++ex).take s.stable.toNat=_
  rw[List.take_append_of_le_length (by omega)];exact g.gr.pre
theorem Good.raise{s:St}{c:Cs}(g:Good s c){n:Int}(hl:n≤c.s.log.length):Good s (raiseF c n):=by
 unfold raiseF
 split
 ·exact g
 ·next hn=>
  have h1:=g.vs.st;have h0:=g.vs.st0;have hle:=g.le;have hz:=g.z;have hst:=g.gr.st
  have e1:c.s.log.take n.toNat=c.s.log.take c.s.stable.toNat++qdC c.s.log c.s.stable n:=by
   unfold qdC
   rw[show c.s.log.take c.s.stable.toNat=(c.s.log.take n.toNat).take c.s.stable.toNat by rw[List.take_take,Nat.min_eq_left (by omega)],List.take_append_drop]
  refine⟨g.vs.raise (by omega) hl,⟨?_,?_,g.gr.pre⟩,g.z⟩
  ·show n=s.stable+((c.dl++qdC c.s.log c.s.stable n).length:Nat)
   have:(qdC c.s.log c.s.stable n).length=n.toNat - c.s.stable.toNat:=by unfold qdC;simp;omega
   rw[List.length_append,this];omega
  ·show qdC c.s.log s.stable n=c.dl++qdC c.s.log c.s.stable n
   rw[←g.gr.cut]
   rw[show qdC c.s.log s.stable n=(c.s.log.take n.toNat).drop s.stable.toNat from rfl,e1,List.drop_append_of_le_length (by simp;omega)]
   rfl
theorem Good.take{s:St}{c:Cs}(g:Good s c)(ho:qaL c.s=true):Good s {c with s:=qbY c.s}:=by
 obtain⟨_,hb⟩:=g.vs.open_base ho
 obtain⟨b1,b2,b3⟩:=g.vs.log hb
 have hl:=(qe3 b2).1
 have hk:c.s.log.length+qbQ c.s≤2000:=by unfold qbQ;omega
 obtain⟨t1,t2⟩:=qjW b2 b1 b3 g.vs.self g.vs.pp (qbQ c.s) hk
 have hn:=qcn c.s (qbQ c.s)
 refine g.extend (ex:=(List.range (qbQ c.s)).map fun i:Nat=>⟨c.s.base,c.s.self,qay c.s.log c.s.self+1+i,qcc c.s (qay c.s.log c.s.self+1+i)⟩) (qew ?_ t1 t2 hb) ?_
 ·simp;omega
 ·show (qay (qa0 c.s (qbQ c.s)) c.s.self:Int)≤c.s.sent
  have:=g.vs.own
  rw[qdv];unfold qbQ;omega
theorem Good.announce{s:St}{c:Cs}(g:Good s c):Good s (qap c):=by
 unfold qap
 split
 ·exact g
 ·refine g.raise ?_
  cases hx:(qel (qcV c.s))[(((qcV c.s).length:Int) - qgI (qaf c.s.views).2.length).toNat]? with
  | none=>simp
  | some y=>
   have h1:y∈qcV c.s:=(qcR _).mem_iff.1 (List.mem_of_getElem? hx)
   unfold qcV at h1
   rcases List.mem_cons.1 h1 with rfl|h1
   ·simp
   ·obtain⟨m,hm,rfl⟩:=List.mem_map.1 h1
    exact(g.vs.mks m hm).2.2.2
theorem Good.send{s:St}{c c':Cs}(g:Good s c)(h1:c'.s=c.s)(h2:c'.dl=c.dl):Good s c':=⟨h1▸g.vs,by rw[h1,h2];exact g.gr,g.z⟩
theorem VS.put{s:St}(h:VS s){f:Fls}(ho:qaL s=false)(hl:qaN s=true)(hi:qb2 f.1=true)(hp:qbL s.views f=true):VS {s with fls:=putF s.fls f}:=by
 have hi':0<f.1:=by unfold qb2 at hi;simp at hi;omega
 have key:(putF s.fls f).map Prod.fst |>.Pairwise (·<·):=by
  obtain⟨k1,k2⟩:=qgO (fun g:Fls=>g.1) f s.fls h.fla.1
  unfold putF qgX
  split
  ·next he=>exact k1 he
  ·next he=>exact k2 he
 have mem:∀g∈putF s.fls f,g=f∨g∈s.fls:=by
  intro g hg
  unfold putF at hg
  split at hg
  ·rcases List.mem_or_eq_of_mem_set hg with hg|hg
   ·exact .inr hg
   ·exact .inl hg
  ·exact qfT hg
 refine⟨h.self,h.vs,h.sent0,h.sent,h.based,h.known,h.own,h.st0,h.st,h.pl,h.pd,h.pp,h.mk0,.inr ⟨ho,hl⟩,h.mka,h.mks,⟨key,fun k hk=>?_⟩,fun g hg=>?_⟩
 ·obtain⟨g,hg,rfl⟩:=List.mem_map.1 hk
  rcases mem g hg with rfl|hg
  ·exact hi'
  ·exact h.fla.2 _ (List.mem_map.2 ⟨g,hg,rfl⟩)
 ·rcases mem g hg with rfl|hg
  ·exact⟨hi,hp⟩
  ·exact h.fls g hg
theorem VS.ack{s:St}(h:VS s){fr n:Int}(ho:qaL s=true)(hl:qaN s=true)(hne:fr≠s.self)(hm:qbr (qaf s.views).2 fr=true)(hn0:0≤n)(hn:n≤s.log.length):VS {s with marks:=qhj s.marks fr n}:=by
 have hf0:0<fr:=((qcl (m:=16)).1 (qbA h.last)).2.2.2 fr (qb4.1 hm) |>.1
 have mem:∀x∈qhj s.marks fr n,x∈s.marks∨(x.1=fr∧(x.2=max 0 n∨∃y∈s.marks,x.2=max y.2 n)):=by
  intro x hx
  unfold qhj at hx
  split at hx
  ·next a b hab=>
   split at hx
   ·next he=>
    rcases List.mem_or_eq_of_mem_set hx with hx|rfl
    ·exact .inl hx
    ·exact .inr ⟨he,.inr ⟨(a,b),List.mem_of_getElem? hab,rfl⟩⟩
   ·rcases qfT hx with rfl|hx
    ·exact .inr ⟨rfl,.inl rfl⟩
    ·exact .inl hx
  ·rcases List.mem_append.1 hx with hx|hx
   ·exact .inl hx
   ·simp only[List.mem_cons,List.not_mem_nil,or_false] at hx
    subst hx
    exact .inr ⟨rfl,.inl rfl⟩
 have key:((qhj s.marks fr n).map Prod.fst).Pairwise (·<·):=by
  unfold qhj
  split
  ·next a b hab=>
   split
   ·next he=>
    subst he
    obtain⟨k1,_⟩:=qgO (fun g:Int×Int=>g.1) (a,max b n) s.marks h.mka.1
    exact k1 (by show (s.marks[qeG s.marks a]?).map _=_;rw[hab];rfl)
   ·next he=>
    obtain⟨_,k2⟩:=qgO (fun g:Int×Int=>g.1) (fr,max 0 n) s.marks h.mka.1
    exact k2 (by show (s.marks[qeG s.marks fr]?).map _≠_;rw[hab];simpa using he)
  ·next hno=>
   obtain⟨_,k2⟩:=qgO (fun g:Int×Int=>g.1) (fr,max 0 n) s.marks h.mka.1
   have hle:s.marks.length≤qeG s.marks fr:=by
    rcases Nat.lt_or_ge (qeG s.marks fr) s.marks.length with hlt|hge
    ·rw[List.getElem?_eq_getElem hlt] at hno;cases hno
    ·exact hge
   have:=k2 (by show (s.marks[qeG s.marks fr]?).map _≠_;rw[List.getElem?_eq_none hle];simp)
   have e:∀k,s.marks.length≤k→s.marks.take k++(fr,max 0 n)::s.marks.drop k=s.marks++[(fr,max 0 n)]:=fun k hk=>by rw[List.take_of_length_le hk,List.drop_of_length_le hk]
   rw[show (s.marks.take (s.marks.takeWhile fun y=>decide (y.1<(fr,max 0 n).1)).length++(fr,max 0 n)::s.marks.drop (s.marks.takeWhile fun y=>decide (y.1<(fr,max 0 n).1)).length)=s.marks++[(fr,max 0 n)] from e _ hle] at this
   exact this
 refine⟨h.self,h.vs,h.sent0,h.sent,h.based,h.known,h.own,h.st0,h.st,h.pl,h.pd,h.pp,.inr ⟨ho,hl⟩,h.fl0,⟨key,fun k hk=>?_⟩,fun x hx=>?_,h.fla,h.fls⟩
 ·obtain⟨x,hx,rfl⟩:=List.mem_map.1 hk
  rcases mem x hx with hx|⟨he,_⟩
  ·exact h.mka.2 _ (List.mem_map.2 ⟨x,hx,rfl⟩)
  ·rw[he];exact hf0
 ·rcases mem x hx with hx|⟨he,h2⟩
  ·exact h.mks x hx
  ·refine⟨by rw[he];exact hne,by rw[he];exact hm,?_,?_⟩
   ·rcases h2 with h2|⟨y,hy,h2⟩<;>rw[h2]<;>omega
   ·show x.2≤(s.log.length:Int)
    rcases h2 with h2|⟨y,hy,h2⟩
    ·rw[h2];omega
    ·have:=(h.mks y hy).2.2.2;rw[h2];omega
theorem qen(base:Int):∀(l:List Fls) (out:List Ent),(l.foldl (fun out f=>if f.2.1=base∧out.length<f.2.2.length then f.2.2 else out) out)=out∨∃f∈l,f.2.1=base∧(l.foldl (fun out f=>if f.2.1=base∧out.length<f.2.2.length then f.2.2 else out) out)=f.2.2
 | [],out=>.inl rfl
 | f::l,out=>by
  simp only[List.foldl_cons]
  by_cases hc:f.2.1=base∧out.length<f.2.2.length
  ·rw[if_pos hc]
   rcases qen base l f.2.2 with h|⟨g,hg,h⟩
   ·exact .inr ⟨f,by simp,hc.1,h⟩
   ·exact .inr ⟨g,by simp[hg],h⟩
  ·rw[if_neg hc]
   rcases qen base l out with h|⟨g,hg,h⟩
   ·exact .inl h
   ·exact .inr ⟨g,by simp[hg],h⟩
theorem qfI{n:Int}{xs:List Int}(h:qan n xs=true):qcg (qab n xs)=true:=by
 unfold qcg
 have:(qab n xs).p=qoJ n xs:=rfl
 rw[this,qpd h]
 simp
theorem qjB{l:List Ent}{n:Int}{xs:List Int}(hl:qaw l=true)(hlen:l.length<2000)(hn:qan n xs=true)(hlt:l=[]∨qb9 l<n):qaw (l++[qab n xs])=true∧qb9 (l++[qab n xs])=n:=by
 refine⟨qjh hl hlen ?_,by unfold qb9;simp[qab]⟩
 unfold qdN
 rcases hlt with rfl|hlt
 ·rw[if_pos (.inl rfl)]
  simp[qfI hn]
 ·rcases Nat.eq_zero_or_pos l.length with h0|h0
  ·rw[if_pos (.inl h0)]
   simp[qfI hn,h0]
  ·have hp:qgi (l++[qab n xs]) l.length=qb9 l:=by
    rw[qhc (Nat.le_refl _) h0];rfl
   have hv:(qab n xs).v=n:=rfl
   rw[hp,hv,if_pos (.inr (by omega)),qfI hn]
   simp;omega
theorem VS.install{s:St}(h:VS s)(ho:qaL s=false)(hl:qaN s=true):VS (qaZ s)∧Grown s (qaZ s) []:=by
 unfold qaZ
 split
 ·exact⟨h,Grown.same rfl rfl⟩
 ·next h1=>
  split
  ·exact⟨h,Grown.same rfl rfl⟩
  ·split
   ·exact⟨h,Grown.same rfl rfl⟩
   ·next h3=>
    have hm:s.marks=[]:=by
     rcases h.mk0 with hm|⟨hm,_⟩
     ·exact hm
     ·rw[ho] at hm;cases hm
    have h3':qgM s (qaW s.fls (qaF s.fls))=true:=by simpa using h3
    unfold qgM at h3'
    simp only[Bool.and_eq_true,decide_eq_true_eq] at h3'
    obtain⟨f1,f2,f3⟩:=h3'
    have hch:qaw (qaW s.fls (qaF s.fls))=true∧(qaW s.fls (qaF s.fls)=[]∨qb9 (qaW s.fls (qaF s.fls))<(qaf s.views).1):=by
     rcases qen (qaF s.fls) s.fls [] with hc|⟨f,hf,hb,hc⟩
     ·have:qaW s.fls (qaF s.fls)=[]:=hc
      rw[this];exact⟨by decide,.inl rfl⟩
     ·have:qaW s.fls (qaF s.fls)=f.2.2:=hc
      rw[this]
      have hp:=(h.fls f hf).2
      have hbn:f.2.1≠-1:=by
       intro e;rw[e] at hb;exact h1 (.inr hb.symm)
      unfold qbL qaX at hp
      rw[if_neg hbn,if_neg hbn] at hp
      simp only[Bool.and_eq_true,decide_eq_true_eq] at hp
      obtain⟨p1,p2,p3,p4⟩:=hp
      refine⟨p3,.inr ?_⟩
      rw[p4]
      cases hk:qaA s.views f.2.1 with
      | none=>rw[hk] at p1;cases p1
      | some v=>rw[hk] at p1;simp only[Bool.and_eq_true,decide_eq_true_eq] at p1;exact p1.1
    obtain⟨v1,v2⟩:=qjB hch.1 f1 h.last hch.2
    have hn:=qa5 h.last
    obtain⟨k1,k2⟩:=h.relog hm (qew (by simp) v1 v2 (by omega)) (h.lead_has hl) (l:=qaW s.fls (qaF s.fls)++[qab (qaf s.views).1 (qaf s.views).2]) (by
     unfold qht at f2⊢
     simp only[Bool.and_eq_true,decide_eq_true_eq] at f2⊢
     refine⟨by simp only[List.length_append];omega,?_⟩
     rw[List.take_append_of_le_length f2.1];exact f2.2) (by
     rw[qeu]
     have hs:=h.self
     unfold qb2 at hs
     simp at hs
     have:qay [qab (qaf s.views).1 (qaf s.views).2] s.self=0:=by
      simp[qay,qab];omega
     rw[this];exact f3)
    exact⟨k1,Grown.same rfl k2⟩
theorem qg5{s:St}(h:VS s):Good s (qbM s):=by
 unfold qbM
 rw[if_neg (by rw[qb1.2 h];simp)]
 unfold qeo
 cases ho:qaL s with
 | true=>
  simp only[if_true]
  cases hl:qaN s with
  | true=>
   simp only[if_true]
   unfold qhm
   simp only
   have g:=((Good.begin h []).take ho).announce
   obtain⟨k1,k2,_⟩:=qcP (qaf (qap {(⟨s,[],[]⟩:Cs) with s:=qbY s}).s.views).2 (qap {(⟨s,[],[]⟩:Cs) with s:=qbY s})
   exact g.send k1 k2
  | false=>
   simp only[Bool.false_eq_true,if_false]
   unfold qdu
   obtain⟨k1,k2⟩:=qe0 (List.range (qdz s)) (qb3 ⟨s,[],[]⟩ (qbl (qaf s.views)) 13 (qav [s.base,s.log.length]))
   exact(Good.begin h []).send k1 k2
 | false=>
  simp only[Bool.false_eq_true,if_false]
  cases hl:qaN s with
  | true=>
   simp only[if_true]
   by_cases hm:qlF s=true
   ·rw[if_pos hm]
    obtain⟨k1,k2⟩:=h.install ho hl
    exact⟨k1,k2,h.st0⟩
   ·rw[if_neg hm]
    have hp:qbL s.views (s.self,s.base,s.log)=true:=by
     unfold qbL
     simp only[Bool.and_eq_true]
     refine⟨?_,h.based⟩
     split
     ·rfl
     ·next hb=>
      rcases h.known with hk|⟨v,hk,hv⟩
      ·exact absurd hk hb
      ·rw[hk]
       simp only[Bool.and_eq_true,decide_eq_true_eq]
       refine⟨?_,hv⟩
       have hin:v∈s.views:=List.mem_of_find?_eq_some hk
       have hv1:v.1=s.base:=by have:=List.find?_some hk;simpa using this
       obtain⟨i,hi,rfl⟩:=List.mem_iff_getElem.1 hin
       have n1:=qsx h.vs i hi
       have n2:=qsx h.vs (s.views.length - 1) (by omega)
       rw[qdW hi] at n1
       have ho':s.base≠(qaf s.views).1:=by
        unfold qaL at ho;simpa using ho
       unfold qaf at ho'⊢
       omega
    have h':=h.put (f:=(s.self,s.base,s.log)) ho hl h.self hp
    obtain⟨k1,k2⟩:=h'.install ho hl
    refine⟨k1,?_,h.st0⟩
    exact⟨k2.st,k2.cut,k2.pre⟩
  | false=>
   simp only[Bool.false_eq_true,if_false]
   exact(Good.begin h []).send rfl rfl
theorem qjP{s:St}(h:VS s){v:Vw}(he:(qaR s v).2=0):VS (qaR s v).1∧(qaR s v).1.stable=s.stable:=by
 unfold qaR at he⊢
 rw[if_neg (by rw[qb1.2 h];simp)] at he⊢
 split at he
 ·cases he
 ·next hc=>
  rw[if_neg hc]
  have hv:qaq (s.views++[v])=true:=by simpa using hc
  refine⟨⟨h.self,hv,h.sent0,h.sent,h.based,?_,h.own,h.st0,h.st,h.pl,h.pd,h.pp,.inl rfl,.inl rfl,⟨List.Pairwise.nil,fun k hk=>absurd hk (by simp)⟩,fun m hm=>absurd hm (by simp),⟨List.Pairwise.nil,fun k hk=>absurd hk (by simp)⟩,fun m hm=>absurd hm (by simp)⟩,rfl⟩
  rcases h.known with hk|⟨u,hk,hu⟩
  ·exact .inl hk
  ·refine .inr ⟨u,?_,hu⟩
   show qaA (s.views++[v]) s.base=some u
   unfold qaA at hk⊢
   rw[List.find?_append,hk];rfl
theorem qiz(r:Rd):0≤(qdr r).1:=by
 unfold qdr
 split
 ·exact Int.le_refl _
 ·exact Int.natCast_nonneg _
theorem qir(r:Rd):(qmz r).1.length≤6000:=by
 unfold qmz qkG
 have:=(qfR r.1 6000).1
 simp only
 split
 ·simp
 ·split
  ·simp
  ·simp only[List.length_take];omega
theorem qr9{kind:Int}{r r':Rd}{m:Msg}(h:qec kind r=some (m,r')):m.kind=kind∧(kind=11→m.pay.length≤6000)∧(kind=13→0≤m.first):=by
 unfold qec at h
 simp only at h
 split at h
 ·next hk=>cases h;exact⟨rfl,fun _=>qir _,fun e=>by omega⟩
 ·split at h
  ·next hk=>cases h;exact⟨rfl,fun e=>by omega,fun e=>by omega⟩
  ·split at h
   ·next hk=>cases h;exact⟨rfl,fun e=>by omega,fun _=>qiz _⟩
   ·split at h
    ·next hk=>cases h;exact⟨rfl,fun e=>by omega,fun e=>by omega⟩
    ·split at h
     ·next hk=>cases h;exact⟨rfl,fun e=>by omega,fun e=>by omega⟩
     ·cases h
theorem qn0{frame:List UInt8}{m:Msg}(h:qa3 frame=some m):(m.kind=11→m.pay.length≤6000)∧(m.kind=13→0≤m.first):=by
 unfold qa3 at h
 simp only at h
 split at h
 ·cases h
 ·split at h
  ·cases h
  ·next m' r' hb=>
   split at h
   ·cases h
    obtain⟨h1,h2,h3⟩:=qr9 hb
    rw[h1];exact⟨h2,h3⟩
   ·cases h
theorem qh2{l ex:List Ent}{b:Int}(hl:qb9 l=b)(hx:∀e∈ex,e.v=b):qb9 (l++ex)=b:=by
 rcases List.eq_nil_or_concat ex with rfl|⟨ys,y,rfl⟩
 ·simpa using hl
 ·unfold qb9
  have:(l++ys.concat y)[(l++ys.concat y).length - 1]?=some y:=by
   rw[List.concat_eq_append,←List.append_assoc]
   simp
  rw[this]
  exact hx y (by simp)
theorem Good.appended{s:St}{c:Cs}(g:Good s c)(ho:qaL c.s=true)(m:Msg):Good s (qaM c m):=by
 obtain⟨_,hb⟩:=g.vs.open_base ho
 obtain⟨b1,b2,b3⟩:=g.vs.log hb
 unfold qaM
 split
 ·exact g
 ·split
  ·exact g
  ·split
   ·exact g
   ·next hany=>
    split
    ·exact g
    ·next hv=>
     have hv1:qaw (c.s.log++m.ents.drop (qcG c m))=true:=by
      cases hx:qaw (c.s.log++m.ents.drop (qcG c m)) with
      | true=>rfl
      | false=>exact absurd (.inl hx) hv
     have hv2:¬c.s.sent<qay (c.s.log++m.ents.drop (qcG c m)) c.s.self:=fun e=>hv (.inr e)
     have hall:∀e∈m.ents.drop (qcG c m),e.v=c.s.base:=by
      intro e he
      have h1:∀x∈m.ents.drop (qcG c m),x.v=c.s.base∧¬x.o=0:=by simpa using hany
      exact(h1 e he).1
     refine(g.extend (ex:=m.ents.drop (qcG c m)) (qew (by simp only[List.length_append];omega) hv1 (qh2 b3 hall) hb) (by omega)).raise ?_
     simp only
     omega
theorem Good.submitted{s:St}{c:Cs}(g:Good s c)(ho:qaL c.s=true){fr:Int}(hf:qb2 fr=true)(hne:fr≠c.s.self){m:Msg}(hp:m.pay.length≤6000):Good s (qa4 c fr m):=by
 obtain⟨_,hb⟩:=g.vs.open_base ho
 obtain⟨b1,b2,b3⟩:=g.vs.log hb
 unfold qa4
 split
 ·next h=>
  obtain⟨h1,h2⟩:=h
  obtain⟨v1,v2⟩:=qkZ b2 h2 b1 b3 hf hp
  rw[h1]
  refine g.extend (qew (by simp) v1 v2 hb) ?_
  rw[qeu]
  have:qay [(⟨c.s.base,fr,(qay c.s.log fr:Int)+1,m.pay⟩:Ent)] c.s.self=0:=by simp[qay,hne]
  rw[this];exact g.vs.own
 ·exact g
theorem qio{s:St}(h:VS s){fr:Int}(hf:qb2 fr=true)(hne:fr≠s.self){m:Msg}(h11:m.kind=11→m.pay.length≤6000)(h13:m.kind=13→0≤m.first)(hnum:m.num=(qaf s.views).1):Good s (qaP ⟨s,[],[]⟩ fr m):=by
 have g:=Good.begin h []
 unfold qaP
 simp only
 split
 ·next hc=>exact g.submitted hc.2.1 hf hne (h11 hc.1)
 ·split
  ·next hc=>exact g.appended hc.2.1 m
  ·split
   ·next hc=>
    unfold qcC
    split
    ·exact g
    ·next hle=>
     have h':=h.ack hc.2.1 hc.2.2.1 hne hc.2.2.2 (h13 hc.1) (by simp only at hle;omega)
     have g':Good s {(⟨s,[],[]⟩:Cs) with s:={s with marks:=qhj s.marks fr m.first}}:=⟨h',Grown.same rfl rfl,h.st0⟩
     exact g'.announce
   ·split
    ·next hc=>
     split
     ·next hp=>
      have h':=h.put (f:=(fr,m.first,m.ents)) hc.2.1 hc.2.2 hf hp
      obtain⟨k1,k2⟩:=h'.install hc.2.1 hc.2.2
      exact⟨k1,⟨k2.st,k2.cut,k2.pre⟩,h.st0⟩
     ·exact g
    ·split
     ·next hc=>
      unfold qbt
      split
      ·next hi=>
       obtain⟨i1,i2,i3,i4⟩:=hi
       simp only at i2 i3 i4
       have hm:s.marks=[]:=by
        rcases h.mk0 with hm|⟨hm,_⟩
        ·exact hm
        ·rw[hc.2.1] at hm;cases hm
       have hfl:s.fls=[]:=by
        rcases h.fl0 with hm|⟨_,hm⟩
        ·exact hm
        ·rw[hc.2.2.1] at hm;cases hm
       rw[hnum] at i2
       obtain⟨k1,k2⟩:=h.relog hm i2 hc.2.2.2.2 i3 i4
       have e:({s with base:=m.num,log:=m.ents}:St)={s with base:=(qaf s.views).1,log:=m.ents,fls:=[]}:=by rw[hnum,←hfl]
       refine⟨?_,?_,h.st0⟩
       ·show VS {s with base:=m.num,log:=m.ents}
        rw[e];exact k1
       ·show Grown s {s with base:=m.num,log:=m.ents} []
        exact Grown.same rfl k2
      ·exact g
     ·exact g
theorem qeJ{s:St}(h:VS s)(fr:Int)(frame:List UInt8):((qal s fr frame).2≠0∧(qal s fr frame).1.dl=[])∨((qal s fr frame).2=0∧Good s (qal s fr frame).1):=by
 unfold qal
 split
 ·exact .inl ⟨by decide,rfl⟩
 ·next hc=>
  have hf:qb2 fr=true:=by
   cases hx:qb2 fr with
   | true=>rfl
   | false=>exact absurd (.inr (.inl hx)) hc
  have hne:fr≠s.self:=fun e=>hc (.inr (.inr e))
  split
  ·exact .inl ⟨by decide,rfl⟩
  ·next m hm=>
   obtain⟨r1,r2⟩:=qn0 hm
   right
   refine⟨rfl,?_⟩
   split
   ·next hn=>exact qio h hf hne r1 r2 hn
   ·exact Good.begin h []
end Go.Proofs.YtponbabbabnaeaaGreat
