/- Part 16: contracts of functions. Conditions: as each theorem says. -/
import Derived.Test.YtponbabbabnaeaaGreatRows
import Derived.ProofKit
import Derived.OpenShut
import Derived.ShutString
import Derived.ChangeOld
import Derived.Below
import Derived.Lib.SmallJoins
import Derived.Deep.Slices
import Derived.Deep.Fields
import Derived.ChangeMaps5
import Derived.Test.YtponbabbabnaeaaGreatQh15
set_option maxRecDepth 100000
set_option maxHeartbeats 40000000
set_option linter.unusedVariables false
namespace Go.Proofs.YtponbabbabnaeaaGreat
open Proofs.Tryz
theorem VP(n:Nat):∀(i v:Nat) (r:List UInt8),i<=8->(i=0\/0<n)->n<2 ^ (7*(9 - i))->Co (AB n++r) i v=(v+n*2 ^ (7*i),i+(AB n).length,0):=by
 induction n using Nat.strongRecOn with
 | ind n ih=>
  intro i v r Q K z;by_cases j:n<128
  .rw[FV j];have u:(UInt8.ofNat n).toNat=n:=by rw[UInt8.toNat_ofNat'];omega
   simp only[List.cons_append,List.nil_append,Co,u];rw[if_neg U,if_pos j,Nat.mod_eq_of_lt j];rfl
  .have q:128<=n:=U;rw[Lo q];have u:(UInt8.ofNat (n % 128+128)).toNat=n % 128+128:=by rw[UInt8.toNat_ofNat'];omega
   have F:i<8:=by
    rcases Nat.lt_or_ge i 8 with h|h
    .exact h
    .have:i=8:=U;subst this;simp at z;omega
   simp only[List.cons_append,Co,u];rw[if_neg U,if_neg U];have y:2 ^ (7*(9 - i))=128*2 ^ (7*(9 - (i+1))):=by rw[show 7*(9 - i)=7+7*(9 - (i+1)) by omega,Nat.pow_add]
   rw[ih (n / 128) U (i+1) _ r U (.inr U) (by rw[y] at z;omega)];have G:2 ^ (7*(i+1))=128*2 ^ (7*i):=by rw[show 7*(i+1)=7+7*i by omega,Nat.pow_add]
   have D:(n % 128+128) % 128=n % 128:=U;simp only[Prod.mk.injEq,and_true,zK];refine⟨?_,U⟩;rw[D,G,Nat.add_assoc,<-Nat.mul_assoc,<-Nat.add_mul];congr 2;omega
theorem KG{n:Nat}(h:n<2 ^ 63)(r:List UInt8):Az (AB n++r)=(n,(AB n).length,0):=by
 unfold Az;rw[VP n 0 0 r U (.inl rfl) (by simpa using h)];simp
theorem Vf{x:Int}(h:0<=x)(j:x<=1000):EJ (zig x)=x/\zig x<2 ^ 63:=by
 unfold EJ zig;constructor
 .split<;>split<;>omega
 .split<;>omega
theorem VQ(xs:List Int):∀(j:List UInt8) (l:List Int),(∀x∈xs,0<=x/\x<=1000)->Dc (j++BL xs) xs.length l j.length=(l++xs,(j++BL xs).length,0):=by
 induction xs with
 | nil=>intro j l _;simp[Dc,BL]
 | cons x xs q=>
  intro j l h;obtain⟨u,z⟩:=Vf (h x zj).1 (h x zj).2;have e:BL (x::xs)=AB (zig x)++BL xs:=by simp[BL]
  have d:AR ((j++BL (x::xs)).drop j.length)=(x,(AB (zig x)).length,0):=by
   rw[List.drop_left,e];unfold AR;rw[KG z,u]
  show (if (AR ((j++BL (x::xs)).drop j.length)).2.2=0 then _ else _)=_;rw[d,if_pos rfl];have:=q (j++AB (zig x)) (l++[x]) (λy hy=>h y (by simp[hy]));rw[e,<-List.append_assoc];simp only[zA,List.append_assoc] at this|-;simpa using this
theorem XC{n:Int}{xs:List Int}(h:AK n xs=true):Cu (DH n xs)=(n,xs,(DH n xs).length,0):=by
 have q:=h;unfold AK at q;simp only[zB,zE] at q;obtain⟨⟨K,Q⟩,j⟩:=q;have R:=FP (m:=16) j;have F:∀x∈xs,0<=x/\x<=1000:=by
  rw[Lb U U] at j;intro x G;have:=((KM xs 0).1 j).2 x G;omega
 rw[KZ h,List.append_assoc];have u:=KG (n:=n.toNat) U (AB xs.length++BL xs);have y:=KG (n:=xs.length) U (BL xs);have z:Bt (AB xs.length++BL xs) 16=(xs,(AB xs.length++BL xs).length,0):=by
  have D:A0 (AB xs.length++BL xs) 16=(xs.length,(AB xs.length).length,0):=by
   unfold A0;rw[y];simp only[ne_eq,not_true_eq_false,if_false];exact if_neg U
  unfold Bt;rw[D];simp only[ne_eq,not_true_eq_false,if_false];have:=VQ xs (AB xs.length) [] F;simpa using this
 unfold Cu;rw[u];simp only[List.drop_left,z,ne_eq,not_true_eq_false,if_false];rw[if_neg U,if_neg (by rw[j];simp)];simp only[Prod.mk.injEq,and_true,zA];omega
def EQ(l:List Int):Prop:=l.Pairwise (·<·)/\∀k∈l,0<k
theorem JA{l:List Int}:(∀i k,l[i]?=some k->(if i=0 then 0 else (l[i - 1]?).getD 0)<k)↔EQ l:=by
 constructor
 .intro h;have y:∀(j i:Nat) (u:j<l.length) (q:i<j),l[i]'(by omega)<l[j]:=by
   intro j;induction j with
   | zero=>intro i u q;omega
   | succ j R=>
    intro i u q;have z:=h (j+1) l[j+1] (zY u);rw[if_neg U,Nat.add_sub_cancel,zY U] at z;simp only[Option.getD_some] at z;by_cases D:i=j
    .subst D;exact z
    .have:=R i U U;omega
  refine⟨List.pairwise_iff_getElem.2 (λi j q u F=>y j i u F),λk G=>?_⟩;obtain⟨i,q,rfl⟩:=List.mem_iff_getElem.1 G;have K:=h 0 l[0] (zY U);rw[if_pos rfl] at K;by_cases D:i=0
  .subst D;exact K
  .have:=y i 0 q U;omega
 .rintro⟨Q,y⟩ i k G;obtain⟨q,rfl⟩:=zZ G;split
  .exact y _ (List.getElem_mem q)
  .rw[zY U];exact List.pairwise_iff_getElem.1 Q (i - 1) i U q U
theorem Ix{α:Type}(j:α->Int)(x:α):∀(l:List α),(l.map j).Pairwise (·<·)->
  (((l[(l.takeWhile λy=>decide (j y<j x)).length]?).map j=some (j x)->((l.set (l.takeWhile λy=>decide (j y<j x)).length x).map j).Pairwise (·<·))/\
   ((l[(l.takeWhile λy=>decide (j y<j x)).length]?).map j≠some (j x)->((l.take (l.takeWhile λy=>decide (j y<j x)).length++x::l.drop (l.takeWhile λy=>decide (j y<j x)).length).map j).Pairwise (·<·)))
 | [],_=>by simp
 | y::l,h=>by
  have G:(l.map j).Pairwise (·<·):=by simp only[List.map_cons,List.pairwise_cons] at h;exact h.2
  have hy:∀z∈l,j y<j z:=by
   simp only[List.map_cons,List.pairwise_cons,List.mem_map,forall_exists_index,and_imp,forall_apply_eq_imp_iff₂] at h;exact h.1
  obtain⟨K,Q⟩:=Ix j x l G;by_cases D:j y<j x
  .simp only[List.takeWhile_cons,D,decide_true,if_true,zK,List.getElem?_cons_succ,List.set_cons_succ,List.take_succ_cons,List.drop_succ_cons,List.map_cons,List.cons_append,List.pairwise_cons];refine⟨λF=>⟨λa u=>?_,K F⟩,λF=>⟨λa u=>?_,Q F⟩⟩
   .obtain⟨z,q,rfl⟩:=List.mem_map.1 u;rcases List.mem_or_eq_of_mem_set q with q|rfl
    .exact hy z q
    .exact D
   .obtain⟨z,q,rfl⟩:=List.mem_map.1 u;rcases List.mem_append.1 q with q|q
    .exact hy z (List.mem_of_mem_take q)
    .rcases zC.1 q with rfl|q
     .exact D
     .exact hy z (List.mem_of_mem_drop q)
  .simp only[List.takeWhile_cons,D,decide_false,Bool.false_eq_true,if_false,List.length_nil,List.getElem?_cons_zero,Option.map_some,zJ,List.set_cons_zero,List.map_cons,List.take_zero,List.nil_append,List.drop_zero,List.pairwise_cons];refine⟨λF=>⟨λa u=>?_,G⟩,λF=>⟨λa u=>?_,?_,G⟩⟩
   .obtain⟨z,q,rfl⟩:=List.mem_map.1 u;rw[<-F];exact hy z q
   .rcases zC.1 u with rfl|u
    .exact Int.lt_iff_le_and_ne.2 ⟨Int.not_lt.1 D,λe=>F (congrArg some e.symm)⟩
    .obtain⟨z,q,rfl⟩:=List.mem_map.1 u;have:=hy z q;show j x<j z;omega
   .intro a u;obtain⟨z,q,rfl⟩:=List.mem_map.1 u;exact hy z q
theorem JB{α:Type}{l:List α}{k:Nat}{x z:α}(h:z∈l.take k++x::l.drop k):z=x\/z∈l:=by
 rcases List.mem_append.1 h with h|h
 .exact .inr (List.mem_of_mem_take h)
 .rcases zC.1 h with h|h
  .exact .inl h
  .exact .inr (List.mem_of_mem_drop h)
def Hm(s:St)(m:Int×Int):Prop:=m.1≠s.self/\AG (Ar s.views).2 m.1=true/\0<=m.2/\m.2<=s.log.length
theorem NJ{s:St}:Dp s=true↔(s.marks=[]\/(AD s=true/\AE s=true))/\(s.fls=[]\/(AD s=false/\AE s=true))/\(EQ (s.marks.map Prod.fst)/\∀m∈s.marks,Hm s m)/\(EQ (s.fls.map Prod.fst)/\∀f∈s.fls,AQ f.1=true/\Bh s.views f=true):=by
 unfold Dp;simp only[zB,Bool.or_eq_true,zE,List.all_eq_true,List.mem_range,Bool.not_eq_true',List.length_eq_zero_iff];refine and_congr Iff.rfl (and_congr Iff.rfl (and_congr ?_ ?_))
 .rw[<-JA];constructor
  .intro h;have D:∀i m,s.marks[i]?=some m->Fw s i m=true:=by
    intro i m q;have:=h i (zZ q).1;unfold DE at this;rw[q] at this;exact this
   refine⟨λi k F=>?_,λm q=>?_⟩
   .rw[zM] at F;obtain⟨m,q,rfl⟩:=Option.map_eq_some_iff.1 F;have:=D i m q;unfold Fw F4 at this;simp only[zB,zE] at this;have j:=this.1;rw[zM];cases hx:s.marks[i - 1]? with
    | none=>rw[hx] at j;simpa using j
    | some y=>rw[hx] at j;simpa using j
   .obtain⟨i,z,rfl⟩:=List.mem_iff_getElem.1 q;have:=D i _ (zY z);unfold Fw at this;simp only[zB,zE] at this;exact this.2
  .rintro⟨D,j⟩ i z;unfold DE;rw[zY z];have u:=D i (s.marks[i]).1 (by rw[zM,zY z];rfl);have G:=j _ (List.getElem_mem z);unfold Fw F4;simp only[zB,zE];refine⟨?_,G⟩;rw[zM] at u;cases hx:s.marks[i - 1]? with
   | none=>rw[hx] at u;simpa using u
   | some y=>rw[hx] at u;simpa using u
 .rw[<-JA];constructor
  .intro h;have D:∀i m,s.fls[i]?=some m->GB s i m=true:=by
    intro i m q;have:=h i (zZ q).1;unfold Ea at this;rw[q] at this;exact this
   refine⟨λi k F=>?_,λm q=>?_⟩
   .rw[zM] at F;obtain⟨m,q,rfl⟩:=Option.map_eq_some_iff.1 F;have:=D i m q;unfold GB F2 at this;simp only[zB,zE] at this;have j:=this.1;rw[zM];cases hx:s.fls[i - 1]? with
    | none=>rw[hx] at j;simpa using j
    | some y=>rw[hx] at j;simpa using j
   .obtain⟨i,z,rfl⟩:=List.mem_iff_getElem.1 q;have:=D i _ (zY z);unfold GB at this;simp only[zB,zE] at this;exact this.2
  .rintro⟨D,j⟩ i z;unfold Ea;rw[zY z];have u:=D i (s.fls[i]).1 (by rw[zM,zY z];rfl);have G:=j _ (List.getElem_mem z);unfold GB F2;simp only[zB,zE];refine⟨?_,G⟩;rw[zM] at u;cases hx:s.fls[i - 1]? with
   | none=>rw[hx] at u;simpa using u
   | some y=>rw[hx] at u;simpa using u
structure VS(s:St):Prop where
 self:AQ s.self=true
 vs:Bv s.views=true
 sent0:0<=s.sent
 sent:s.sent<=1099511627776
 based:Bi s.log s.base=true
 known:s.base = -1\/∃v,Br s.views s.base=some v/\AG v.2 s.self=true
 own:(Aq s.log s.self:Int)<=s.sent
 st0:0<=s.stable
 st:s.stable<=s.log.length
 pl:s.pend.length<=32
 pd:(s.pend.length:Int)=s.sent - Aq (s.log.take s.stable.toNat) s.self
 pp:∀p∈s.pend,p.length<=6000
 mk0:s.marks=[]\/(AD s=true/\AE s=true)
 fl0:s.fls=[]\/(AD s=false/\AE s=true)
 mka:EQ (s.marks.map Prod.fst)
 mks:∀m∈s.marks,Hm s m
 fla:EQ (s.fls.map Prod.fst)
 fls:∀f∈s.fls,AQ f.1=true/\Bh s.views f=true
theorem Cm{s:St}:AM s=true↔VS s:=by
 constructor
 .intro h;obtain⟨z,D,F,G,K,Q,R,T,W,j,q,u,y⟩:=Kf h;obtain⟨X,k2,⟨k3,k4⟩,k5,k6⟩:=NJ.1 y;exact⟨z,D,F,G,K,Q,R,T,W,j,q,u,X,k2,k3,k4,k5,k6⟩
 .intro h;unfold AM;simp only[zB,zE,Bool.or_eq_true,List.all_eq_true];refine⟨h.self,h.vs,h.sent0,h.sent,h.based,?_,h.own,h.st0,h.st,h.pl,h.pd,h.pp,NJ.2 ⟨h.mk0,h.fl0,⟨h.mka,h.mks⟩,h.fla,h.fls⟩⟩;rcases h.known with hk|⟨v,hk,hv⟩
  .exact .inl hk
  .right;rw[hk];exact hv
theorem Hl{l:List Vw}(h:Bv l=true):∀i,i<l.length->(Bu l i).1=(Bu l 0).1+i:=by
 obtain⟨_,_,_,j⟩:=HU h;intro i;induction i with
 | zero=>intro _;simp
 | succ i u=>intro y;have q:=(MD (j i U)).2;have:=u U;rw[q,this];push_cast;omega
theorem Gi{l:List Vw}{i:Nat}(h:i<l.length):Bu l i=l[i]:=by unfold Bu;rw[zY h];rfl
theorem WC{l:List Vw}(h:Bv l=true){i:Nat}(q:i<l.length):Br l (Bu l i).1=some (Bu l i):=by
 unfold Br;refine List.find?_eq_some_iff_getElem.2 ⟨zj,i,q,(Gi q).symm,λj z=>?_⟩;have y:=Hl h i q;have u:=Hl h j U;rw[Gi U] at u;simp;omega
theorem Uq{l:List Vw}(h:Bv l=true):Br l (Ar l).1=some (Ar l):=WC h (by have:=(HU h).1;omega)
theorem VS.last{s:St}(h:VS s):AK (Ar s.views).1 (Ar s.views).2=true:=JQ h.vs
theorem VS.open_base{s:St}(h:VS s)(j:AD s=true):s.base=(Ar s.views).1/\s.base≠-1:=by
 unfold AD at j;simp only[zE] at j;have:=Ev h.last;exact⟨j,U⟩
theorem VS.log{s:St}(h:VS s)(j:s.base≠-1):0<s.log.length/\Bc s.log=true/\CK s.log=s.base:=by
 have:=h.based;unfold Bi at this;rw[if_neg j] at this;simp only[zB,zE] at this;exact this
theorem VS.lead_has{s:St}(h:VS s)(j:AE s=true):AG (Ar s.views).2 s.self=true:=by
 unfold AE AZ at j;rw[if_pos h.last] at j;simp only[zE] at j;have q:=(Dk h.last).1;rw[zY U] at j;rw[E7,<-j];exact List.getElem_mem _
theorem Js{l:List Ent}{b:Int}(h:0<l.length)(u:Bc l=true)(j:CK l=b)(q:b≠-1):Bi l b=true:=by
 unfold Bi;rw[if_neg q,u,j];simp[h]
theorem VS.extend{s:St}(h:VS s){ex:List Ent}(j:Bi (s.log++ex) s.base=true)(u:(Aq (s.log++ex) s.self:Int)<=s.sent):VS {s with log:=s.log++ex}:=by
 have G:=h.st;have F:=h.st0;refine⟨h.self,h.vs,h.sent0,h.sent,j,h.known,u,h.st0,zm,h.pl,?_,h.pp,h.mk0,h.fl0,h.mka,λm q=>?_,h.fla,h.fls⟩
 .show (s.pend.length:Int)=s.sent - Aq ((s.log++ex).take s.stable.toNat) s.self;rw[List.take_append_of_le_length U];exact h.pd
 .obtain⟨y,z,D,K⟩:=h.mks m q;exact⟨y,z,D,zm⟩
theorem VS.raise{s:St}(h:VS s){n:Int}(K:s.stable<n)(q:n<=s.log.length):VS {s with pend:=s.pend.drop (Aq (Bm s.log s.stable n) s.self),stable:=n}:=by
 have F:=h.st;have D:=h.st0;have G:=h.pd;have y:=h.pl;have Q:=h.own;have j:s.log.take n.toNat=s.log.take s.stable.toNat++Bm s.log s.stable n:=by
  unfold Bm;rw[show s.log.take s.stable.toNat=(s.log.take n.toNat).take s.stable.toNat by rw[List.take_take,Nat.min_eq_left U],List.take_append_drop]
 have u:Aq (s.log.take n.toNat) s.self=Aq (s.log.take s.stable.toNat) s.self+Aq (Bm s.log s.stable n) s.self:=by rw[j,Iw]
 have z:=FJ s.log n.toNat s.self;refine⟨h.self,h.vs,h.sent0,h.sent,h.based,h.known,h.own,by show 0<=n;omega,q,?_,?_,λp y=>h.pp p (List.mem_of_mem_drop y),h.mk0,h.fl0,h.mka,h.mks,h.fla,h.fls⟩
 .simp only[zD];omega
 .show ((s.pend.drop (Aq (Bm s.log s.stable n) s.self)).length:Int)=s.sent - Aq (s.log.take n.toNat) s.self;rw[zD];omega
theorem VS.relog{s:St}(h:VS s){l:List Ent}(q:s.marks=[])(u:Bi l (Ar s.views).1=true)(G:AG (Ar s.views).2 s.self=true)(y:Dd l (s.log.take s.stable.toNat)=true)(F:(Aq l s.self:Int)<=s.sent) :
  VS {s with base:=(Ar s.views).1,log:=l,fls:=[]}/\l.take s.stable.toNat=s.log.take s.stable.toNat:=by
 have Q:=h.st;have K:=h.st0;unfold Dd at y;simp only[zB,zE,zT] at y;have e:l.take s.stable.toNat=s.log.take s.stable.toNat:=by
  have:=y.2;rwa [Nat.min_eq_left U] at this
 refine⟨⟨h.self,h.vs,h.sent0,h.sent,u,.inr ⟨_,Uq h.vs,G⟩,F,h.st0,?_,h.pl,?_,h.pp,.inl q,.inl rfl,h.mka,λm j=>?_,⟨List.Pairwise.nil,λk D=>by cases D⟩,λf z=>by cases z⟩,e⟩
 .show s.stable<=(l.length:Int);have:=y.1;omega
 .show (s.pend.length:Int)=s.sent - Aq (l.take s.stable.toNat) s.self;rw[e];exact h.pd
 .have:m∈s.marks:=j;rw[q] at this;cases this
structure Grown(s t:St)(l:List Ent):Prop where
 st:t.stable=s.stable+l.length
 cut:Bm t.log s.stable t.stable=l
 pre:t.log.take s.stable.toNat=s.log.take s.stable.toNat
structure Good(s:St)(c:Cs):Prop where
 vs:VS c.s
 gr:Grown s c.s c.dl
 z:0<=s.stable
theorem Vb(l:List Ent)(n:Int):Bm l n n=[]:=by unfold Bm;simp
theorem Grown.same{s t:St}(h:t.stable=s.stable)(j:t.log.take s.stable.toNat=s.log.take s.stable.toNat):Grown s t []:=⟨by simp[h],by rw[h];exact Vb _ _,j⟩
theorem Good.begin{s:St}(h:VS s)(j:List (Int×List UInt8)):Good s ⟨s,j,[]⟩:=⟨h,Grown.same rfl rfl,h.st0⟩
theorem Good.le{s:St}{c:Cs}(g:Good s c):s.stable<=c.s.stable:=by have:=g.gr.st;omega
theorem Good.extend{s:St}{c:Cs}(g:Good s c){ex:List Ent}(h:Bi (c.s.log++ex) c.s.base=true)(q:(Aq (c.s.log++ex) c.s.self:Int)<=c.s.sent):Good s {c with s:={c.s with log:=c.s.log++ex}}:=by
 have y:=g.vs.st;have u:=g.vs.st0;have j:=g.le;have D:=g.z;refine⟨g.vs.extend h q,⟨g.gr.st,?_,?_⟩,g.z⟩
 .show Bm (c.s.log++ex) s.stable c.s.stable=c.dl;rw[<-g.gr.cut];unfold Bm;rw[List.take_append_of_le_length U]
 .show (c.s.log++ex).take s.stable.toNat=_;rw[List.take_append_of_le_length U];exact g.gr.pre
theorem Good.raise{s:St}{c:Cs}(g:Good s c){n:Int}(j:n<=c.s.log.length):Good s (Be c n):=by
 unfold Be;split
 .exact g
 .next hn=>
  have D:=g.vs.st;have y:=g.vs.st0;have q:=g.le;have F:=g.z;have u:=g.gr.st;have h:c.s.log.take n.toNat=c.s.log.take c.s.stable.toNat++Bm c.s.log c.s.stable n:=by
   unfold Bm;rw[show c.s.log.take c.s.stable.toNat=(c.s.log.take n.toNat).take c.s.stable.toNat by rw[List.take_take,Nat.min_eq_left U],List.take_append_drop]
  refine⟨g.vs.raise U j,⟨?_,?_,g.gr.pre⟩,g.z⟩
  .show n=s.stable+((c.dl++Bm c.s.log c.s.stable n).length:Nat);have:(Bm c.s.log c.s.stable n).length=n.toNat - c.s.stable.toNat:=by unfold Bm;simp;omega
   rw[zA,this];omega
  .show Bm c.s.log s.stable n=c.dl++Bm c.s.log c.s.stable n;rw[<-g.gr.cut];rw[show Bm c.s.log s.stable n=(c.s.log.take n.toNat).drop s.stable.toNat from rfl,h,List.drop_append_of_le_length zm];rfl
theorem Good.take{s:St}{c:Cs}(g:Good s c)(z:AD c.s=true):Good s {c with s:=Ct c.s}:=by
 obtain⟨_,j⟩:=g.vs.open_base z;obtain⟨q,h,u⟩:=g.vs.log j;have G:=(Ip h).1;have y:c.s.log.length+Bp c.s<=2000:=by unfold Bp;omega
 obtain⟨D,F⟩:=TT h q u g.vs.self g.vs.pp (Bp c.s) y;have K:=Fr c.s (Bp c.s);refine g.extend (ex:=(List.range (Bp c.s)).map λi:Nat=>⟨c.s.base,c.s.self,Aq c.s.log c.s.self+1+i,Do c.s (Aq c.s.log c.s.self+1+i)⟩) (Js ?_ D F j) ?_
 .simp;omega
 .show (Aq (AI c.s (Bp c.s)) c.s.self:Int)<=c.s.sent;have:=g.vs.own;rw[JL];unfold Bp;omega
theorem Good.announce{s:St}{c:Cs}(g:Good s c):Good s (Cf c):=by
 unfold Cf;split
 .exact g
 .refine g.raise ?_;cases hx:(Cr (BO c.s))[(((BO c.s).length:Int) - Bs (Ar c.s.views).2.length).toNat]? with
  | none=>simp
  | some y=>
   have h:y∈BO c.s:=(F8 _).mem_iff.1 (zX hx);unfold BO at h;rcases zC.1 h with rfl|h
   .simp
   .obtain⟨m,j,rfl⟩:=List.mem_map.1 h;exact(g.vs.mks m j).2.2.2
theorem Good.send{s:St}{c h:Cs}(g:Good s c)(j:h.s=c.s)(q:h.dl=c.dl):Good s h:=⟨j▸g.vs,by rw[j,q];exact g.gr,g.z⟩
theorem VS.put{s:St}(h:VS s){f:Fls}(K:AD s=false)(G:AE s=true)(u:AQ f.1=true)(y:Bh s.views f=true):VS {s with fls:=Bz s.fls f}:=by
 have z:0<f.1:=by unfold AQ at u;simp at u;omega
 have D:(Bz s.fls f).map Prod.fst |>.Pairwise (·<·):=by
  obtain⟨Q,R⟩:=Ix (λg:Fls=>g.1) f s.fls h.fla.1;unfold Bz ED;split
  .next he=>exact Q he
  .next he=>exact R he
 have q:∀g∈Bz s.fls f,g=f\/g∈s.fls:=by
  intro g j;unfold Bz at j;split at j
  .rcases List.mem_or_eq_of_mem_set j with j|j
   .exact .inr j
   .exact .inl j
  .exact JB j
 refine⟨h.self,h.vs,h.sent0,h.sent,h.based,h.known,h.own,h.st0,h.st,h.pl,h.pd,h.pp,h.mk0,.inr ⟨K,G⟩,h.mka,h.mks,⟨D,λk F=>?_⟩,λg j=>?_⟩
 .obtain⟨g,j,rfl⟩:=List.mem_map.1 F;rcases q g j with rfl|j
  .exact z
  .exact h.fla.2 _ (List.mem_map.2 ⟨g,j,rfl⟩)
 .rcases q g j with rfl|j
  .exact⟨u,y⟩
  .exact h.fls g j
theorem VS.ack{s:St}(h:VS s){q n:Int}(X:AD s=true)(T:AE s=true)(G:q≠s.self)(R:AG (Ar s.views).2 q=true)(W:0<=n)(hn:n<=s.log.length):VS {s with marks:=CF s.marks q n}:=by
 have F:0<q:=((DM (m:=16)).1 (Ei h.last)).2.2.2 q (E7.1 R) |>.1;have z:∀x∈CF s.marks q n,x∈s.marks\/(x.1=q/\(x.2=max 0 n\/∃y∈s.marks,x.2=max y.2 n)):=by
  intro x j;unfold CF at j;split at j
  .next a b hab=>
   split at j
   .next he=>
    rcases List.mem_or_eq_of_mem_set j with j|rfl
    .exact .inl j
    .exact .inr ⟨he,.inr ⟨(a,b),zX hab,rfl⟩⟩
   .rcases JB j with rfl|j
    .exact .inr ⟨rfl,.inl rfl⟩
    .exact .inl j
  .rcases List.mem_append.1 j with j|j
   .exact .inl j
   .simp only[zC,zN,or_false] at j;subst j;exact .inr ⟨rfl,.inl rfl⟩
 have Q:((CF s.marks q n).map Prod.fst).Pairwise (·<·):=by
  unfold CF;split
  .next a b hab=>
   split
   .next he=>
    subst he;obtain⟨k1,_⟩:=Ix (λg:Int×Int=>g.1) (a,max b n) s.marks h.mka.1;exact k1 (by show (s.marks[Dx s.marks a]?).map _=_;rw[hab];rfl)
   .next he=>
    obtain⟨_,K⟩:=Ix (λg:Int×Int=>g.1) (q,max 0 n) s.marks h.mka.1;exact K (by show (s.marks[Dx s.marks q]?).map _≠_;rw[hab];simpa using he)
  .next hno=>
   obtain⟨_,K⟩:=Ix (λg:Int×Int=>g.1) (q,max 0 n) s.marks h.mka.1;have u:s.marks.length<=Dx s.marks q:=by
    rcases Nat.lt_or_ge (Dx s.marks q) s.marks.length with hlt|hge
    .rw[zY hlt] at hno;cases hno
    .exact hge
   have:=K (by show (s.marks[Dx s.marks q]?).map _≠_;rw[List.getElem?_eq_none u];simp);have e:∀k,s.marks.length<=k->s.marks.take k++(q,max 0 n)::s.marks.drop k=s.marks++[(q,max 0 n)]:=λk D=>by rw[List.take_of_length_le D,List.drop_of_length_le D]
   rw[show (s.marks.take (s.marks.takeWhile λy=>decide (y.1<(q,max 0 n).1)).length++(q,max 0 n)::s.marks.drop (s.marks.takeWhile λy=>decide (y.1<(q,max 0 n).1)).length)=s.marks++[(q,max 0 n)] from e _ u] at this;exact this
 refine⟨h.self,h.vs,h.sent0,h.sent,h.based,h.known,h.own,h.st0,h.st,h.pl,h.pd,h.pp,.inr ⟨X,T⟩,h.fl0,⟨Q,λk D=>?_⟩,λx j=>?_,h.fla,h.fls⟩
 .obtain⟨x,j,rfl⟩:=List.mem_map.1 D;rcases z x j with j|⟨he,_⟩
  .exact h.mka.2 _ (List.mem_map.2 ⟨x,j,rfl⟩)
  .rw[he];exact F
 .rcases z x j with j|⟨he,h2⟩
  .exact h.mks x j
  .refine⟨by rw[he];exact G,by rw[he];exact R,?_,?_⟩
   .rcases h2 with h2|⟨y,hy,h2⟩<;>rw[h2]<;>omega
   .show x.2<=(s.log.length:Int);rcases h2 with h2|⟨y,hy,h2⟩
    .rw[h2];omega
    .have:=(h.mks y hy).2.2.2;rw[h2];omega
theorem Ja(base:Int):∀(l:List Fls) (out:List Ent),(l.foldl (λout f=>if f.2.1=base/\out.length<f.2.2.length then f.2.2 else out) out)=out\/∃f∈l,f.2.1=base/\(l.foldl (λout f=>if f.2.1=base/\out.length<f.2.2.length then f.2.2 else out) out)=f.2.2
 | [],out=>.inl rfl
 | f::l,out=>by
  simp only[List.foldl_cons];by_cases j:f.2.1=base/\out.length<f.2.2.length
  .rw[if_pos j];rcases Ja base l f.2.2 with h|⟨g,hg,h⟩
   .exact .inr ⟨f,zj,j.1,h⟩
   .exact .inr ⟨g,by simp[hg],h⟩
  .rw[if_neg j];rcases Ja base l out with h|⟨g,hg,h⟩
   .exact .inl h
   .exact .inr ⟨g,by simp[hg],h⟩
theorem Kk{n:Int}{xs:List Int}(h:AK n xs=true):DB (AP n xs)=true:=by
 unfold DB;have:(AP n xs).p=DH n xs:=rfl;rw[this,XC h];simp
theorem Vu{l:List Ent}{n:Int}{xs:List Int}(u:Bc l=true)(h:l.length<2000)(q:AK n xs=true)(j:l=[]\/CK l<n):Bc (l++[AP n xs])=true/\CK (l++[AP n xs])=n:=by
 refine⟨NE u h ?_,by unfold CK;simp[AP]⟩;unfold Di;rcases j with rfl|j
 .rw[if_pos (.inl rfl)];simp[Kk q]
 .rcases Nat.eq_zero_or_pos l.length with h0|h0
  .rw[if_pos (.inl h0)];simp[Kk q,h0]
  .have y:Fg (l++[AP n xs]) l.length=CK l:=by
    rw[Ky (zR _) h0];rfl
   have z:(AP n xs).v=n:=rfl;rw[y,z,if_pos (.inr U),Kk q];simp;omega
theorem VS.install{s:St}(h:VS s)(T:AD s=false)(R:AE s=true):VS (BJ s)/\Grown s (BJ s) []:=by
 unfold BJ;split
 .exact⟨h,Grown.same rfl rfl⟩
 .next h1=>
  split
  .exact⟨h,Grown.same rfl rfl⟩
  .split
   .exact⟨h,Grown.same rfl rfl⟩
   .next h3=>
    have q:s.marks=[]:=by
     rcases h.mk0 with q|⟨q,_⟩
     .exact q
     .rw[T] at q;cases q
    have j:DU s (Cn s.fls (Bw s.fls))=true:=by simpa using h3
    unfold DU at j;simp only[zB,zE] at j;obtain⟨K,F,Q⟩:=j;have z:Bc (Cn s.fls (Bw s.fls))=true/\(Cn s.fls (Bw s.fls)=[]\/CK (Cn s.fls (Bw s.fls))<(Ar s.views).1):=by
     rcases Ja (Bw s.fls) s.fls [] with hc|⟨f,hf,hb,hc⟩
     .have:Cn s.fls (Bw s.fls)=[]:=hc;rw[this];exact⟨zd,.inl rfl⟩
     .have:Cn s.fls (Bw s.fls)=f.2.2:=hc;rw[this];have y:=(h.fls f hf).2;have u:f.2.1≠-1:=by
       intro e;rw[e] at hb;exact h1 (.inr hb.symm)
      unfold Bh Bi at y;rw[if_neg u,if_neg u] at y;simp only[zB,zE] at y;obtain⟨D,p2,p3,p4⟩:=y;refine⟨p3,.inr ?_⟩;rw[p4];cases hk:Br s.views f.2.1 with
      | none=>rw[hk] at D;cases D
      | some v=>rw[hk] at D;simp only[zB,zE] at D;exact D.1
    obtain⟨v1,v2⟩:=Vu z.1 K h.last z.2;have hn:=Ev h.last;obtain⟨W,X⟩:=h.relog q (Js zj v1 v2 U) (h.lead_has R) (l:=Cn s.fls (Bw s.fls)++[AP (Ar s.views).1 (Ar s.views).2]) (by
     unfold Dd at F|-;simp only[zB,zE] at F|-;refine⟨by simp only[zA];omega,?_⟩;rw[List.take_append_of_le_length F.1];exact F.2) (by
     rw[Iw];have G:=h.self;unfold AQ at G;simp at G;have:Aq [AP (Ar s.views).1 (Ar s.views).2] s.self=0:=by
      simp[Aq,AP];omega
     rw[this];exact Q)
    exact⟨W,Grown.same rfl X⟩
theorem TY{s:St}(h:VS s):Good s (BI s):=by
 unfold BI;rw[if_neg (by rw[Cm.2 h];simp)];unfold Dh;cases ho:AD s with
 | true=>
  simp only[if_true];cases hl:AE s with
  | true=>
   simp only[if_true];unfold Gx;simp only;have g:=((Good.begin h []).take ho).announce;obtain⟨q,j,_⟩:=Nl (Ar (Cf {(⟨s,[],[]⟩:Cs) with s:=Ct s}).s.views).2 (Cf {(⟨s,[],[]⟩:Cs) with s:=Ct s});exact g.send q j
  | false=>
   simp only[Bool.false_eq_true,if_false];unfold Gs;obtain⟨q,j⟩:=TB (List.range (Fc s)) (Db ⟨s,[],[]⟩ (AZ (Ar s.views)) 13 (AF [s.base,s.log.length]));exact(Good.begin h []).send q j
 | false=>
  simp only[Bool.false_eq_true,if_false];cases hl:AE s with
  | true=>
   simp only[if_true];by_cases F:Ee s=true
   .rw[if_pos F];obtain⟨q,j⟩:=h.install ho hl;exact⟨q,j,h.st0⟩
   .rw[if_neg F];have y:Bh s.views (s.self,s.base,s.log)=true:=by
     unfold Bh;simp only[zB];refine⟨?_,h.based⟩;split
     .rfl
     .next hb=>
      rcases h.known with hk|⟨v,hk,hv⟩
      .exact absurd hk hb
      .rw[hk];simp only[zB,zE];refine⟨?_,hv⟩;have u:v∈s.views:=List.mem_of_find?_eq_some hk;have K:v.1=s.base:=by have:=List.find?_some hk;simpa using this
       obtain⟨i,D,rfl⟩:=List.mem_iff_getElem.1 u;have n1:=Hl h.vs i D;have n2:=Hl h.vs (s.views.length - 1) U;rw[Gi D] at n1;have z:s.base≠(Ar s.views).1:=by
        unfold AD at ho;simpa using ho
       unfold Ar at z|-;omega
    have G:=h.put (f:=(s.self,s.base,s.log)) ho hl h.self y;obtain⟨q,j⟩:=G.install ho hl;refine⟨q,?_,h.st0⟩;exact⟨j.st,j.cut,j.pre⟩
  | false=>
   simp only[Bool.false_eq_true,if_false];exact(Good.begin h []).send rfl rfl
theorem Jf(r:Rd):0<=(AN r).1:=by
 unfold AN;split
 .exact Int.le_refl _
 .exact Int.natCast_nonneg _
theorem KV(r:Rd):(Ds r).1.length<=6000:=by
 unfold Ds BT;have:=(Gr r.1 6000).1;simp only;split
 .simp
 .split
  .simp
  .simp only[zT];omega
theorem Zp{j:Int}{r q:Rd}{m:Msg}(h:Dg j r=some (m,q)):m.kind=j/\(j=11->m.pay.length<=6000)/\(j=13->0<=m.first):=by
 unfold Dg at h;simp only at h;split at h
 .next hk=>cases h;exact⟨rfl,λ_=>KV _,λe=>by omega⟩
 .split at h
  .next hk=>cases h;exact⟨rfl,λe=>by omega,λe=>by omega⟩
  .split at h
   .next hk=>cases h;exact⟨rfl,λe=>by omega,λ_=>Jf _⟩
   .split at h
    .next hk=>cases h;exact⟨rfl,λe=>by omega,λe=>by omega⟩
    .split at h
     .next hk=>cases h;exact⟨rfl,λe=>by omega,λe=>by omega⟩
     .cases h
theorem P9{j:List UInt8}{m:Msg}(h:Bd j=some m):(m.kind=11->m.pay.length<=6000)/\(m.kind=13->0<=m.first):=by
 unfold Bd at h;simp only at h;split at h
 .cases h
 .split at h
  .cases h
  .next m' r' hb=>
   split at h
   .cases h;obtain⟨q,u,y⟩:=Zp hb;rw[q];exact⟨u,y⟩
   .cases h
theorem UJ{l ex:List Ent}{b:Int}(h:CK l=b)(j:∀e∈ex,e.v=b):CK (l++ex)=b:=by
 rcases List.eq_nil_or_concat ex with rfl|⟨ys,y,rfl⟩
 .simpa using h
 .unfold CK;have:(l++ys.concat y)[(l++ys.concat y).length - 1]?=some y:=by
   rw[List.concat_eq_append,<-List.append_assoc];simp
  rw[this];exact j y zj
theorem Good.appended{s:St}{c:Cs}(g:Good s c)(D:AD c.s=true)(m:Msg):Good s (CQ c m):=by
 obtain⟨_,q⟩:=g.vs.open_base D;obtain⟨G,K,u⟩:=g.vs.log q;unfold CQ;split
 .exact g
 .split
  .exact g
  .split
   .exact g
   .next hany=>
    split
    .exact g
    .next hv=>
     have j:Bc (c.s.log++m.ents.drop (Cc c m))=true:=by
      cases hx:Bc (c.s.log++m.ents.drop (Cc c m)) with
      | true=>rfl
      | false=>exact absurd (.inl hx) hv
     have F:¬c.s.sent<Aq (c.s.log++m.ents.drop (Cc c m)) c.s.self:=λe=>hv (.inr e);have h:∀e∈m.ents.drop (Cc c m),e.v=c.s.base:=by
      intro e z;have y:∀x∈m.ents.drop (Cc c m),x.v=c.s.base/\¬x.o=0:=by simpa using hany
      exact(y e z).1
     refine(g.extend (ex:=m.ents.drop (Cc c m)) (Js (by simp only[zA];omega) j (UJ u h) q) U).raise ?_;simp only;omega
theorem Good.submitted{s:St}{c:Cs}(g:Good s c)(R:AD c.s=true){j:Int}(Q:AQ j=true)(q:j≠c.s.self){m:Msg}(y:m.pay.length<=6000):Good s (EF c j m):=by
 obtain⟨_,u⟩:=g.vs.open_base R;obtain⟨z,D,F⟩:=g.vs.log u;unfold EF;split
 .next h=>
  obtain⟨G,K⟩:=h;obtain⟨v1,v2⟩:=Ox D K z F Q y;rw[G];refine g.extend (Js zj v1 v2 u) ?_;rw[Iw];have:Aq [(⟨c.s.base,j,(Aq c.s.log j:Int)+1,m.pay⟩:Ent)] c.s.self=0:=by simp[Aq,q]
  rw[this];exact g.vs.own
 .exact g
theorem SP{s:St}(h:VS s){u:Int}(W:AQ u=true)(z:u≠s.self){m:Msg}(G:m.kind=11->m.pay.length<=6000)(K:m.kind=13->0<=m.first)(q:m.num=(Ar s.views).1):Good s (BH ⟨s,[],[]⟩ u m):=by
 have g:=Good.begin h [];unfold BH;simp only;split
 .next hc=>exact g.submitted hc.2.1 W z (G hc.1)
 .split
  .next hc=>exact g.appended hc.2.1 m
  .split
   .next hc=>
    unfold Eo;split
    .exact g
    .next hle=>
     have F:=h.ack hc.2.1 hc.2.2.1 z hc.2.2.2 (K hc.1) (by simp only at hle;omega);have g':Good s {(⟨s,[],[]⟩:Cs) with s:={s with marks:=CF s.marks u m.first}}:=⟨F,Grown.same rfl rfl,h.st0⟩;exact g'.announce
   .split
    .next hc=>
     split
     .next y=>
      have F:=h.put (f:=(u,m.first,m.ents)) hc.2.1 hc.2.2 W y;obtain⟨T,D⟩:=F.install hc.2.1 hc.2.2;exact⟨T,⟨D.st,D.cut,D.pre⟩,h.st0⟩
     .exact g
    .split
     .next hc=>
      unfold FK;split
      .next hi=>
       obtain⟨i1,R,X,i4⟩:=hi;simp only at R X i4;have j:s.marks=[]:=by
        rcases h.mk0 with j|⟨j,_⟩
        .exact j
        .rw[hc.2.1] at j;cases j
       have Q:s.fls=[]:=by
        rcases h.fl0 with j|⟨_,j⟩
        .exact j
        .rw[hc.2.2.1] at j;cases j
       rw[q] at R;obtain⟨T,D⟩:=h.relog j R hc.2.2.2.2 X i4;have e:({s with base:=m.num,log:=m.ents}:St)={s with base:=(Ar s.views).1,log:=m.ents,fls:=[]}:=by rw[q,<-Q]
       refine⟨?_,?_,h.st0⟩
       .show VS {s with base:=m.num,log:=m.ents};rw[e];exact T
       .show Grown s {s with base:=m.num,log:=m.ents} [];exact Grown.same rfl D
      .exact g
     .exact g
theorem Sm{s:St}(h:VS s)(q:Int)(j:List UInt8):((BU s q j).2≠0/\(BU s q j).1.dl=[])\/((BU s q j).2=0/\Good s (BU s q j).1):=by
 unfold BU;split
 .exact .inl ⟨zd,rfl⟩
 .next hc=>
  have y:AQ q=true:=by
   cases hx:AQ q with
   | true=>rfl
   | false=>exact absurd (.inr (.inl hx)) hc
  have u:q≠s.self:=λe=>hc (.inr (.inr e));split
  .exact .inl ⟨zd,rfl⟩
  .next m hm=>
   obtain⟨z,D⟩:=P9 hm;right;refine⟨rfl,?_⟩;split
   .next hn=>exact SP h y u z D hn
   .exact Good.begin h []
theorem PR{P:Prop}(h:P:=by
 exact⟨(I7 _).1,(I7 _).2,zO _,λe=>by simp only at e;omega⟩):P:=h
theorem Ya(r:Rd):(AN r).1<=1099511627776:=by
 unfold AN;split
 .simp
 .simp only;omega
theorem Ns:∀(n:Nat) (r:Rd) (out:List Ent),(∀e∈out,e.p.length<=6000)->(CB n r out).1.length<=out.length+n/\∀e∈(CB n r out).1,e.p.length<=6000
 | 0,_,out,h=>⟨zR _,h⟩
 | n+1,r,out,h=>by
  unfold CB;split
  .exact⟨Nat.le_add_right _ _,h⟩
  .have:=Ns n (Eq r).2 (out++[(Eq r).1]) (λe j=>by
    rcases List.mem_append.1 j with j|j
    .exact h e j
    .simp only[zC,zN,or_false] at j;subst j;exact KV _)
   refine⟨zL this.1 zm,this.2⟩
theorem UY:∀(n:Nat) (r:Rd) (out:List Ent),r.2=true->(CB n r out).1=out
 | 0,_,_,_=>rfl
 | n+1,r,out,h=>by unfold CB;rw[if_pos h]
theorem I7(r:Rd):(Cj r).1.length<=2000/\∀e∈(Cj r).1,e.p.length<=6000:=by
 unfold Cj;by_cases h:2000<(AN r).1
 .rw[if_pos h,UY _ _ _ rfl];exact⟨zO _,λe j=>by cases j⟩
 .rw[if_neg h];have:=Ns (AN r).1.toNat (AN r).2 [] (λe j=>by cases j);have q:=Jf r;exact⟨zL this.1 zm,this.2⟩
theorem Wm{j:Int}{r u:Rd}{m:Msg}(h:Dg j r=some (m,u)):m.ents.length<=2000/\(∀e∈m.ents,e.p.length<=6000)/\m.pay.length<=6000/\(m.kind=12->0<=m.first/\m.first<=1099511627776):=by
 unfold Dg at h;simp only at h
 repeat' split at h
 all_goals first|cases h|(simp only[zJ,Prod.mk.injEq] at h;obtain⟨rfl,_⟩:=h)
 .exact⟨zO _,(λe q=>by cases q),KV _,λe=>by simp only at e;omega⟩
 .exact⟨(I7 _).1,(I7 _).2,zO _,λ_=>⟨Jf _,Ya _⟩⟩
 .exact⟨zO _,(λe q=>by cases q),zO _,λe=>by simp only at e;omega⟩
 .exact PR
 .exact PR
theorem OS{j:List UInt8}{m:Msg}(h:Bd j=some m):m.ents.length<=2000/\(∀e∈m.ents,e.p.length<=6000)/\m.pay.length<=6000/\(m.kind=12->0<=m.first/\m.first<=1099511627776):=by
 unfold Bd at h;simp only at h;split at h
 .cases h
 .split at h
  .cases h
  .next m' r hb=>
   split at h
   .simp only[zJ] at h;subst h;exact Wm hb
   .cases h
open Go.RowKit
theorem N5{P:Prop}(h:P:=by
 clear y;go_wp2;go_round
 case rel=>exact⟨k+1,U,by go_num,aa⟩
 case measure=>simp[intOf];omega):P:=h
def LK(Q X:Prop)(en:Ending):Prop:=∃r,en=.returned (.bool r)/\(r=true->Q)/\X
theorem Mo(A:Option Addr)(c:Nat)(l:List Ent)(w:World)(h:Row w A (Aa.cells l))(hn:l.length<=9223372036854775807) :
  Calls prog 38 #[.slice A l.length c] w λe w'=>LK (l.length<=60/\∀e∈l,e.p.length<=7000) (w=w') e:=by
 have H:=J h;clear h;go_enter func38,ntmps38;go_wp2;go_loop [3] (λi=>∃k:Nat,k<=l.length/\i=I k/\O (∀(j:Nat) (e:Ent),j<k->l[j]?=some e->e.p.length<=7000)) (λi=>l.length - (intOf i).toNat)
 case atStart=>exact⟨0,zO _,rfl,J (λj e q=>absurd q (Nat.not_lt_zero _))⟩
 case round=>
  obtain⟨k,hk,rfl,D⟩:=hrel;by_cases u:k<l.length
  .obtain⟨b,R,e,rfl,hb,T,W,X,c3,F⟩:=C9 H.o u;have Q:=CZ e.p;by_cases y:7000<e.p.length
   .go_wp2;go_ret;exact⟨_,rfl,(λh=>by cases h),rfl⟩
   .have aa:O (∀(j:Nat) (x:Ent),j<k+1->l[j]?=some x->x.p.length<=7000):=J (λj x q z=>by
     rcases Nat.lt_or_ge j k with h1|h1
     .exact D.o j x h1 z
     .have:j=k:=U;subst this;rw[F.o] at z;cases z;omega)
    have K:e.p.length<=7000:=U;exact N5
  .go_wp2;go_ret;exact⟨_,rfl,λh=>⟨by have:=of_decide_eq_true h;omega,λe G=>by
    obtain⟨j,q,rfl⟩:=List.mem_iff_getElem.1 G;exact D.o j _ U (zY q)⟩,rfl⟩
structure SmallB(b:BM):Prop where
 vs:b.vs.length<=20
 log:b.log.length<=60
 pend:b.pend.length<=40
 marks:b.marks.length<=40
 fls:b.fls.length<=20
 vx:∀v∈b.vs,v.xs.length<=40
 fl:∀f∈b.fls,f.log.length<=60/\∀e∈f.log,e.p.length<=7000
 pp:∀p∈b.pend,p.length<=7000
 lp:∀e∈b.log,e.p.length<=7000
theorem SmallB.fits{b:BM}(h:SmallB b)(u:b.log.length<=b.cl/\b.cl<=maxLen):b.Fits:=
 ⟨zL h.vs zd,λv z=>zL (h.vx v z) zd,zL h.log zd,λe j=>zL (h.lp e j) zd,zL h.pend zd,λp y=>zL (h.pp p y) zd,zL h.marks zd,zL h.fls zd,λf q=>⟨zL (h.fl f q).1 zd,λe j=>zL ((h.fl f q).2 e j) zd⟩,u⟩
structure BM.Slices(b:BM):Prop where
 vs:b.vs.length<=b.cv/\b.cv<=maxLen
 log:b.log.length<=b.cl/\b.cl<=maxLen
 pend:b.pend.length<=b.cp/\b.cp<=maxLen
 marks:b.marks.length<=b.cm/\b.cm<=maxLen
 fls:b.fls.length<=b.cf/\b.cf<=maxLen
theorem TD(b:BM)(w:World)(h:b.Reads w)(hs:b.Slices) :
  Calls prog 11 #[.agg b.cells] w λe w'=>LK (SmallB b) (V w w') e:=by
 obtain⟨self,base,z,G,Av,cv,vs,Al,cl,F,Ap,cp,q,Am,cm,u,Af,cf,D⟩:=b;have T:O (V w (w.alloc (.cells #[I self,.slice Av vs.length cv,I base,.slice Al F.length cl,I z,I G,.slice Ap q.length cp,.slice Am u.length cm,.slice Af D.length cf] 28))):=J (V.new _ _);have B0:O (BIs (w.alloc (.cells #[I self,.slice Av vs.length cv,I base,.slice Al F.length cl,I z,I G,.slice Ap q.length cp,.slice Am u.length cm,.slice Af D.length cf] 28)) w.heap.size #[I self,.slice Av vs.length cv,I base,.slice Al F.length cl,I z,I G,.slice Ap q.length cp,.slice Am u.length cm,.slice Af D.length cf] 28):=J (BIs.new _ _ _);have R0:=J (h.ext T.o);have az:maxLen<=9223372036854775807:=by unfold maxLen;decide
 obtain⟨am,an⟩:=hs.vs;obtain⟨ao,ap⟩:=hs.log;obtain⟨aq,ar⟩:=hs.pend;obtain⟨au,av⟩:=hs.marks;obtain⟨aw,ae⟩:=hs.fls;obtain⟨q0,q1,q2,q3,q4,q5,q6,q7,q8⟩:=nine B0.o;simp only at am an ao ap aq ar au av aw ae;obtain⟨RV,RL,RP,RM,RF⟩:=R0.o;replace RV:=J RV;replace RL:=J RL;replace RP:=J RP;replace RM:=J RM;replace RF:=J RF;simp only at RV RL RP RM RF;clear h hs R0;unfold BM.cells;have W:∀(w':World),V w w'->LK (SmallB (⟨self,base,z,G,Av,cv,vs,Al,cl,F,Ap,cp,q,Am,cm,u,Af,cf,D⟩:BM)) (V w w') (.returned (.bool false)):=λw' x=>⟨false,rfl,λh=>(by cases h),x⟩;by_cases K:20<vs.length
 .go_enter func11,ntmps11;go_wp2;go_ret;exact W _ T.o
 by_cases h2:60<F.length
 .have d1:vs.length<=20:=U;clear K;go_enter func11,ntmps11;go_wp2;go_ret;exact W _ T.o
 by_cases h3:40<q.length
 .have d1:vs.length<=20:=U;have d2:F.length<=60:=U;clear K h2;go_enter func11,ntmps11;go_wp2;go_ret;exact W _ T.o
 by_cases h4:40<u.length
 .have d1:vs.length<=20:=U;have d2:F.length<=60:=U;have d3:q.length<=40:=U;clear K h2 h3;go_enter func11,ntmps11;go_wp2;go_ret;exact W _ T.o
 have d1:vs.length<=20:=U;have d2:F.length<=60:=U;have d3:q.length<=40:=U;have d4:u.length<=40:=U;clear K h2 h3 h4;by_cases h5:20<D.length
 .go_enter func11,ntmps11;go_wp2;go_ret;exact W _ T.o
 have d5:D.length<=20:=U;clear h5;go_enter func11,ntmps11;go_upto_region 3 with fail;generalize (w.alloc (.cells #[I self,.slice Av vs.length cv,I base,.slice Al F.length cl,I z,I G,.slice Ap q.length cp,.slice Am u.length cm,.slice Af D.length cf] 28))=u0 at *;have a9:w.heap.size<u0.heap.size:=B0.o.lt;go_wp2;go_loop [3] (λi=>∃k:Nat,k<=vs.length/\i=I k/\O (∀(j:Nat) (v:VwM),j<k->vs[j]?=some v->v.xs.length<=40)) (λi=>vs.length - (intOf i).toNat)
 case atStart=>exact⟨0,zO _,rfl,J (λj e Q=>absurd Q (Nat.not_lt_zero _))⟩
 case round=>
  obtain⟨k,hk,rfl,HK⟩:=hrel;by_cases ak:k<vs.length
  .obtain⟨bb,af,n,X,cx,xs,hA,hb,c0,c1,HR,g1,g2,HE⟩:=DK RV.o ak;subst hA;by_cases y:40<xs.length
   .go_wp2;go_ret;exact W _ T.o
   .have aa:O (∀(j:Nat) (v:VwM),j<k+1->vs[j]?=some v->v.xs.length<=40):=J (λj x Q R=>by
     rcases Nat.lt_or_ge j k with K|K
     .exact HK.o j x K R
     .have:j=k:=U;subst this;rw[HE.o] at R;cases R;simp only;omega)
    have al:xs.length<=40:=U;exact N5
  .have HV:O (∀v∈vs,v.xs.length<=40):=J (λe he=>by
    obtain⟨j,Q,rfl⟩:=List.mem_iff_getElem.1 he;exact HK.o j _ U (zY Q))
   clear HK;go_wp2;go_loopw [4] (λi wr=>∃k:Nat,k<=D.length/\i=I k/\O (∀(j:Nat) (f:FlM),j<k->D[j]?=some f->f.log.length<=60/\∀e∈f.log,e.p.length<=7000)/\u0=wr) (λi _=>D.length - (intOf i).toNat)
   case atStart=>exact⟨0,zO _,rfl,J (λj e Q=>absurd Q (Nat.not_lt_zero _)),rfl⟩
   case round=>
    obtain⟨k2,ax,rfl,HF,rfl⟩:=hrel;by_cases ac:k2<D.length
    .obtain⟨bb,af,f,hA,hb,c0,c1,c2,HR,HE⟩:=Fd RF.o ac;subst hA;have ab:=(RF.o.2 f (zX HE.o)).1;go_wp2_with fail;refine(Mo f.A f.c f.log u0 HR.o (by have K:=ab.1;have h2:=ab.2;omega)).mono ?_;rintro e w' ⟨r,rfl,hr,rfl⟩;cases r with
     | false=>
      go_wp2;go_ret;exact W _ T.o
     | true=>
      have ag:O (∀(j:Nat) (f:FlM),j<k2+1->D[j]?=some f->f.log.length<=60/\∀e∈f.log,e.p.length<=7000):=J (λj x Q R=>by
       rcases Nat.lt_or_ge j k2 with K|K
       .exact HF.o j x K R
       .have:j=k2:=U;subst this;rw[HE.o] at R;cases R;exact hr rfl)
      clear hr;go_wp2;go_roundw
      case rel=>exact⟨k2+1,U,by go_num,ag,by first|trivial|rfl⟩
      case measure=>simp[intOf];omega
    .have ah:O (∀f∈D,f.log.length<=60/\∀e∈f.log,e.p.length<=7000):=J (λe he=>by
      obtain⟨j,Q,rfl⟩:=List.mem_iff_getElem.1 he;exact HF.o j _ U (zY Q))
     clear HF;go_wp2;go_loopw [5] (λi wr=>∃k:Nat,k<=q.length/\i=I k/\O (∀(j:Nat) (p:List UInt8),j<k->q[j]?=some p->p.length<=7000)/\u0=wr) (λi _=>q.length - (intOf i).toNat)
     case atStart=>exact⟨0,zO _,rfl,J (λj e Q=>absurd Q (Nat.not_lt_zero _)),rfl⟩
     case round=>
      obtain⟨k3,ay,rfl,HP,rfl⟩:=hrel;by_cases ad:k3<q.length
      .obtain⟨bb,af,pl,hA,hb,c0,HE⟩:=Gm RP.o ad;subst hA;have ba:=CZ pl;by_cases y:7000<pl.length
       .go_wp2;go_ret;exact W _ T.o
       .have ai:O (∀(j:Nat) (p:List UInt8),j<k3+1->q[j]?=some p->p.length<=7000):=J (λj x Q R=>by
         rcases Nat.lt_or_ge j k3 with K|K
         .exact HP.o j x K R
         .have:j=k3:=U;subst this;rw[HE.o] at R;cases R;omega)
        have al:pl.length<=7000:=U;clear y;go_wp2;go_roundw
        case rel=>exact⟨k3+1,U,by go_num,ai,by first|trivial|rfl⟩
        case measure=>simp[intOf];omega
      .have aj:O (∀p∈q,p.length<=7000):=J (λe he=>by
        obtain⟨j,Q,rfl⟩:=List.mem_iff_getElem.1 he;exact HP.o j _ U (zY Q))
       clear HP;go_wp2_with fail;refine(Mo Al cl F u0 RL.o U).mono ?_;rintro e w' ⟨r,rfl,hr,rfl⟩;go_wp2;go_ret;exact⟨r,rfl,λh=>⟨d1,(hr h).1,d3,d4,d5,HV.o,ah.o,aj.o,(hr h).2⟩,T.o⟩
end Go.Proofs.YtponbabbabnaeaaGreat
namespace Go.Proofs.YtponbabbabnaeaaGreat
open Proofs.Tryz
open Go.ChangeShapes Go.WideShapes Go.ChangeAt Go.RowKit
theorem own:ownKnob prog.godebug=none:=by kernel_rfl
theorem Jv:laidOutB prog=true:=by kernel_rfl
theorem MU{w:World}{a:Addr}{k:IntKind}{q:List Int}{z:Nat}(R:z<=q.length)(h:∀i,i<q.length->w.cell? (a.add i)=some (.int k (q.getD i 0))) :
  Row w (some a) ((q.take z).map (Value.int k)):=by
 intro F;have y:0<q.length:=by
  rcases Nat.eq_zero_or_pos q.length with h0|h0
  .have:q=[]:=List.eq_nil_of_length_eq_zero h0;subst this;simp at F
  .exact h0
 obtain⟨b,G,rfl,K⟩:=ints_at h y;refine⟨b,G,rfl,?_,λj v Q=>?_⟩
 .have:=World.block_lt_of_cell? w _ (K 0 y);exact this
 .simp only[zM,Option.map_eq_some_iff] at Q;obtain⟨x,u,rfl⟩:=Q;simp only[List.getElem?_take] at u;split at u
  .have D:=(zZ u).1;rw[K j D];simp[List.getD,u]
  .cases u
section
variable {H:Type} {enc:TypeId×Value->H} {w:World} {base:Nat} {spare:Nat->Bool} {held:Bool}
theorem T8{u:Nat}{cs:List Value}{x:DataW H×List MemPlace}(h:DataW.trod enc prog w base spare held u 44 cs=some x) :
  ∃A c,∃xs:List Int,cs=[.slice A xs.length c]/\xs.length<=c/\c<=maxLen/\Row w A (Ai xs)/\∀x∈xs,I64 x:=by
 rcases open_ints Tryz.underlying44 Tryz.underlying3 zh h with ⟨q,_⟩|⟨a,z,cap,G,q,_,R,K,Q,_,j,D⟩
 .exact⟨none,0,[],q,zR _,zO _,Row.nil _ _,λx F=>by simp at F⟩
 .have y:z<=G.length:=by rw[Q];split<;>omega
  refine⟨some a,cap,G.take z,by rw[q,zT,Nat.min_eq_left y],by rw[zT];omega,K,MU y j,λx F=>?_⟩;have:=bounds_i64 (D x (List.mem_of_mem_take F));exact this
theorem Ts{y:Nat}{cs:List Value}{x:DataW H×List MemPlace}(h:DataW.trod enc prog w base spare held y 29 cs=some x) :
  ∃A c,∃bs:List UInt8,cs=[.slice A bs.length c]/\bs.length<=c/\c<=maxLen/\Row w A (Aj bs):=by
 rcases open_ints Tryz.underlying29 Tryz.underlying5 zh h with ⟨u,_⟩|⟨a,j,cap,F,u,_,W,R,T,_,q,G⟩
 .exact⟨none,0,[],u,zR _,zO _,Row.nil _ _⟩
 .have D:j<=F.length:=by rw[T];split<;>omega
  have Q:Aj ((F.take j).map λz=>UInt8.ofNat z.toNat)=(F.take j).map (Value.int .u8):=by
   unfold Aj;rw[List.map_map];refine List.map_congr_left λz K=>?_;have Q:=bounds_u8 (G z (List.mem_of_mem_take K));simp only[Function.comp,UInt8.toNat_ofNat'];congr 1;omega
  refine⟨some a,cap,(F.take j).map λz=>UInt8.ofNat z.toNat,by rw[u,zP,zT,Nat.min_eq_left D],by rw[zP,zT];omega,R,?_⟩;rw[Q];exact MU D q
theorem Et{j:Nat}{cs:List Value}{x:DataW H×List MemPlace}(h:DataW.trod enc prog w base spare held j 3 cs=some x):∃n,cs=[I n]/\I64 n:=by
 obtain⟨n,q,_,u⟩:=DataW.trod_int Tryz.underlying3 h;exact⟨n,q,bounds_i64 u⟩
theorem Xq{r:Reach}{u:Nat}{v:Value}{d:DataW H}{p:List MemPlace}(D:Value.okWide prog w r u 29 v)(h:DataW.Trod enc prog w base spare held 29 v d p) :
  ∃A c,∃bs:List UInt8,v=.slice A bs.length c/\bs.length<=c/\c<=maxLen/\Row w A (Aj bs):=by
 obtain⟨a,F,cap,rfl⟩:=okWide_slice Tryz.underlying29 D;obtain⟨q,y⟩:=h;obtain⟨A,c,xs,j,z⟩:=Ts y;simp[Value.cells] at j;obtain⟨rfl,rfl,rfl⟩:=j;exact⟨_,_,xs,rfl,z⟩
theorem Zc{r:Reach}{j:Nat}{v:Value}{d:DataW H}{p:List MemPlace}(u:Value.okWide prog w r j 3 v)(h:DataW.Trod enc prog w base spare held 3 v d p):∃n,v=I n/\I64 n:=by
 obtain⟨n,rfl,_,_,q⟩:=open_int Tryz.underlying3 u h;exact⟨n,rfl,bounds_i64 q⟩
end
end Go.Proofs.YtponbabbabnaeaaGreat
namespace Go.Proofs.YtponbabbabnaeaaGreat
open Proofs.Tryz
open Go.ChangeShapes Go.WideShapes Go.ChangeAt Go.RowKit
section
variable {H:Type} {enc:TypeId×Value->H} {w:World} {base:Nat} {spare:Nat->Bool} {held:Bool}
theorem Hv{t:TypeId}{z:Array Field}{j:Nat}{cs:List Value}{x:DataW H×List MemPlace}(R:prog.underlying t=some (.struct z))(u:Go.Deep.oneCellFields prog z=true)
  (h:DataW.trod enc prog w base spare held j t cs=some x):cs.length=prog.cellsOf t/\∃n,∀(i:Nat) (f:Field) (v:Value),z[i]?=some f->cs[i]?=some v->∃y,DataW.trod enc prog w base spare held n f.type [v]=some y:=by
 obtain⟨xs,n,_,_,Q,q,K⟩:=DataW.trod_struct R h;refine⟨Q,n,λi f v F G=>?_⟩;obtain⟨o,k⟩:=Go.Deep.hone_of u i f F;have D:=K i f F;rw[o,k,List.drop_eq_getElem_cons (zZ G).1,(zZ G).2] at D;have T:i<xs.length:=by rw[q];exact(Array.getElem?_eq_some_iff.1 F).1
 exact⟨xs[i],by rw[zY T] at D;simpa using D⟩
theorem Kr{j:Nat}{cs:List Value}{x:DataW H×List MemPlace}(h:DataW.trod enc prog w base spare held j 9 cs=some x):∃p:List UInt8,cs=[.string (Ah p)]/\p.length<=maxLen:=by
 obtain⟨s,q,_,u⟩:=DataW.trod_string Tryz.underlying9 h;refine⟨s.data.toList,?_,by rw[Array.length_toList];exact u⟩;rw[q,Gf]
theorem GQ{α:Type} [Inhabited α] (E:Elem α) (Q:α->Prop) (hc:prog.cellsOf E.ty=E.k)
  (ac:∀(F:Nat) (cs':List Value) (x:DataW H×List MemPlace),DataW.trod enc prog w base spare held F E.ty cs'=some x->∃a,cs'=E.f a/\E.ok a/\(∀r∈E.inn a,Row w r.1 r.2)/\Q a)
  {F:Nat} {cs:List Value} {x:DataW H×List MemPlace} (h:DataW.trod enc prog w base spare held F E.st cs=some x) :
  ∃A c,∃l:List α,cs=[.slice A l.length c]/\l.length<=c/\c<=maxLen/\E.Box w A l/\∀a∈l,Q a:=by
 rcases Go.Deep.open_slice E.und h with ⟨T,_⟩|⟨a,z,cap,m,n,D,Pl,T,_,hl,hm,af,_,hx⟩
 .exact⟨none,0,[],T,zR _,zO _,Elem.Box.nil _ _,λa ha=>by cases ha⟩
 .have ai:z<=m:=by rw[af];split<;>omega
  obtain⟨f,hf⟩:=Go.Deep.choose_lt (α:=α) (n:=z) (p:=λi b=>(∀j,j<E.k->w.cell? ((a.add (i*E.k)).add j)=(E.f b)[j]?)/\E.ok b/\(∀r∈E.inn b,Row w r.1 r.2)/\Q b) (λi hi=>by
   obtain⟨cs',h1,h2⟩:=hx i U;rw[hc] at h1;obtain⟨_,_,R⟩:=World.cells?_some h1;obtain⟨b,rfl,hb⟩:=ac n cs' _ h2;exact⟨b,R,hb⟩)
  have K:((List.range z).map f).length=z:=zj;refine⟨some a,cap,(List.range z).map f,by rw[T,K],by rw[K];exact hl,hm,⟨?_,λb hb=>?_⟩,λb hb=>?_⟩
  .intro ag;have y:0<z:=by
    rcases Nat.eq_zero_or_pos z with h0|h0
    .subst h0;simp[Elem.cells] at ag
    .exact h0
   obtain⟨b,ah,ab⟩:=a;have hk:=E.pos;have G:=(hf 0 y).1 0 hk;have X:∃v,(E.f (f 0))[0]?=some v:=⟨_,zY (by rw[E.len];exact hk)⟩;obtain⟨v0,X⟩:=X;rw[X] at G;have W:ab=none:=by simpa[Addr.add] using World.cell?_spot G
   subst W;rw[Go.WideShapes.add_plain,Go.WideShapes.add_plain] at G;refine⟨b,ah,rfl,World.block_lt_of_cell? w _ G,λj u hj=>?_⟩;obtain⟨i,j',q,rfl,ae,hq,hu⟩:=E.cells_inv hj;have aa:i<z:=by have:=(zZ hq).1;simpa using this
   have ad:f i=q:=by
    rw[zM,List.getElem?_range aa] at hq;simpa using hq
   have:=(hf i aa).1 j' ae;rw[Go.WideShapes.add_plain,Go.WideShapes.add_plain,ad,hu,Nat.add_assoc] at this;exact this
  .obtain⟨i,hi,rfl⟩:=List.mem_map.1 hb;have:=hf i (List.mem_range.1 hi);exact⟨this.2.1,this.2.2.1⟩
  .obtain⟨i,hi,rfl⟩:=List.mem_map.1 hb;exact(hf i (List.mem_range.1 hi)).2.2.2
theorem NG(j:Nat)(cs:List Value)(x:DataW H×List MemPlace)(h:DataW.trod enc prog w base spare held j 66 cs=some x):∃a,cs=Aa.f a/\Aa.ok a/\(∀r∈Aa.inn a,Row w r.1 r.2)/\(I64 a.v/\I64 a.o/\I64 a.q):=by
 obtain⟨W,n,u⟩:=Hv Tryz.underlying66 zh h;have y:cs.length=4:=W.trans zh
 match cs,y with
 | [v0,v1,v2,v3],_=>
  obtain⟨y0,K⟩:=u 0 _ v0 rfl rfl;obtain⟨y1,Q⟩:=u 1 _ v1 rfl rfl;obtain⟨y2,R⟩:=u 2 _ v2 rfl rfl;obtain⟨y3,T⟩:=u 3 _ v3 rfl rfl;obtain⟨n0,z,i0⟩:=Et K;obtain⟨n1,D,i1⟩:=Et Q;obtain⟨n2,F,i2⟩:=Et R;obtain⟨p,G,_⟩:=Kr T;cases z;cases D;cases F;cases G;exact⟨⟨n0,n1,n2,p⟩,rfl,trivial,λr X=>by simp[Aa] at X,i0,i1,i2⟩
theorem UL(j:Nat)(cs:List Value)(x:DataW H×List MemPlace)(h:DataW.trod enc prog w base spare held j 123 cs=some x):∃a,cs=AA.f a/\AA.ok a/\(∀r∈AA.inn a,Row w r.1 r.2)/\True:=by
 obtain⟨G,n,u⟩:=Hv Tryz.underlying123 zh h;have q:cs.length=2:=G.trans zh
 match cs,q with
 | [v0,v1],_=>
  obtain⟨W,D⟩:=u 0 _ v0 rfl rfl;obtain⟨X,F⟩:=u 1 _ v1 rfl rfl;obtain⟨Q,y,R⟩:=Et D;obtain⟨n1,z,T⟩:=Et F;cases y;cases z;exact⟨(Q,n1),rfl,trivial,λr K=>by simp[AA] at K,trivial⟩
theorem Va(j:Nat)(cs:List Value)(x:DataW H×List MemPlace)(h:DataW.trod enc prog w base spare held j 9 cs=some x):∃a,cs=AU.f a/\AU.ok a/\(∀r∈AU.inn a,Row w r.1 r.2)/\True:=by
 obtain⟨p,e,_⟩:=Kr h;exact⟨p,e,trivial,λr q=>by simp[AU] at q,trivial⟩
theorem WJ(j:Nat)(cs:List Value)(x:DataW H×List MemPlace)(h:DataW.trod enc prog w base spare held j 46 cs=some x):∃a,cs=AL.f a/\AL.ok a/\(∀r∈AL.inn a,Row w r.1 r.2)/\True:=by
 obtain⟨R,n,y⟩:=Hv Tryz.underlying46 zh h;have u:cs.length=2:=R.trans zh
 match cs,u with
 | [v0,v1],_=>
  obtain⟨y0,F⟩:=y 0 _ v0 rfl rfl;obtain⟨y1,G⟩:=y 1 _ v1 rfl rfl;obtain⟨W,z,X⟩:=Et F;obtain⟨A,c,xs,D,K,Q,T,_⟩:=T8 G;cases z;cases D;exact⟨⟨W,A,c,xs⟩,rfl,⟨K,Q⟩,λr q=>by simp only[AL,zC,zN,or_false] at q;subst q;exact T,trivial⟩
theorem WX(j:Nat)(cs:List Value)(x:DataW H×List MemPlace)(h:DataW.trod enc prog w base spare held j 80 cs=some x):∃a,cs=flE.f a/\flE.ok a/\(∀r∈flE.inn a,Row w r.1 r.2)/\True:=by
 obtain⟨X,n,q⟩:=Hv Tryz.underlying80 zh h;have u:cs.length=3:=X.trans zh
 match cs,u with
 | [v0,v1,v2],_=>
  obtain⟨y0,G⟩:=q 0 _ v0 rfl rfl;obtain⟨y1,K⟩:=q 1 _ v1 rfl rfl;obtain⟨y2,Q⟩:=q 2 _ v2 rfl rfl;obtain⟨n0,z,i0⟩:=Et G;obtain⟨n1,D,i1⟩:=Et K
  haveI:Inhabited Ent:=⟨⟨0,0,0,[]⟩⟩
  obtain⟨A,c,l,F,R,T,W,_⟩:=GQ Aa _ zh NG Q;cases z;cases D;cases F;exact⟨⟨n0,n1,A,c,l⟩,rfl,⟨R,T⟩,λr y=>by simp only[flE,zC,zN,or_false] at y;subst y;exact W.1,trivial⟩
theorem Zb{α:Type}{cs:Array α}(h:cs.size=9):∃j q u y z D F G K,cs=#[j,q,u,y,z,D,F,G,K]:=by
 obtain⟨l⟩:=cs
 match l,h with
 | [j,q,u,y,z,D,F,G,K],_=>exact⟨j,q,u,y,z,D,F,G,K,rfl⟩
theorem WP{r:Reach}{b0:Nat}{v:Value}{d:DataW H}{p:List MemPlace}(hv:Value.okWide prog w r b0 28 v)(h:DataW.Trod enc prog w base spare held 28 v d p) :
  ∃b:BM,v=.agg b.cells/\b.Reads w/\b.Slices/\(I64 b.self/\I64 b.base/\I64 b.stable/\I64 b.sent):=by
 obtain⟨cs,rfl,F⟩:=okWide_struct Tryz.underlying28 hv;obtain⟨c0,c1,c2,c3,c4,c5,c6,c7,c8,rfl⟩:=Zb (F.trans zh);obtain⟨K,j⟩:=h;obtain⟨_,n,j⟩:=Hv Tryz.underlying28 zh j;simp only[Value.cells] at j;obtain⟨y0,g0⟩:=j 0 _ c0 rfl rfl;obtain⟨y1,g1⟩:=j 1 _ c1 rfl rfl;obtain⟨y2,g2⟩:=j 2 _ c2 rfl rfl;obtain⟨y3,g3⟩:=j 3 _ c3 rfl rfl;obtain⟨y4,g4⟩:=j 4 _ c4 rfl rfl;obtain⟨y5,g5⟩:=j 5 _ c5 rfl rfl;obtain⟨y6,g6⟩:=j 6 _ c6 rfl rfl;obtain⟨y7,g7⟩:=j 7 _ c7 rfl rfl;obtain⟨y8,g8⟩:=j 8 _ c8 rfl rfl
 haveI:Inhabited Ent:=⟨⟨0,0,0,[]⟩⟩
 haveI:Inhabited VwM:=⟨⟨0,none,0,[]⟩⟩
 haveI:Inhabited FlM:=⟨⟨0,0,none,0,[]⟩⟩
 obtain⟨self,e0,i0⟩:=Et g0;obtain⟨X,cv,vs,e1,v1,v2,bv,_⟩:=GQ AL _ zh WJ g1;obtain⟨bs,e2,i2⟩:=Et g2;obtain⟨R,cl,G,e3,l1,l2,bl,_⟩:=GQ Aa _ zh NG g3;obtain⟨q,e4,i4⟩:=Et g4;obtain⟨z,e5,i5⟩:=Et g5;obtain⟨W,cp,y,e6,p1,p2,bp,_⟩:=GQ AU _ zh Va g6;obtain⟨T,cm,u,e7,m1,m2,bm,_⟩:=GQ AA _ zh UL g7;obtain⟨Q,cf,D,e8,f1,f2,bf,_⟩:=GQ flE _ zh WX g8;cases e0;cases e1;cases e2;cases e3;cases e4;cases e5;cases e6;cases e7;cases e8;exact⟨⟨self,bs,q,z,X,cv,vs,R,cl,G,W,cp,y,T,cm,u,Q,cf,D⟩,rfl,⟨bv,bl.1,bp.1,bm.1,bf⟩,⟨⟨v1,v2⟩,⟨l1,l2⟩,⟨p1,p2⟩,⟨m1,m2⟩,⟨f1,f2⟩⟩,i0,i2,i4,i5⟩
theorem Z0{r:Reach}{y:Nat}{v:Value}{d:DataW H}{p:List MemPlace}(F:Value.okWide prog w r y 9 v)(h:DataW.Trod enc prog w base spare held 9 v d p):∃q:List UInt8,v=.string (Ah q)/\q.length<=maxLen:=by
 obtain⟨s,rfl,_⟩:=Go.ChangeMaps.open_string Tryz.underlying9 F h;obtain⟨j,z⟩:=h;obtain⟨q,u,D⟩:=Kr z;simp only[Value.cells,List.cons.injEq,and_true] at u;exact⟨q,u,D⟩
end
end Go.Proofs.YtponbabbabnaeaaGreat
