/- Part 3: contracts of functions. Conditions: as each theorem says. -/
import Derived.Laws.BytesString
import Derived.Laws.Cells
import Derived.Lib.LazyBuf
import Derived.Test.YtponbabbabnaeaaGreatQh02
set_option maxRecDepth 100000
set_option maxHeartbeats 40000000
set_option linter.unusedVariables false
namespace Go.Proofs.YtponbabbabnaeaaGreat
open Tryz
open Go.RowKit
def Co:List UInt8->Nat->Nat->Nat×Nat×Int
 | [],_,_=>(0,0,2)
 | c::cs,i,v=>
  if (i=9/\1<c.toNat)\/(0<i/\c.toNat=0) then (0,0,3)
  else if c.toNat<128 then (v+c.toNat % 128*2 ^ (7*i),i+1,0)
  else Co cs (i+1) (v+c.toNat % 128*2 ^ (7*i))
def Az(bs:List UInt8):Nat×Nat×Int:=Co bs 0 0
section
variable {bs:List UInt8} {k v:Nat} {c:UInt8}
theorem LD(h:bs[k]?=some c):bs.drop k=c::bs.drop (k+1):=by
 obtain⟨u,rfl⟩:=zZ h;exact List.drop_eq_getElem_cons u
theorem NV(h:¬k<bs.length):Co (bs.drop k) k v=(0,0,2):=by rw[List.drop_of_length_le U];rfl
theorem G7(h:bs[k]?=some c)(j:(k=9/\1<c.toNat)\/(0<k/\c.toNat=0)):Co (bs.drop k) k v=(0,0,3):=by
 rw[LD h,Co,if_pos j]
theorem IX(h:bs[k]?=some c)(j:¬((k=9/\1<c.toNat)\/(0<k/\c.toNat=0)))(q:c.toNat<128):Co (bs.drop k) k v=(v+c.toNat % 128*2 ^ (7*k),k+1,0):=by
 rw[LD h,Co,if_neg j,if_pos q]
theorem MZ(h:bs[k]?=some c)(j:¬((k=9/\1<c.toNat)\/(0<k/\c.toNat=0)))(q:¬c.toNat<128):Co (bs.drop k) k v=Co (bs.drop (k+1)) (k+1) (v+c.toNat % 128*2 ^ (7*k)):=by
 rw[LD h,Co,if_neg j,if_neg q]
end
theorem XY(bs:List UInt8):∀i v,i<=9->v<2 ^ (7*i)->(Co bs i v).1<U64/\(Co bs i v).2.1<=i+bs.length/\(Co bs i v).2.1<=10:=by
 induction bs with
 | nil=>intro i v _ _;simp[Co,U64]
 | cons c cs G=>
  intro i v Q F;unfold Co;split
  .simp[U64]
  .next hb=>
   have K:c.toNat % 128<128:=Nat.mod_lt _ zd;have z:(2:Nat) ^ (7*(i+1))=128*2 ^ (7*i):=by rw[show 7*(i+1)=7+7*i by omega,Nat.pow_add]
   have j:v+c.toNat % 128*2 ^ (7*i)<2 ^ (7*(i+1)):=by
    rw[z];have q:c.toNat % 128*2 ^ (7*i)<=127*2 ^ (7*i):=Nat.mul_le_mul_right _ U;omega
   split
   .refine⟨?_,by simp only[zK];omega,by show i+1<=10;omega⟩;rcases Nat.lt_or_ge i 9 with u|u
    .have y:(2:Nat) ^ (7*(i+1))<=2 ^ 63:=Nat.pow_le_pow_right zd U;unfold U64;simp only;omega
    .have:i=9:=U;subst this;have q:c.toNat % 128<=1:=by
      have:c.toNat<=1:=by
       rcases Nat.lt_or_ge 1 c.toNat with h|h
       .exact absurd (.inl ⟨rfl,h⟩) hb
       .exact h
      omega
     have y:c.toNat % 128*2 ^ (7*9)<=1*2 ^ 63:=Nat.mul_le_mul q zd;unfold U64;simp only;have D:v<2 ^ 63:=F;omega
   .next hge=>
    have u:i<9:=by
     rcases Nat.lt_or_ge i 9 with h|h
     .exact h
     .exact absurd (.inl ⟨U,U⟩) hb
    have:=G (i+1) _ U j;simp only[zK];omega
theorem Ek(bs:List UInt8):(Az bs).1<U64/\(Az bs).2.1<=bs.length/\(Az bs).2.1<=10:=by
 have:=XY bs 0 0 U zd;unfold Az;omega
theorem Z6(m:Fin 256):bits .and .u8 (m.val:Int) 127=((m.val % 128:Nat):Int):=by revert m;decide +kernel
theorem Li{m:Nat}(h:m<256):bits .and .u8 (m:Int) 127=((m % 128:Nat):Int):=Z6 ⟨m,h⟩
theorem QX(a b:Nat)(j:a<18446744073709551616)(q:b<18446744073709551616):bits .or .u64 (a:Int) (b:Int)=((a||| b:Nat):Int):=by
 have e:∀x:Nat,x<18446744073709551616->(BitVec.ofInt 64 (x:Int)).toNat=x:=λx h=>by
  rw[BitVec.ofInt_natCast,BitVec.toNat_ofNat];exact Nat.mod_eq_of_lt h
 have h:a||| b<2 ^ 64:=Nat.or_lt_two_pow U U;show IntKind.u64.wrap ((BitVec.ofInt 64 (a:Int)||| BitVec.ofInt 64 (b:Int)).toNat:Int)=_;rw[BitVec.toNat_or,e a j,e b q,IntKind.wrap_u64];omega
theorem QR(v x s:Nat)(h:v<2 ^ s):v||| x*2 ^ s=v+x*2 ^ s:=by
 have:=Nat.shiftLeft_add_eq_or_of_lt h x;rw[Nat.shiftLeft_eq] at this;rw[Nat.or_comm,<-this];omega
theorem IB{v m k:Nat}(y:m<256)(z:v<2 ^ (7*k))(u:k<9) :
  bits BinOp.or IntKind.u64 (v:Int) (IntKind.u64.wrap (IntKind.u64.wrap (bits BinOp.and IntKind.u8 (m:Int) 127)*2 ^ (7*k)))=((v+m % 128*2 ^ (7*k):Nat):Int):=by
 have q:(2:Nat) ^ (7*k)<=2 ^ 56:=Nat.pow_le_pow_right zd U;have D:m % 128*2 ^ (7*k)<=127*2 ^ 56:=Nat.mul_le_mul U q;have h:IntKind.u64.wrap (((m % 128:Nat):Int))=((m % 128:Nat):Int):=DA (by unfold U64;omega);have j:((m % 128:Nat):Int)*2 ^ (7*k)=((m % 128*2 ^ (7*k):Nat):Int):=zj;rw[Li y,h,j,DA (by unfold U64;omega),QX _ _ U U,QR _ _ _ z]
theorem Pu{v m:Nat}(z:m<=1)(h:v<2 ^ (7*9)) :
  bits BinOp.or IntKind.u64 (v:Int) (IntKind.u64.wrap (IntKind.u64.wrap (bits BinOp.and IntKind.u8 (m:Int) 127)*9223372036854775808))=((v+m % 128*2 ^ (7*9):Nat):Int):=by
 have u:v<9223372036854775808:=h;have j:IntKind.u64.wrap (((m % 128:Nat):Int))=((m % 128:Nat):Int):=DA (by unfold U64;omega);have q:((m % 128:Nat):Int)*9223372036854775808=((m % 128*2 ^ (7*9):Nat):Int):=zj;have y:m % 128*2 ^ (7*9)<=1*2 ^ 63:=Nat.mul_le_mul U zd;rw[Li U,j,q,DA (by unfold U64;omega),QX _ _ U U,QR _ _ _ h]
theorem Jd{v m k:Nat}(q:v<2 ^ (7*k)):v+m % 128*2 ^ (7*k)<2 ^ (7*(k+1)):=by
 have j:(2:Nat) ^ (7*(k+1))=128*2 ^ (7*k):=by rw[show 7*(k+1)=7+7*k by omega,Nat.pow_add]
 have h:m % 128*2 ^ (7*k)<=127*2 ^ (7*k):=Nat.mul_le_mul_right _ U;omega
theorem and_one(u:Nat)(h:u<18446744073709551616):bits BinOp.and IntKind.u64 (u:Int) 1=((u % 2:Nat):Int):=by
 have e:(BitVec.ofInt 64 (u:Int)).toNat=u:=by rw[BitVec.ofInt_natCast,BitVec.toNat_ofNat];exact Nat.mod_eq_of_lt h
 show IntKind.u64.wrap ((BitVec.ofInt 64 (u:Int)&&& BitVec.ofInt 64 1).toNat:Int)=_;have j:(BitVec.ofInt 64 1).toNat=1:=zd;rw[BitVec.toNat_and,e,j,Nat.and_one_is_mod,IntKind.wrap_u64];omega
theorem Tf(a:Nat)(h:a<9223372036854775808):bits BinOp.xor IntKind.i64 (a:Int) 0=(a:Int):=by
 have e:(BitVec.ofInt 64 (a:Int)).toNat=a:=by rw[BitVec.ofInt_natCast,BitVec.toNat_ofNat];exact Nat.mod_eq_of_lt U
 show IntKind.i64.wrap ((BitVec.ofInt 64 (a:Int) ^^^ BitVec.ofInt 64 0).toNat:Int)=_;simp only[BitVec.ofInt_ofNat,BitVec.xor_zero,e,IntKind.wrap_i64];omega
theorem Tp(a:Nat)(h:a<9223372036854775808):bits BinOp.xor IntKind.i64 (a:Int) (-1) = -(a:Int) - 1:=by
 have e:(BitVec.ofInt 64 (a:Int)).toNat=a:=by rw[BitVec.ofInt_natCast,BitVec.toNat_ofNat];exact Nat.mod_eq_of_lt U
 show IntKind.i64.wrap ((BitVec.ofInt 64 (a:Int) ^^^ BitVec.ofInt 64 (-1)).toNat:Int)=_;have j:BitVec.ofInt 64 (-1)=BitVec.allOnes 64:=zd;rw[j,BitVec.xor_allOnes,BitVec.toNat_not,e,IntKind.wrap_i64];omega
theorem Ua{u:Nat}(h:u<U64):bits BinOp.xor IntKind.i64 (wrap64 ((u:Int) / 2)) (wrap64 (-wrap64 (bits BinOp.and IntKind.u64 (u:Int) 1)))=EJ u:=by
 unfold U64 at h;have j:wrap64 ((u:Int) / 2)=((u / 2:Nat):Int):=by unfold wrap64;omega
 rw[and_one u h,j];unfold EJ;split
 .next hm=>rw[hm,show wrap64 (-wrap64 (((1:Nat):Int))) = -1 by unfold wrap64;omega,Tp _ U]
 .next hm=>rw[show u % 2=0 by omega,show wrap64 (-wrap64 (((0:Nat):Int)))=0 by unfold wrap64;omega,Tf _ U]
theorem VI(bs:List UInt8):∀i v,(Co bs i v).2.2≠0->(Co bs i v).1=0/\(Co bs i v).2.1=0:=by
 induction bs with
 | nil=>intro i v _;exact⟨rfl,rfl⟩
 | cons c cs j=>
  intro i v;unfold Co;split
  .intro _;exact⟨rfl,rfl⟩
  .split
   .intro h;exact absurd rfl h
   .exact j _ _
theorem Xo{bs:List UInt8}(h:(Az bs).2.2≠0):(Az bs).1=0/\(Az bs).2.1=0:=VI bs 0 0 h
def AR(bs:List UInt8):Int×Nat×Int:=(EJ (Az bs).1,(Az bs).2.1,(Az bs).2.2)
def A0(bs:List UInt8)(m:Nat):Nat×Nat×Int:=
 if (Az bs).2.2≠0 then (0,0,(Az bs).2.2) else if m<(Az bs).1 then (0,0,5) else ((Az bs).1,(Az bs).2.1,0)
def Dc(bs:List UInt8):Nat->List Int->Nat->List Int×Nat×Int
 | 0,l,n=>(l,n,0)
 | c+1,l,n=>if (AR (bs.drop n)).2.2=0 then Dc bs c (l++[(AR (bs.drop n)).1]) (n+(AR (bs.drop n)).2.1) else ([],0,(AR (bs.drop n)).2.2)
def Bt(bs:List UInt8)(m:Nat):List Int×Nat×Int:=
 if (A0 bs m).2.2≠0 then ([],0,(A0 bs m).2.2) else Dc bs (A0 bs m).1 [] (A0 bs m).2.1
def Cu(bs:List UInt8):Int×List Int×Nat×Int:=
 if (Az bs).2.2≠0 then (0,[],0,(Az bs).2.2)
 else if 1099511627776<(Az bs).1 then (0,[],0,3)
 else if (Bt (bs.drop (Az bs).2.1) 16).2.2≠0 then (0,[],0,(Bt (bs.drop (Az bs).2.1) 16).2.2)
 else if Bl (Bt (bs.drop (Az bs).2.1) 16).1 16=false then (0,[],0,3)
 else ((Az bs).1,(Bt (bs.drop (Az bs).2.1) 16).1,(Az bs).2.1+(Bt (bs.drop (Az bs).2.1) 16).2.1,0)
theorem Gr(bs:List UInt8)(m:Nat):(A0 bs m).1<=m/\(A0 bs m).2.1<=bs.length:=by
 have:=Ek bs;unfold A0;split
 .exact⟨zO _,zO _⟩
 .split
  .exact⟨zO _,zO _⟩
  .exact⟨U,this.2.1⟩
theorem Hh(bs:List UInt8):(AR bs).2.1<=bs.length:=(Ek bs).2.1
theorem J8{bs:List UInt8}{c n:Nat}{l:List Int}(h:(AR (bs.drop n)).2.2=0):Dc bs (c+1) l n=Dc bs c (l++[(AR (bs.drop n)).1]) (n+(AR (bs.drop n)).2.1):=by rw[Dc,if_pos h]
theorem Kh{bs:List UInt8}{c n:Nat}{l:List Int}(h:(AR (bs.drop n)).2.2≠0):Dc bs (c+1) l n=([],0,(AR (bs.drop n)).2.2):=by rw[Dc,if_neg h]
theorem WV(id:Int)(xs:List Int):∀k,0<=find id xs k↔id∈xs:=by
 induction xs with
 | nil=>intro k;simp[find]
 | cons x xs j=>
  intro k;unfold find;split
  .next h=>subst h;simp
  .next h=>rw[j (k+1)];simp[Ne.symm h]
theorem E7{xs:List Int}{id:Int}:AG xs id=true↔id∈xs:=by
 unfold AG Gz;rw[zE];exact WV id xs 0
theorem YC{xs:List Int}{id:Int}:AG xs id=false↔id∉xs:=by
 rw[<-E7];simp
theorem I3{l m:List Int}{x:Int}:x∈Bg l m false↔x∈l/\x∉m:=by
 unfold Bg;rw[List.mem_filter];simp[YC]
theorem Mu{l m:List Int}{b:Bool}(h:l.Pairwise (·<·)):(Bg l m b).Pairwise (·<·):=List.Pairwise.filter _ h
theorem J9{a b:List Int}{x:Int}:x∈Bf a b↔x∈a\/x∈b:=by unfold Bf;exact List.mem_merge
theorem Nt(a b:List Int):(Bf a b).length=a.length+b.length:=by unfold Bf;simp
theorem SJ:∀(a b:List Int),a.Pairwise (·<·)->b.Pairwise (·<·)->(∀x,x∈a->x∉b)->(Bf a b).Pairwise (·<·):=by
 intro a;induction a with
 | nil=>intro b _ F _;rw[Ik];exact F
 | cons x a Q=>
  intro b;induction b with
  | nil=>intro D _ _;rw[FM];exact D
  | cons y b R=>
   intro D F G;have q:=List.pairwise_cons.1 D;have u:=List.pairwise_cons.1 F;by_cases h:x<=y
   .rw[GN h];refine List.pairwise_cons.2 ⟨λz j=>?_,Q (y::b) q.2 F (λz j=>G z (by simp[j]))⟩;rcases J9.1 j with j|j
    .exact q.1 z j
    .have T:x≠y:=λe=>G x zj (by simp[e]);rcases zC.1 j with rfl|j
     .omega
     .have:=u.1 z j;omega
   .rw[I6 U];refine List.pairwise_cons.2 ⟨λz j=>?_,R D u.2 (λz j K=>G z j (by simp[K]))⟩;rcases J9.1 j with j|j
    .rcases zC.1 j with rfl|j
     .omega
     .have:=q.1 z j;omega
    .exact u.1 z j
theorem Vt{q:Int}{xs j:List Int}{n:Int}{ys:List Int}(h:CW q xs j=(n,ys,0)) :
  Cd q xs j=true/\n=q+1/\q<1099511627776/\ys=Bf (Bg xs j false) (Bg j xs false)/\ys.Pairwise (·<·)/\(∀x,x∈ys↔(x∈xs/\x∉j)\/(x∈j/\x∉xs))/\
  xs.length<2*(Bg xs j false).length/\(Bg xs j false).length+(Bg j xs false).length<=16/\AK n ys=true:=by
 cases ho:Cd q xs j
 .rw[show CW q xs j=(0,[],1) from if_pos ho] at h;simp at h
 .by_cases Q:2*(Bx q xs j).length<=xs.length
  .rw[Ku ho Q] at h;simp at h
  .by_cases R:q=1099511627776\/16<(Bx q xs j).length+(B7 q xs j).length
   .rw[Id ho Q R] at h;simp at h
   .rw[KX ho Q R] at h;simp only[Prod.mk.injEq,and_true] at h;obtain⟨rfl,rfl⟩:=h;have z:Bx q xs j=Bg xs j false:=if_pos ho;have F:B7 q xs j=Bg j xs false:=if_pos ho;rw[z] at Q;rw[z,F] at R;have G:=D0.1 ho;have W:=I0 (Ei G.1);have T:=I0 G.2;have X:=Ev G.1;have u:(Bf (Bg xs j false) (Bg j xs false)).Pairwise (·<·):=
     SJ _ _ (Mu W) (Mu T) (λx h h'=>(I3.1 h').2 (I3.1 h).1)
    have y:∀x,x∈Bf (Bg xs j false) (Bg j xs false)↔(x∈xs/\x∉j)\/(x∈j/\x∉xs):=λx=>by rw[J9,I3,I3]
    refine⟨rfl,rfl,U,by rw[z,F],by rw[z,F];exact u,by rw[z,F];exact y,U,U,?_⟩;rw[z,F];have D:=Nt (Bg xs j false) (Bg j xs false);rw[Kl U U];refine(DM (m:=16)).2 ⟨U,U,u,λx K=>?_⟩;rcases(y x).1 K with K|K
    .exact((DM (m:=16)).1 (Ei G.1)).2.2.2 x K.1
    .exact((DM (m:=32)).1 G.2).2.2.2 x K.1
structure Ent where
 v:Int
 o:Int
 q:Int
 p:List UInt8
 deriving DecidableEq
abbrev Vw:=Int×List Int
abbrev Fls:=Int×Int×List Ent
structure St where
 self:Int
 views:List Vw
 base:Int
 log:List Ent
 stable:Int
 sent:Int
 pend:List (List UInt8)
 marks:List (Int×Int)
 fls:List Fls
 deriving DecidableEq
def AP(n:Int)(xs:List Int):Ent:=⟨n,0,n,DH n xs⟩
def DB(e:Ent):Bool:=decide ((Cu e.p).2.2.2=0)&&(decide ((Cu e.p).2.2.1=e.p.length)&&decide (e=AP (Cu e.p).1 (Cu e.p).2.1))
def Aq(l:List Ent)(o:Int):Nat:=l.countP λe=>e.o == o
def Fg(l:List Ent)(i:Nat):Int:=match l[i - 1]? with|some e=>e.v|none=>0
def Di(l:List Ent)(i:Nat)(e:Ent):Bool:=
 if i=0\/e.v≠Fg l i then (decide (i=0)||decide (Fg l i<=e.v))&&DB e
 else AQ e.o&&(decide (e.p.length<=6000)&&decide (e.q=Aq (l.take i) e.o+1))
def EN(l:List Ent)(i:Nat):Bool:=match l[i]? with|some e=>Di l i e|none=>true
def Bc(l:List Ent):Bool:=decide (l.length<=2000)&&(List.range l.length).all (EN l)
theorem GX{l:List Ent}{i:Nat}{e:Ent}(h:l[i]?=some e):EN l i=Di l i e:=by unfold EN;rw[h]
theorem NI{l:List Ent}(h:¬l.length<=2000):Bc l=false:=by unfold Bc;rw[decide_eq_false h];rfl
theorem Ex{l:List Ent}{i:Nat}{e:Ent}(h:l[i]?=some e)(j:Di l i e=false):Bc l=false:=by
 unfold Bc;rw[show (List.range l.length).all (EN l)=false from by
  rw[List.all_eq_false];exact⟨i,List.mem_range.2 (zZ h).1,by rw[GX h,j];simp⟩,Bool.and_false]
theorem O6{l:List Ent}(q:l.length<=2000)(h:∀i,i<l.length->EN l i=true):Bc l=true:=by
 unfold Bc;rw[decide_eq_true q,show (List.range l.length).all (EN l)=true from by rw[List.all_eq_true];exact λi j=>h i (List.mem_range.1 j)];rfl
theorem Ip{l:List Ent}(h:Bc l=true):l.length<=2000/\∀i,i<l.length->EN l i=true:=by
 unfold Bc at h;simp only[zB,zE,List.all_eq_true,List.mem_range] at h;exact h
def CT(a b:Vw):Bool:=decide (CW a.1 a.2 (Ed a.1 a.2 b.1 b.2)=(b.1,b.2,0))
def Bu(l:List Vw)(i:Nat):Vw:=(l[i]?).getD (0,[])
def Bv(l:List Vw):Bool:=decide (1<=l.length)&&(decide (l.length<=2000)&&(AK (Bu l 0).1 (Bu l 0).2&&(List.range (l.length - 1)).all λi=>CT (Bu l i) (Bu l (i+1))))
def Ar(l:List Vw):Vw:=Bu l (l.length - 1)
def Br(l:List Vw)(n:Int):Option Vw:=l.find? λv=>v.1 == n
def CK(l:List Ent):Int:=match l[l.length - 1]? with|some e=>e.v|none=>0
def Bi(l:List Ent)(base:Int):Bool:=if base = -1 then decide (l.length=0) else decide (0<l.length)&&(Bc l&&decide (CK l=base))
def Bh(vs:List Vw)(f:Fls):Bool:=
 (if f.2.1 = -1 then true else match Br vs f.2.1 with|none=>false|some v=>decide (f.2.1<(Ar vs).1)&&AG v.2 f.1)&&Bi f.2.2 f.2.1
def AZ(v:Vw):Int:=if AK v.1 v.2 then (v.2[0]?).getD 0 else 0
def AD(s:St):Bool:=decide (s.base=(Ar s.views).1)
def AE(s:St):Bool:=decide (AZ (Ar s.views)=s.self)
def F4(l:List (Int×Int))(i:Nat):Int:=if i=0 then 0 else ((l[i - 1]?).getD (0,0)).1
def Fw(s:St)(i:Nat)(m:Int×Int):Bool:=decide (F4 s.marks i<m.1)&&(decide (m.1≠s.self)&&(AG (Ar s.views).2 m.1&&(decide (0<=m.2)&&decide (m.2<=s.log.length))))
def F2(l:List Fls)(i:Nat):Int:=if i=0 then 0 else ((l[i - 1]?).getD (0,0,[])).1
def GB(s:St)(i:Nat)(f:Fls):Bool:=decide (F2 s.fls i<f.1)&&(AQ f.1&&Bh s.views f)
def DE(s:St)(i:Nat):Bool:=match s.marks[i]? with|some m=>Fw s i m|none=>true
def Ea(s:St)(i:Nat):Bool:=match s.fls[i]? with|some f=>GB s i f|none=>true
def Dp(s:St):Bool:=
 (decide (s.marks.length=0)||(AD s&&AE s))&&((decide (s.fls.length=0)||(!AD s&&AE s))&&((List.range s.marks.length).all (DE s)&&(List.range s.fls.length).all (Ea s)))
def AM(s:St):Bool:=
 AQ s.self&&(Bv s.views&&(decide (0<=s.sent)&&(decide (s.sent<=1099511627776)&&(Bi s.log s.base&&
 ((decide (s.base = -1)||(match Br s.views s.base with|none=>false|some v=>AG v.2 s.self))&&
 (decide ((Aq s.log s.self:Int)<=s.sent)&&(decide (0<=s.stable)&&(decide (s.stable<=s.log.length)&&
 (decide (s.pend.length<=32)&&(decide ((s.pend.length:Int)=s.sent - Aq (s.log.take s.stable.toNat) s.self)&&
 ((s.pend.all λp=>decide (p.length<=6000))&&Dp s)))))))))))
theorem QG{P:Prop}(h:P:=by
 exact⟨(R.2 q z).1,λr F=>⟨((R.2 q z).2 r F).1.grown D ((R.2 q z).2 r F).2,OD ((R.2 q z).2 r F).1 ((R.2 q z).2 r F).2 T⟩⟩):P:=h
theorem QA{P:Prop}(h:P:=by
 intro e;have:=E.cells_len y;rw[e] at this;have:0<y.length*E.k:=Nat.mul_pos U E.pos;simp at *;omega):P:=h
structure Elem(α:Type) where
 f:α->List Value
 k:Nat
 ty:TypeId
 st:TypeId
 z:Value
 bytes:Nat
 inn:α->List (Option Addr×List Value)
 ok:α->Prop
 len:∀a,(f a).length=k
 one:∀a,∀u∈f a,u.oneCell'=true
 pos:0<k
 und:prog.underlying st=some (.slice ty)
 info:(prog.info? ty).map (λi=>(i.zero,i.size,i.bytes))=some (some z,k,bytes)
 zk:z.cells.size=k
 small:bytes<=512
section
variable {α:Type} (E:Elem α)
def Elem.cells(l:List α):List Value:=l.flatMap E.f
theorem Elem.cells_cons(a:α)(l:List α):E.cells (a::l)=E.f a++E.cells l:=rfl
theorem Elem.cells_len(l:List α):(E.cells l).length=l.length*E.k:=by
 induction l with
 | nil=>simp[Elem.cells]
 | cons a l h=>rw[E.cells_cons,zA,E.len,h,zK,Nat.succ_mul];omega
theorem Elem.cells_append(a b:List α):E.cells (a++b)=E.cells a++E.cells b:=by simp[Elem.cells]
theorem Elem.cells_one(l:List α):∀u∈E.cells l,u.oneCell'=true:=by
 intro u j;obtain⟨a,_,h⟩:=List.mem_flatMap.1 j;exact E.one a u h
theorem Elem.cells_at{l:List α}:∀{i:Nat} {a:α},l[i]?=some a->∀j,j<E.k->(E.cells l)[i*E.k+j]?=(E.f a)[j]?:=by
 induction l with
 | nil=>intro i a h;simp at h
 | cons x l y=>
  intro i a h j q;rw[E.cells_cons]
  match i,h with
  | 0,h=>
   simp only[List.getElem?_cons_zero,zJ] at h;subst h;rw[Nat.zero_mul,Nat.zero_add,List.getElem?_append_left (by rw[E.len];exact q)]
  | i+1,h=>
   have u:=y (i:=i) (a:=a) (by simpa using h) j q;rw[List.getElem?_append_right (by rw[E.len,Nat.succ_mul];omega),E.len,show (i+1)*E.k+j - E.k=i*E.k+j from by rw[Nat.succ_mul];omega];exact u
theorem Elem.cells_inv{l:List α}{n:Nat}{u:Value}(h:(E.cells l)[n]?=some u):∃i j a,n=i*E.k+j/\j<E.k/\l[i]?=some a/\(E.f a)[j]?=some u:=by
 have z:=(zZ h).1;rw[E.cells_len] at z;have D:=E.pos;have q:n / E.k<l.length:=Nat.div_lt_of_lt_mul (by rw[Nat.mul_comm];exact z);have e:n=n / E.k*E.k+n % E.k:=by rw[Nat.mul_comm];exact(Nat.div_add_mod n E.k).symm
 have y:n % E.k<E.k:=Nat.mod_lt _ D;refine⟨n / E.k,n % E.k,l[n / E.k],e,y,zY q,?_⟩;rw[<-E.cells_at (zY q) (n % E.k) y,<-e];exact h
def Elem.Box(w:World)(A:Option Addr)(l:List α):Prop:=Row w A (E.cells l)/\∀a∈l,E.ok a/\∀r∈E.inn a,Row w r.1 r.2
variable {E}
theorem Elem.Box.ext{w w':World}{A:Option Addr}{l:List α}(h:E.Box w A l)(e:V w w'):E.Box w' A l:=⟨h.1.ext e,λa j=>⟨(h.2 a j).1,λr F=>((h.2 a j).2 r F).ext e⟩⟩
theorem Elem.Box.e{w w':World}{A:Option Addr}{l:List α}(h:E.Box w A l)(e:V w w'):O (E.Box w' A l):=J (h.ext e)
theorem Elem.Box.nil(w:World)(A:Option Addr):E.Box w A []:=⟨Row.nil _ _,λa h=>by simp at h⟩
theorem Elem.Box.at_{w:World}{A:Option Addr}{l:List α}{i:Nat}(h:E.Box w A l)(y:i<l.length) :
  ∃b q a,A=some (Z b q)/\b<w.heap.size/\O (∀j u,(E.f a)[j]?=some u->w.cell? (Z b (q+i*E.k+j))=some u)/\O (E.ok a/\∀r∈E.inn a,Row w r.1 r.2)/\O (l[i]?=some a):=by
 have Q:i*E.k<(E.cells l).length:=by rw[E.cells_len];exact Nat.mul_lt_mul_of_pos_right y E.pos
 obtain⟨b,q,G,K,D⟩:=h.1.addr Q;refine⟨b,q,l[i],G,K,λj u F=>?_,h.2 _ (List.getElem_mem y),zY y⟩;have z:j<E.k:=by have:=(zZ F).1;rwa [E.len] at this
 rw[Nat.add_assoc];exact D _ _ (by rw[E.cells_at (zY y) j z];exact F)
variable (E)
def Elem.Own(w:World)(B:Nat)(v:Value)(l:List α):Prop:=w.ownsRow B E.ty E.k v l.length (E.cells l)
variable {E}
theorem Elem.Own.nil(w:World)(B:Nat):E.Own w B Zq []:=⟨by simp[Elem.cells],.inl ⟨rfl,rfl⟩⟩
theorem Elem.Own.slice{w:World}{B:Nat}{v:Value}{l:List α}(h:E.Own w B v l):∃A c,v=.slice A l.length c/\l.length<=c/\c<=maxLen/\Row w A (E.cells l):=by
 obtain⟨_,F⟩:=h;rcases F with ⟨rfl,R⟩|⟨g,cap,y,rfl,_,z,D,G,T,K⟩
 .have:l=[]:=List.eq_nil_of_length_eq_zero R;subst this;exact⟨none,0,rfl,zR _,zO _,Row.nil _ _⟩
 .refine⟨some (Z g 0),cap,rfl,D,G,λ_=>⟨g,0,rfl,?_,λj u q=>?_⟩⟩
  .rcases Nat.lt_or_ge g w.heap.size with hlt|hge
   .exact hlt
   .rw[Array.getElem?_eq_none hge] at z;cases z
  .have Q:=cell_of_row w g (0+j) y E.ty (0,0) z;rw[Q];rw[<-K] at q;simp only[List.getElem?_take] at q;split at q
   .simpa using q
   .cases q
theorem Elem.Own.row{w:World}{B:Nat}{A:Option Addr}{n c:Nat}{l:List α}(h:E.Own w B (.slice A n c) l):Row w A (E.cells l):=by
 obtain⟨q,u,j,_,_,F⟩:=h.slice;cases j;exact F
theorem Elem.Own.lt{w:World}{B:Nat}{v:Value}{l:List α}(h:E.Own w B v l):∀k,v.ownBlock=some k->B<=k/\k<w.heap.size:=by
 obtain⟨_,y⟩:=h;rcases y with ⟨rfl,_⟩|⟨k,cap,q,rfl,D,j,_⟩
 .intro k u;simp[Value.ownBlock] at u
 .intro z u;simp only[Value.ownBlock,zJ] at u;subst u;refine⟨D,?_⟩;rcases Nat.lt_or_ge k w.heap.size with hlt|hge
  .exact hlt
  .rw[Array.getElem?_eq_none hge] at j;cases j
theorem Elem.Own.keep{a w':World}{B:Nat}{v:Value}{l:List α}(h:E.Own a B v l)(z:∀k,v.ownBlock=some k->k<a.heap.size->w'.heap[k]?=a.heap[k]?):E.Own w' B v l:=by
 have q:=h.lt;obtain⟨y,j⟩:=h;refine⟨y,?_⟩;rcases j with j|⟨k,cap,cur,hv,D,hh,r⟩
 .exact .inl j
 .have u:v.ownBlock=some k:=by rw[hv];rfl
  exact .inr ⟨k,cap,cur,hv,D,by rw[z k u (q k u).2];exact hh,r⟩
theorem Elem.Own.ext{a w':World}{B:Nat}{v:Value}{l:List α}(h:E.Own a B v l)(g:V a w'):E.Own w' B v l:=h.keep λk _ j=>g.block k j
theorem Elem.Own.e{a w':World}{B:Nat}{v:Value}{l:List α}(h:E.Own a B v l)(g:V a w'):O (E.Own w' B v l):=J (h.ext g)
theorem Elem.Own.base{w:World}{B B':Nat}{v:Value}{l:List α}(h:E.Own w B v l)(u:B'<=B):E.Own w B' v l:=by
 obtain⟨q,j⟩:=h;refine⟨q,?_⟩;rcases j with j|⟨k,cap,cur,hv,D,r⟩
 .exact .inl j
 .exact .inr ⟨k,cap,cur,hv,zL u D,r⟩
def Apt(v:Value)(r:Option Addr×List Value):Prop:=∀p q,r.2≠[]->r.1=some p->v.ownBlock=some q->q≠p.block
variable (E)
def Elem.OB(w:World)(B:Nat)(v:Value)(l:List α):Prop:=E.Own w B v l/\∀a∈l,E.ok a/\∀r∈E.inn a,Row w r.1 r.2/\Apt v r
variable {E}
theorem Elem.OB.ext{w w':World}{B:Nat}{v:Value}{l:List α}(h:E.OB w B v l)(e:V w w'):E.OB w' B v l:=⟨h.1.ext e,λa j=>⟨(h.2 a j).1,λr F=>⟨((h.2 a j).2 r F).1.ext e,((h.2 a j).2 r F).2⟩⟩⟩
theorem Elem.OB.e{w w':World}{B:Nat}{v:Value}{l:List α}(h:E.OB w B v l)(e:V w w'):O (E.OB w' B v l):=J (h.ext e)
theorem Elem.OB.nil(w:World)(B:Nat):E.OB w B Zq []:=⟨Elem.Own.nil _ _,λa h=>by simp at h⟩
theorem Elem.OB.slice{w:World}{B:Nat}{v:Value}{l:List α}(h:E.OB w B v l):∃A c,v=.slice A l.length c/\l.length<=c/\c<=maxLen/\E.Box w A l:=by
 obtain⟨A,c,y,q,u,D⟩:=h.1.slice;exact⟨A,c,y,q,u,D,λa j=>⟨(h.2 a j).1,λr F=>((h.2 a j).2 r F).1⟩⟩
theorem Fz{w:World}{A:Option Addr}{vs:List Value}{p:Addr}(h:Row w A vs)(j:vs≠[])(y:A=some p):p.block<w.heap.size:=by
 obtain⟨b,z,q,u,_⟩:=h j;rw[y] at q;cases q;exact u
theorem Row.grown{a w':World}{v:Value}{r:Option Addr×List Value}(h:Row a r.1 r.2)(g:Grew a w' v)(q:Apt v r):Row w' r.1 r.2:=by
 intro G;obtain⟨b,y,z,F,D⟩:=h G;refine⟨b,y,z,Nat.lt_of_lt_of_le F g.size,λj u Q=>?_⟩;have K:w'.heap[b]?=a.heap[b]?:=g.block b F (λe=>q _ _ G z e.symm rfl);have:=D j u Q;unfold World.cell? at *;simpa only[K] using this
theorem OD{W:World}{v F:Value}{r:Option Addr×List Value}(h:Row W r.1 r.2)(G:Apt v r)(y:Stems W v F):Apt F r:=by
 intro p q j D z;rcases y with y|⟨k,u,hle⟩
 .exact G p q j D (y▸z)
 .have:=Fz h j D;rw[u] at z;cases z;omega
theorem Ll{w wr:World}{v:Value}{l:List α}{B:Nat}{r:Option Addr×List Value}(h:Row w r.1 r.2)(D:w.heap.size<=B)(u:E.Own wr B v l):Apt v r:=by
 intro p q j y z;have:=Fz h j y;have:=(u.lt q z).1;omega
theorem Hg{wc:World}{v:Value}{l:List α}{B:Nat}{r:Option Addr×List Value}(h:∀p,r.2≠[]->r.1=some p->wc.heap.size<=p.block)(u:E.Own wc B v l):Apt v r:=by
 intro p q j y z;have:=h p j y;have:=(u.lt q z).2;omega
theorem Elem.info_parts(E:Elem α):∃i,prog.info? E.ty=some i/\i.zero=some E.z/\i.size=E.k/\i.bytes=E.bytes:=by
 have h:=E.info;cases hi:prog.info? E.ty with
 | none=>simp[hi] at h
 | some i=>simp[hi] at h;exact⟨i,rfl,h.1,h.2.1,h.2.2⟩
theorem Nz{o:Oper}{a:Act}{K:Act->World->Prop}{Q:Exit->Act->World->Prop}(E:Elem α)(s x:Operand)
  (ho:o.op=.call {callee:=.builtin .append,args:=#[s,x],argTypes:=#[E.st,E.st]})
  (W:World) (B:Nat) (v:Value) (l:List α) (hs:a.eval s=v) (ad:Addr) (m c:Nat) (y:List α) (hx:a.eval x=.slice (some ad) m c) (hm:m=y.length) (F:Row W (some ad) (E.cells y)) (hp:0<m)
  (R:E.OB W B v l) (G:∀q∈y,E.ok q/\∀r∈E.inn q,Row W r.1 r.2/\Apt v r) (hl:l.length+m<=20000000) (hB:B<=W.heap.size)
  (h:∀v' w',E.OB w' B v' (l++y)->Grew W w' v->Stems W v v'->K (a.put o.dst v') w'):Oper.wp prog o a W K Q:=by
 obtain⟨i0,hi,ae,aa,af⟩:=E.info_parts;have ac:E.cells y≠[]:=by
  exact QA
 refine wp_append_lies W s x _ ho B _ i0 _ E.k E.bytes E.und hi ae aa af E.zk E.pos v l.length (E.cells l) hs R.1 ad m c (E.cells y) hx (by rw[E.cells_len,hm]) ?_ (E.cells_one _) hp (by unfold maxLen;omega) ?_ hB _ rfl ?_
 .intro j u hj;obtain⟨b,ag,hh,_,D⟩:=F ac;cases hh;have:=D j u hj;unfold Addr.add;split
  .next h0=>subst h0;simpa using this
  .exact this
 .calc (l.length+m)*E.bytes<=20000000*512:=Nat.mul_le_mul hl E.small
   _<=_:=zd
 .intro g cap w' h2 D X h5;have ab:(l++y).length=l.length+m:=by rw[zA,hm]
  have T:Stems W v (Value.slice (some (Z g 0)) (l.length+m) cap):=by
   rcases X with X|X
   .exact .inl (by rw[X];rfl)
   .exact .inr ⟨g,rfl,Nat.le_of_eq X.symm⟩
  refine h _ w' ⟨?_,λq z=>?_⟩ D T
  .unfold Elem.Own;rw[ab,E.cells_append];exact h2
  .rcases List.mem_append.1 z with z|z
   .exact QG
   .exact⟨(G q z).1,λr F=>⟨((G q z).2 r F).1.grown D ((G q z).2 r F).2,OD ((G q z).2 r F).1 ((G q z).2 r F).2 T⟩⟩
theorem By{ab:Array Oper}{rest:List Oper}{o:Oper}{a:Act}{Q:Exit->Act->World->Prop}(E:Elem α)(K:o.guard=none)(s x:Operand)
  (ho:o.op=.call {callee:=.builtin .append,args:=#[s,x],argTypes:=#[E.st,E.st]})
  (W:World) (B:Nat) (v:Value) (l:List α) (hs:a.eval s=v) (A:Option Addr) (m c:Nat) (y:List α) (hx:a.eval x=.slice A m c) (hm:m=y.length) (F:Row W A (E.cells y))
  (R:E.OB W B v l) (X:∀q∈y,E.ok q/\∀r∈E.inn q,Row W r.1 r.2/\Apt v r) (hl:l.length+m<=20000000) (hB:B<=W.heap.size)
  (h:∀G w',E.OB w' B G (l++y)->Grew W w' v->Stems W v G->wpList prog ab Q rest (a.put o.dst G) w'):wpList prog ab Q (o::rest) a W:=by
 rcases Nat.eq_zero_or_pos m with hz|hp
 .have hn:y=[]:=List.eq_nil_of_length_eq_zero U;subst hn;subst hz;obtain⟨i0,hi,ae,aa,af⟩:=E.info_parts;rcases A with _|ad
  .exact Mk W K s x _ ho B _ i0 E.k E.und hi v l.length (E.cells l) hs R.1 c hx (h v W (by rw[List.append_nil];exact R) ⟨rfl,rfl,rfl,zR _,λ_ _ _=>rfl⟩ (.inl rfl))
  .refine wpList_append_own_at _ K s x _ ho B _ i0 _ E.k E.bytes E.und hi ae aa af E.zk E.pos v l.length (E.cells l) hs R.1 ad 0 c [] hx zj (λj u hj=>by simp at hj) (λu hu=>by simp at hu) (by unfold maxLen;omega) ?_ hB ?_
   .calc (l.length+0)*E.bytes<=20000000*512:=Nat.mul_le_mul hl E.small
     _<=_:=zd
   .intro G w' h2 D _ h4;have T:Stems W v G:=by
     rcases h4 with h4|h4
     .exact .inl h4
     .exact .inr ⟨_,h4,zR _⟩
    refine h G w' ⟨?_,λq z=>?_⟩ D T
    .unfold Elem.Own;rw[List.append_nil];rw[List.append_nil] at h2;exact h2
    .rw[List.append_nil] at z;exact QG
 .rcases A with _|ad
  .exfalso;have ac:E.cells y≠[]:=by
    exact QA
   obtain⟨b,ag,hh,_⟩:=F ac;cases hh
  .exact wpList_plain K λ_ hK=>Nz E s x ho W B v l hs ad m c y hx hm F hp R X hl hB λG w' h1 h2 D=>hK _ _ (h G w' h1 h2 D)
end
def Ah(bs:List UInt8):ByteArray:=(bs.map λb=>(b.toNat:Int)).foldl (λr n=>r.push (UInt8.ofNat n.toNat)) ByteArray.empty
theorem EZ{w:World}{A:Option Addr}{bs:List UInt8}(c n:Nat)(h:Row w A (Aj bs))(z:n=bs.length) :
  (convert 29 9 (.slice A n c)).run prog w=.ok (.string (Ah bs)) w:=by
 subst z;rw[run_convert_bytes_string w _ _ 5 _ _ _ Tryz.underlying29 Tryz.underlying5 Tryz.underlying9];rcases A with _|a
 .have y:bs=[]:=by
   cases bs with
   | nil=>rfl
   | cons b l=>obtain⟨_,_,q,_⟩:=h (by simp[Aj]);cases q
  subst y;simp[Conv.bytesToString,Ah]
 .have e:Aj bs=(bs.map λb=>(b.toNat:Int)).map (Value.int .u8):=by simp[Aj]
  refine run_bytesToString w a bs.length c (bs.map λb=>(b.toNat:Int)) ?_;have:=run_loadCells_list (P:=prog) w a (Aj bs) (λj v u=>by
   obtain⟨b,F,q,_,D⟩:=h.addr (zZ u).1;cases q;have:=D j v u;unfold Addr.add;split
   .next h0=>subst h0;simpa using this
   .exact this)
  rw[Bo,e] at this;exact this
theorem Hc{P:Prop}(h:P:=by
 go_ret;exact Elem.gives j (y.below (V.new _ _) zj (λk u=>by simp[Value.ownBlock] at u;omega))):P:=h
theorem Hb{P:Prop}(h:P:=by
 go_wp2;go_ret;exact Elem.gives (Elem.OB.nil _ _) (V.refl _)):P:=h
structure VwM where
 n:Int
 A:Option Addr
 c:Nat
 xs:List Int
def VwM.v(v:VwM):Vw:=(v.n,v.xs)
structure FlM where
 m:Int
 b:Int
 A:Option Addr
 c:Nat
 log:List Ent
def FlM.v(f:FlM):Fls:=(f.m,f.b,f.log)
structure PkM where
 t:Int
 A:Option Addr
 c:Nat
 bs:List UInt8
def AL:Elem VwM where
 f v:=[.int .i64 v.n,.slice v.A v.xs.length v.c]
 k:=2
 ty:=46
 st:=22
 z:=.agg #[.int .i64 0,.slice none 0 0]
 bytes:=32
 inn v:=[(v.A,Ai v.xs)]
 ok v:=v.xs.length<=v.c/\v.c<=maxLen
 len _:=rfl
 one a:=by intro u hu;simp only[zC,zN,or_false] at hu;rcases hu with rfl|rfl<;>rfl
 pos:=zd
 und:=Tryz.underlying22
 info:=zh
 zk:=rfl
 small:=zd
def Aa:Elem Ent where
 f e:=[.int .i64 e.v,.int .i64 e.o,.int .i64 e.q,.string (Ah e.p)]
 k:=4
 ty:=66
 st:=23
 z:=.agg #[.int .i64 0,.int .i64 0,.int .i64 0,.string ByteArray.empty]
 bytes:=40
 inn _:=[]
 ok _:=True
 len _:=rfl
 one a:=by intro u hu;simp only[zC,zN,or_false] at hu;rcases hu with rfl|rfl|rfl|rfl<;>rfl
 pos:=zd
 und:=Tryz.underlying23
 info:=zh
 zk:=rfl
 small:=zd
def AU:Elem (List UInt8) where
 f p:=[.string (Ah p)]
 k:=1
 ty:=9
 st:=24
 z:=.string ByteArray.empty
 bytes:=16
 inn _:=[]
 ok _:=True
 len _:=rfl
 one a:=by intro u hu;simp only[zC,zN,or_false] at hu;rcases hu with rfl;rfl
 pos:=zd
 und:=Tryz.underlying24
 info:=zh
 zk:=rfl
 small:=zd
def AA:Elem (Int×Int) where
 f m:=[.int .i64 m.1,.int .i64 m.2]
 k:=2
 ty:=123
 st:=25
 z:=.agg #[.int .i64 0,.int .i64 0]
 bytes:=16
 inn _:=[]
 ok _:=True
 len _:=rfl
 one a:=by intro u hu;simp only[zC,zN,or_false] at hu;rcases hu with rfl|rfl<;>rfl
 pos:=zd
 und:=Tryz.underlying25
 info:=zh
 zk:=rfl
 small:=zd
def flE:Elem FlM where
 f v:=[.int .i64 v.m,.int .i64 v.b,.slice v.A v.log.length v.c]
 k:=3
 ty:=80
 st:=26
 z:=.agg #[.int .i64 0,.int .i64 0,.slice none 0 0]
 bytes:=40
 inn v:=[(v.A,Aa.cells v.log)]
 ok v:=v.log.length<=v.c/\v.c<=maxLen
 len _:=rfl
 one a:=by intro u hu;simp only[zC,zN,or_false] at hu;rcases hu with rfl|rfl|rfl<;>rfl
 pos:=zd
 und:=Tryz.underlying26
 info:=zh
 zk:=rfl
 small:=zd
def FD:Elem Int where
 f x:=[.int .i64 x]
 k:=1
 ty:=3
 st:=44
 z:=.int .i64 0
 bytes:=8
 inn _:=[]
 ok _:=True
 len _:=rfl
 one a:=by intro u hu;simp only[zC,zN,or_false] at hu;rcases hu with rfl;rfl
 pos:=zd
 und:=Tryz.underlying44
 info:=zh
 zk:=rfl
 small:=zd
theorem MY(xs:List Int):FD.cells xs=Ai xs:=by
 induction xs with
 | nil=>rfl
 | cons x l h=>rw[FD.cells_cons,h];rfl
theorem Row.none_nil{w:World}{xs:List Value}(h:Row w none xs):xs=[]:=by
 rcases xs with _|⟨u,l⟩
 .rfl
 .obtain⟨b,q,j,_⟩:=h zj;cases j
theorem Elem.cells_nil{α:Type}{E:Elem α}{l:List α}(h:E.cells l=[]):l=[]:=by
 have:=E.cells_len l;rw[h] at this;have j:=E.pos;exact List.eq_nil_of_length_eq_zero (by rcases Nat.eq_zero_or_pos l.length with h0|h0;exact h0;have:=Nat.mul_pos h0 j;simp at *;omega)
theorem Elem.own_empty{α:Type}(E:Elem α)(w:World):E.OB (w.alloc (.cells #[] E.ty)) w.heap.size (.slice (some (Z w.heap.size 0)) 0 0) []:=
 ⟨⟨by simp[Elem.cells],.inr ⟨w.heap.size,0,#[],rfl,zR _,(by show (w.heap.push _)[w.heap.size]?=_;simp),zR _,zO _,zj,by simp[Elem.cells]⟩⟩,λa h=>by simp at h⟩
def Elem.Gives{α:Type}(E:Elem α)(w:World)(l:List α)(en:Ending)(w':World):Prop:=
 ∃A c,en=.returned (.slice A l.length c)/\l.length<=c/\c<=maxLen/\E.OB w' w.heap.size (.slice A l.length c) l/\V w w'
theorem Elem.gives{α:Type}{E:Elem α}{w w':World}{v:Value}{l:List α}(h:E.OB w' w.heap.size v l)(e:V w w'):E.Gives w l (.returned v) w':=by
 obtain⟨A,c,u,j,q,_⟩:=h.slice;subst u;exact⟨A,c,rfl,j,q,h,e⟩
theorem Elem.Box.good{α:Type}{E:Elem α}{w w':World}{A:Option Addr}{l y:List α}{v:Value}{B:Nat}(h:E.Box w A y)(e:V w w')(j:w.heap.size<=B)(u:E.Own w' B v l):∀q∈y,E.ok q/\∀r∈E.inn q,Row w' r.1 r.2/\Apt v r:=
 λq z=>⟨(h.2 q z).1,λr F=>⟨((h.2 q z).2 r F).ext e,Ll ((h.2 q z).2 r F) j u⟩⟩
theorem WZ(w:World)(a:Option Addr)(l c:Nat):(binOp .eql 44 (.slice a l c) Zq).run prog w=.ok (.bool a.isNone) w:=run_eql_slice_nil w _ 3 a l c Tryz.underlying44
section
attribute [local go_sem] WZ Option.isNone_none Option.isNone_some
theorem UR(A:Option Addr)(c:Nat)(l:List Int)(w:World)(h:FD.Box w A l)(D:l.length<=1000000) :
  Calls prog 157 #[.slice A l.length c] w (FD.Gives w l):=by
 rcases A with _|ad
 .have z:l=[]:=Elem.cells_nil h.1.none_nil;subst z;go_enter func157,ntmps157;exact Hb
 .have H:=J h;clear h;go_enter func157,ntmps157;go_wp2_with (first
   | (at_builtin;refine By FD rfl (.tmp 5) (.tmp 6) rfl _ w.heap.size _ [] zi _ _ _ l zi rfl (H.o.1.ext (V.new _ _)) (FD.own_empty w) (H.o.good (V.new _ _) (zR _) (FD.own_empty w).1) zm zj ?_;intro v1 F j y q))
  exact Hc
end
theorem Wd(w:World)(a:Option Addr)(l c:Nat):(binOp .eql 22 (.slice a l c) Zq).run prog w=.ok (.bool a.isNone) w:=run_eql_slice_nil w _ 46 a l c Tryz.underlying22
section
attribute [local go_sem] Wd Option.isNone_none Option.isNone_some
theorem TP(A:Option Addr)(c:Nat)(l:List VwM)(w:World)(h:AL.Box w A l)(D:l.length<=1000000) :
  Calls prog 161 #[.slice A l.length c] w (AL.Gives w l):=by
 rcases A with _|ad
 .have z:l=[]:=Elem.cells_nil h.1.none_nil;subst z;go_enter func161,ntmps161;exact Hb
 .have H:=J h;clear h;go_enter func161,ntmps161;go_wp2_with (first
   | (at_builtin;refine By AL rfl (.tmp 5) (.tmp 6) rfl _ w.heap.size _ [] zi _ _ _ l zi rfl (H.o.1.ext (V.new _ _)) (AL.own_empty w) (H.o.good (V.new _ _) (zR _) (AL.own_empty w).1) zm zj ?_;intro v1 F j y q))
  exact Hc
end
theorem Xu(w:World)(a:Option Addr)(l c:Nat):(binOp .eql 23 (.slice a l c) Zq).run prog w=.ok (.bool a.isNone) w:=run_eql_slice_nil w _ 66 a l c Tryz.underlying23
section
attribute [local go_sem] Xu Option.isNone_none Option.isNone_some
theorem Il(A:Option Addr)(c:Nat)(l:List Ent)(w:World)(h:Aa.Box w A l)(D:l.length<=1000000) :
  Calls prog 108 #[.slice A l.length c] w (Aa.Gives w l):=by
 rcases A with _|ad
 .have z:l=[]:=Elem.cells_nil h.1.none_nil;subst z;go_enter func108,ntmps108;exact Hb
 .have H:=J h;clear h;go_enter func108,ntmps108;go_wp2_with (first
   | (at_builtin;refine By Aa rfl (.tmp 5) (.tmp 6) rfl _ w.heap.size _ [] zi _ _ _ l zi rfl (H.o.1.ext (V.new _ _)) (Aa.own_empty w) (H.o.good (V.new _ _) (zR _) (Aa.own_empty w).1) zm zj ?_;intro v1 F j y q))
  exact Hc
end
theorem Xw(w:World)(a:Option Addr)(l c:Nat):(binOp .eql 24 (.slice a l c) Zq).run prog w=.ok (.bool a.isNone) w:=run_eql_slice_nil w _ 9 a l c Tryz.underlying24
section
attribute [local go_sem] Xw Option.isNone_none Option.isNone_some
theorem Ul(A:Option Addr)(c:Nat)(l:List (List UInt8))(w:World)(h:AU.Box w A l)(D:l.length<=1000000) :
  Calls prog 109 #[.slice A l.length c] w (AU.Gives w l):=by
 rcases A with _|ad
 .have z:l=[]:=Elem.cells_nil h.1.none_nil;subst z;go_enter func109,ntmps109;exact Hb
 .have H:=J h;clear h;go_enter func109,ntmps109;go_wp2_with (first
   | (at_builtin;refine By AU rfl (.tmp 5) (.tmp 6) rfl _ w.heap.size _ [] zi _ _ _ l zi rfl (H.o.1.ext (V.new _ _)) (AU.own_empty w) (H.o.good (V.new _ _) (zR _) (AU.own_empty w).1) zm zj ?_;intro v1 F j y q))
  exact Hc
end
theorem Ug(w:World)(a:Option Addr)(l c:Nat):(binOp .eql 25 (.slice a l c) Zq).run prog w=.ok (.bool a.isNone) w:=run_eql_slice_nil w _ 123 a l c Tryz.underlying25
section
attribute [local go_sem] Ug Option.isNone_none Option.isNone_some
theorem TG(A:Option Addr)(c:Nat)(l:List (Int×Int))(w:World)(h:AA.Box w A l)(D:l.length<=1000000) :
  Calls prog 110 #[.slice A l.length c] w (AA.Gives w l):=by
 rcases A with _|ad
 .have z:l=[]:=Elem.cells_nil h.1.none_nil;subst z;go_enter func110,ntmps110;exact Hb
 .have H:=J h;clear h;go_enter func110,ntmps110;go_wp2_with (first
   | (at_builtin;refine By AA rfl (.tmp 5) (.tmp 6) rfl _ w.heap.size _ [] zi _ _ _ l zi rfl (H.o.1.ext (V.new _ _)) (AA.own_empty w) (H.o.good (V.new _ _) (zR _) (AA.own_empty w).1) zm zj ?_;intro v1 F j y q))
  exact Hc
end
theorem Yx(w:World)(a:Option Addr)(l c:Nat):(binOp .eql 26 (.slice a l c) Zq).run prog w=.ok (.bool a.isNone) w:=run_eql_slice_nil w _ 80 a l c Tryz.underlying26
section
attribute [local go_sem] Yx Option.isNone_none Option.isNone_some
theorem U6(A:Option Addr)(c:Nat)(l:List FlM)(w:World)(h:flE.Box w A l)(D:l.length<=1000000) :
  Calls prog 111 #[.slice A l.length c] w (flE.Gives w l):=by
 rcases A with _|ad
 .have z:l=[]:=Elem.cells_nil h.1.none_nil;subst z;go_enter func111,ntmps111;exact Hb
 .have H:=J h;clear h;go_enter func111,ntmps111;go_wp2_with (first
   | (at_builtin;refine By flE rfl (.tmp 5) (.tmp 6) rfl _ w.heap.size _ [] zi _ _ _ l zi rfl (H.o.1.ext (V.new _ _)) (flE.own_empty w) (H.o.good (V.new _ _) (zR _) (flE.own_empty w).1) zm zj ?_;intro v1 F j y q))
  exact Hc
end
theorem Row.byteN{w:World}{A:Option Addr}{bs:List UInt8}{k:Nat}(h:Row w A (Aj bs))(u:k<bs.length) :
  ∃b j m,A=some (Z b j)/\w.cell? (Z b (j+k))=some (.int .u8 ((m:Nat):Int))/\m<256/\O (∃x,bs[k]?=some x/\x.toNat=m):=by
 obtain⟨b,j,x,q,y,D⟩:=h.byte u;exact⟨b,j,x.toNat,q,y,x.toNat_lt,x,D,rfl⟩
def Ce(r:Nat×Nat×Int):Ending:=.returned (.tuple #[.int .u64 (r.1:Int),.int .i64 (r.2.1:Int),.int .i64 r.2.2])
theorem D9{r:Nat×Nat×Int}{a b e:Int}{x y:Nat}(h:r=(x,y,e))(j:a=(x:Int))(q:b=(y:Int)):Ending.returned (.tuple #[.int .u64 a,I b,I e])=Ce r:=by
 rw[h,j,q];rfl
theorem Fq(A:Option Addr)(c:Nat)(bs:List UInt8)(w:World)(h:Row w A (Aj bs))(hl:bs.length<=1000000000) :
  Calls prog 182 #[.slice A bs.length c] w λe w'=>e=Ce (Az bs)/\w=w':=by
 have H:=J h;clear h;go_enter func182,ntmps182;go_wp2;go_loop [2,5,6,9] (λv _ _ i=>∃k a:Nat,k<=bs.length/\k<=9/\v=.int .u64 (a:Int)/\i=I (k:Int)/\O (a<2 ^ (7*k))/\O (Co (bs.drop k) k a=Az bs)) (λ_ _ _ i=>bs.length - (intOf i).toNat)
 case atStart=>exact⟨0,0,U,U,rfl,rfl,by simp[O],rfl⟩
 case round=>
  obtain⟨k,a,u,af,rfl,rfl,D,F⟩:=hrel;by_cases Q:k<bs.length
  .obtain⟨b,ag,m,rfl,hc,T,G⟩:=H.o.byteN Q;by_cases h9:k=9
   .subst h9;by_cases K:1<m
    .have j:O (Az bs=(0,0,3)):=by
      obtain⟨x,q,rfl⟩:=G.o;rw[<-F.o];exact G7 q (.inl ⟨rfl,K⟩)
     go_wp2;go_ret3
     exact⟨D9 j.o rfl rfl,rfl⟩
    .by_cases y:m=0
     .have j:O (Az bs=(0,0,3)):=by
       obtain⟨x,q,ac⟩:=G.o;rw[<-F.o];exact G7 q (.inr ⟨U,U⟩)
      have W:((m:Int) == 0)=true:=zm;have hd:decide ((1:Int)<(m:Int))=false:=zm;have R:m<=1:=U;clear y K;go_wp2;go_ret3
      exact⟨D9 j.o rfl rfl,rfl⟩
     .have j:O (Az bs=(a+m % 128*2 ^ (7*9),9+1,0)):=by
       obtain⟨x,q,rfl⟩:=G.o;rw[<-F.o];exact IX q U U
      have W:((m:Int) == 0)=false:=zm;have hd:decide ((1:Int)<(m:Int))=false:=zm;have R:m<=1:=U;clear y K;go_wp2;go_ret3
      exact⟨D9 j.o (Pu R D.o) rfl,rfl⟩
   .have z:k<9:=U;have ae:((k:Int) == 9)=false:=zm;clear h9;by_cases y:0<k/\m=0
    .obtain⟨y,K⟩:=y;have j:O (Az bs=(0,0,3)):=by
      obtain⟨x,q,ac⟩:=G.o;rw[<-F.o];exact G7 q (.inr ⟨y,U⟩)
     have W:((m:Int) == 0)=true:=zm;clear K;go_wp2;go_ret3
     exact⟨D9 j.o rfl rfl,rfl⟩
    .by_cases X:m<128
     .have j:O (Az bs=(a+m % 128*2 ^ (7*k),k+1,0)):=by
       obtain⟨x,q,rfl⟩:=G.o;rw[<-F.o];exact IX q U X
      rcases Nat.eq_zero_or_pos k with hk0|hk0
      .have ab:decide (0<k)=false:=zm;have HZ:=J hk0;have aa:k<=0:=U;clear y hk0;go_wp2;go_ret3
       exact⟨D9 j.o (IB T D.o z) U,rfl⟩
      .have W:((m:Int) == 0)=false:=zm;clear y;go_wp2;go_ret3
       exact⟨D9 j.o (IB T D.o z) U,rfl⟩
     .have j:O (Co (bs.drop (k+1)) (k+1) (a+m % 128*2 ^ (7*k))=Az bs):=by
       obtain⟨x,q,rfl⟩:=G.o;rw[<-F.o];exact(MZ q U X).symm
      have ad:128<=m:=U;have W:((m:Int) == 0)=false:=zm;clear y X;rcases Nat.eq_zero_or_pos k with hk0|hk0
      .have ab:decide (0<k)=false:=zm;have aa:k<=0:=U;clear hk0;go_wp2;go_round
       case rel=>exact⟨k+1,a+m % 128*2 ^ (7*k),U,U,by rw[IB T D.o z],by go_num,Jd D.o,j⟩
       case measure=>simp[intOf];omega
      .go_wp2
       go_round
       case rel=>exact⟨k+1,a+m % 128*2 ^ (7*k),U,U,by rw[IB T D.o z],by go_num,Jd D.o,j⟩
       case measure=>simp[intOf];omega
  .have j:O (Az bs=(0,0,2)):=by rw[O,<-F.o];exact NV Q
   go_wp2;go_ret3
   exact⟨D9 j.o rfl rfl,rfl⟩
theorem Qe{m:Nat}(h:m<256):((m:Int) % 128)=bits .and .u8 (m:Int) 127:=by rw[Li h];omega
theorem Nj{m:Nat}(h:m<256):IntKind.u64.wrap ((m:Int) % 128)=(m:Int) % 128:=IntWalk.u64_in _ U
theorem Ji{v m k:Nat}(h:m<256)(j:v<2 ^ (7*k))(u:k<9) :
  bits BinOp.or IntKind.u64 (v:Int) (IntKind.u64.wrap ((m:Int) % 128*2 ^ (7*k)))=((v+m % 128*2 ^ (7*k):Nat):Int):=by
 have:=IB h j u;rw[<-Qe h,Nj h] at this;exact this
theorem Wy{v m:Nat}(h:m<=1)(j:v<2 ^ (7*9)) :
  bits BinOp.or IntKind.u64 (v:Int) ((m:Int) % 128*9223372036854775808)=((v+m % 128*2 ^ (7*9):Nat):Int):=by
 have:=Pu h j;rw[<-Qe U,Nj U,IntWalk.u64_in ((m:Int) % 128*9223372036854775808) U] at this;exact this
theorem Es(A:Option Addr)(c:Nat)(bs:List UInt8)(w:World)(h:Row w A (Aj bs))(hl:bs.length<=1000000000) :
  Calls prog 187 #[.slice A bs.length c] w λe w'=>e=Ce (Az bs)/\w=w':=by
 have H:=J h;clear h;go_enter func187,ntmps187;go_wp2;go_loop [5,6] (λv i=>∃k a:Nat,k<=bs.length/\k<=9/\v=.int .u64 (a:Int)/\i=I (k:Int)/\O (a<2 ^ (7*k))/\O (Co (bs.drop k) k a=Az bs)) (λ_ i=>bs.length - (intOf i).toNat)
 case atStart=>exact⟨0,0,U,U,rfl,rfl,by simp[O],rfl⟩
 case round=>
  obtain⟨k,a,u,af,rfl,rfl,D,F⟩:=hrel;by_cases Q:k<bs.length
  .obtain⟨b,ag,m,rfl,hc,T,G⟩:=H.o.byteN Q;by_cases h9:k=9
   .subst h9;by_cases K:1<m
    .have j:O (Az bs=(0,0,3)):=by
      obtain⟨x,q,rfl⟩:=G.o;rw[<-F.o];exact G7 q (.inl ⟨rfl,K⟩)
     go_wp2;go_ret3
     exact⟨D9 j.o rfl rfl,rfl⟩
    .by_cases y:m=0
     .have j:O (Az bs=(0,0,3)):=by
       obtain⟨x,q,ac⟩:=G.o;rw[<-F.o];exact G7 q (.inr ⟨U,U⟩)
      have W:((m:Int) == 0)=true:=zm;have hd:decide ((1:Int)<(m:Int))=false:=zm;have R:m<=1:=U;clear y K;go_wp2;go_ret3
      exact⟨D9 j.o rfl rfl,rfl⟩
     .have j:O (Az bs=(a+m % 128*2 ^ (7*9),9+1,0)):=by
       obtain⟨x,q,rfl⟩:=G.o;rw[<-F.o];exact IX q U U
      have W:((m:Int) == 0)=false:=zm;have hd:decide ((1:Int)<(m:Int))=false:=zm;have R:m<=1:=U;clear y K;go_wp2;go_ret3
      exact⟨D9 j.o (Wy R D.o) rfl,rfl⟩
   .have z:k<9:=U;have ae:((k:Int) == 9)=false:=zm;clear h9;by_cases y:0<k/\m=0
    .obtain⟨y,K⟩:=y;have j:O (Az bs=(0,0,3)):=by
      obtain⟨x,q,ac⟩:=G.o;rw[<-F.o];exact G7 q (.inr ⟨y,U⟩)
     have W:((m:Int) == 0)=true:=zm;clear K;go_wp2;go_ret3
     exact⟨D9 j.o rfl rfl,rfl⟩
    .by_cases X:m<128
     .have j:O (Az bs=(a+m % 128*2 ^ (7*k),k+1,0)):=by
       obtain⟨x,q,rfl⟩:=G.o;rw[<-F.o];exact IX q U X
      rcases Nat.eq_zero_or_pos k with hk0|hk0
      .have ab:decide (0<k)=false:=zm;have HZ:=J hk0;have aa:k<=0:=U;clear y hk0;go_wp2;go_ret3
       exact⟨D9 j.o (Ji T D.o z) U,rfl⟩
      .have W:((m:Int) == 0)=false:=zm;clear y;go_wp2;go_ret3
       exact⟨D9 j.o (Ji T D.o z) U,rfl⟩
     .have j:O (Co (bs.drop (k+1)) (k+1) (a+m % 128*2 ^ (7*k))=Az bs):=by
       obtain⟨x,q,rfl⟩:=G.o;rw[<-F.o];exact(MZ q U X).symm
      have ad:128<=m:=U;have W:((m:Int) == 0)=false:=zm;clear y X;rcases Nat.eq_zero_or_pos k with hk0|hk0
      .have ab:decide (0<k)=false:=zm;have aa:k<=0:=U;clear hk0;go_wp2;go_round
       case rel=>exact⟨k+1,a+m % 128*2 ^ (7*k),U,U,by rw[Ji T D.o z],by go_num,Jd D.o,j⟩
       case measure=>simp[intOf];omega
      .go_wp2
       go_round
       case rel=>exact⟨k+1,a+m % 128*2 ^ (7*k),U,U,by rw[Ji T D.o z],by go_num,Jd D.o,j⟩
       case measure=>simp[intOf];omega
  .have j:O (Az bs=(0,0,2)):=by rw[O,<-F.o];exact NV Q
   go_wp2;go_ret3
   exact⟨D9 j.o rfl rfl,rfl⟩
def Ck(r:Int×Nat×Int):Ending:=.returned (.tuple #[.int .i64 r.1,.int .i64 (r.2.1:Int),.int .i64 r.2.2])
theorem Ju(A:Option Addr)(c:Nat)(bs:List UInt8)(w:World)(h:Row w A (Aj bs))(q:bs.length<=1000000000) :
  Calls prog 185 #[.slice A bs.length c] w λe w'=>e=Ck (AR bs)/\w=w':=by
 have H:=J h;clear h;have j:=J (Ua (Ek bs).1);go_enter func185,ntmps185;go_wp2_with fail;refine(Fq A c bs w H.o q).mono ?_;rintro e w' ⟨rfl,rfl⟩;unfold Ce;go_wp2;go_ret3
 refine⟨?_,rfl⟩;unfold Ck AR;rw[<-j.o];rfl
theorem SR(n:Nat)(w:World)(j:O (n<U64)) :
  Calls prog 191 #[.int .u64 (n:Int)] w λe w'=>e=.returned (I (EJ n))/\w=w':=by
 cases h:((n:Int) % 2 == 1)
 .go_enter func191,ntmps191;go_wp2;go_ret;exact⟨DQ (Uz j.o h),rfl⟩
 .go_enter func191,ntmps191;go_wp2;go_ret;exact⟨DQ (Wa j.o h),rfl⟩
theorem TQ(A:Option Addr)(c:Nat)(bs:List UInt8)(w:World)(h:Row w A (Aj bs))(y:bs.length<=1000000000) :
  Calls prog 151 #[.slice A bs.length c] w λe w'=>e=Ck (AR bs)/\w=w':=by
 have H:=J h;clear h;have z:=J (Ek bs).1;have u:=J (show Ck (AR bs)=.returned (.tuple #[I (EJ (Az bs).1),I ((Az bs).2.1:Int),I (Az bs).2.2]) from rfl);by_cases j:(Az bs).2.2=0
 .have D:((Az bs).2.2 != 0)=false:=by simpa using j
  have q:=J j;clear j;go_enter func151,ntmps151;go_wp2_with fail;refine(Es A c bs w H.o y).mono ?_;rintro e w' ⟨rfl,rfl⟩;unfold Ce;go_wp2_with fail;refine(SR _ w z).mono ?_;rintro e w' ⟨rfl,rfl⟩;go_wp2;go_ret3
  refine⟨?_,rfl⟩;rw[u.o,q.o];rfl
 .have D:((Az bs).2.2 != 0)=true:=by simpa using j
  have q:=J (Xo j);clear j;go_enter func151,ntmps151;go_wp2_with fail;refine(Es A c bs w H.o y).mono ?_;rintro e w' ⟨rfl,rfl⟩;unfold Ce;go_wp2;go_ret3
  refine⟨?_,rfl⟩;rw[u.o,q.o.1,q.o.2];rfl
theorem GU(A:Option Addr)(c:Nat)(bs:List UInt8)(m:Nat)(w:World)(h:Row w A (Aj bs))(y:bs.length<=1000000000)(K:m<=1000000000) :
  Calls prog 181 #[.slice A bs.length c,I (m:Int)] w λe w'=>e=Ck (((A0 bs m).1:Int),(A0 bs m).2.1,(A0 bs m).2.2)/\w=w':=by
 have H:=J h;clear h;have G:IntKind.u64.wrap (m:Int)=(m:Int):=DA (by unfold U64;omega);by_cases j:(Az bs).2.2=0
 .have D:((Az bs).2.2 != 0)=false:=by simpa using j
  have z:=J j;clear j;by_cases u:m<(Az bs).1
  .have q:O (A0 bs m=(0,0,5)):=by unfold O A0;rw[if_neg (by simpa using z.o),if_pos u]
   go_enter func181,ntmps181;go_wp2_with fail;refine(Fq A c bs w H.o y).mono ?_;rintro e w' ⟨rfl,rfl⟩;unfold Ce;go_wp2;go_ret3
   refine⟨?_,rfl⟩;rw[q.o];rfl
  .have q:O (A0 bs m=((Az bs).1,(Az bs).2.1,0)):=by unfold O A0;rw[if_neg (by simpa using z.o),if_neg u]
   have F:(Az bs).1<=m:=U;clear u;go_enter func181,ntmps181;go_wp2_with fail;refine(Fq A c bs w H.o y).mono ?_;rintro e w' ⟨rfl,rfl⟩;unfold Ce;go_wp2;go_ret3
   refine⟨?_,rfl⟩;rw[q.o];rfl
 .have D:((Az bs).2.2 != 0)=true:=by simpa using j
  have q:O (A0 bs m=(0,0,(Az bs).2.2)):=by unfold O A0;rw[if_pos j]
  clear j;go_enter func181,ntmps181;go_wp2_with fail;refine(Fq A c bs w H.o y).mono ?_;rintro e w' ⟨rfl,rfl⟩;unfold Ce;go_wp2;go_ret3
  refine⟨?_,rfl⟩;rw[q.o];rfl
theorem PA(A:Option Addr)(c n:Nat)(bs:List UInt8)(w:World)(h:Row w A (Aj bs))(j:bs.length<=1000000000)(q:n=bs.length) :
  Calls prog 185 #[.slice A n c] w λe w'=>e=Ck (AR bs)/\w=w':=by subst q;exact Ju A c bs w h j
theorem GJ(A:Option Addr)(c n:Nat)(bs:List UInt8)(w:World)(h:Row w A (Aj bs))(j:bs.length<=1000000000)(q:n=bs.length) :
  Calls prog 151 #[.slice A n c] w λe w'=>e=Ck (AR bs)/\w=w':=by subst q;exact TQ A c bs w h j
def FY(w:World)(r:List Int×Nat×Int)(en:Ending)(w':World):Prop:=
 ∃A c,en=.returned (.tuple #[.slice A r.1.length c,I (r.2.1:Int),I r.2.2])/\r.1.length<=c/\c<=maxLen/\Own w' w.heap.size 3 (.slice A r.1.length c) (Ai r.1)/\V w w'
theorem Gq{w w':World}{r:List Int×Nat×Int}{l:List Int}{n:Nat}{k e:Int}{v:Value}(F:r=(l,n,e))(u:k=(n:Int))(h:Own w' w.heap.size 3 v (Ai l))(x:V w w'):FY w r (.returned (.tuple #[v,I k,I e])) w':=by
 subst F u;have z:(Ai l).length=l.length:=by simp[Ai]
 obtain⟨A,c,q,j,y,_⟩:=h.slice;rw[z] at q j;subst q;exact⟨A,c,rfl,j,y,h,x⟩
def Mid(bs:List UInt8)(count i:Nat)(l:List Int)(n:Nat)(e:Int)(R:List Int×Nat×Int):Prop:=
 (e=0/\Dc bs (count - i) l n=R)\/(e≠0/\R=([],0,e))
theorem Mid.next{bs:List UInt8}{j i n:Nat}{l:List Int}{R:List Int×Nat×Int}(h:Mid bs j i l n 0 R)(u:i<j) :
  Mid bs j (i+1) (l++[(AR (bs.drop n)).1]) (n+(AR (bs.drop n)).2.1) (AR (bs.drop n)).2.2 R:=by
 rcases h with ⟨_,h⟩|⟨h,_⟩
 .rw[show j - i=(j - (i+1))+1 by omega] at h;by_cases q:(AR (bs.drop n)).2.2=0
  .rw[J8 q] at h;exact .inl ⟨q,h⟩
  .rw[Kh q] at h;exact .inr ⟨q,h.symm⟩
 .exact absurd rfl h
theorem Mid.done{bs:List UInt8}{j i n:Nat}{l:List Int}{R:List Int×Nat×Int}(h:Mid bs j i l n 0 R)(q:¬i<j):R=(l,n,0):=by
 rcases h with ⟨_,h⟩|⟨h,_⟩
 .rw[show j - i=0 by omega] at h;exact h.symm
 .exact absurd rfl h
theorem Mid.fail{bs:List UInt8}{j i n:Nat}{l:List Int}{e:Int}{R:List Int×Nat×Int}(h:Mid bs j i l n e R)(q:e≠0):R=([],0,e):=by
 rcases h with ⟨h,_⟩|⟨_,h⟩
 .exact absurd h q
 .exact h
theorem WD(A:Option Addr)(c:Nat)(bs:List UInt8)(m:Nat)(w:World)(h:Row w A (Aj bs))(hc:bs.length<=c)(hl:bs.length<=1000000000)(hm:m<=100000) :
  Calls prog 233 #[.slice A bs.length c,I (m:Int),.func (Fn.func 185) #[] #[]] w (FY w (Bt bs m)):=by
 have H:=J h;clear h;have ab:=Gr bs m;by_cases D:(A0 bs m).2.2=0
 .have HF:O (Bt bs m=Dc bs (A0 bs m).1 [] (A0 bs m).2.1):=by unfold O Bt;rw[if_neg (by simpa using D)]
  have HE:=J D;clear D;go_enter func233,ntmps233;go_wp2_with fail;refine(GU A c bs m w H.o hl U).mono ?_;rintro e w' ⟨rfl,rfl⟩;unfold Ck;rw[HE.o];generalize hC:(A0 bs m).1=count at *;generalize hN:(A0 bs m).2.1=n0 at *;clear hC hN HE;go_wp2;go_loopw [6,7,8,10,11,12,13] (λv nv ev i _ _ _ wr=>∃(k n:Nat) (l:List Int) (e:Int),k<=count/\n<=bs.length/\l.length<=k/\nv=I (n:Int)/\ev=I e/\i=I (k:Int)/\O (Mid bs count k l n e (Bt bs m))/\Own wr w.heap.size 3 v (Ai l)/\V w wr) (λ_ _ _ i _ _ _ _=>count - (intOf i).toNat)
  case atStart=>exact⟨0,n0,[],0,U,ab.2,zj,rfl,rfl,rfl,.inl ⟨rfl,HF.o.symm⟩,Own.nil _ _ _,V.refl _⟩
  case round=>
   obtain⟨k,n,l,e,u,hn,ad,rfl,rfl,rfl,HM,W,F⟩:=hrel;by_cases D:e=0
   .subst D;by_cases T:k<count
    .have R:=Hh (bs.drop n);rw[zD] at R;have G:n+(AR (bs.drop n)).2.1<=bs.length:=U;clear R;have K:=J (HM.o.next T);by_cases Q:c=n
     .have HZ:=J (λA'=>FE bs n▸Row.past (w:=wr) (A:=A') (xs:=Aj bs) (k:=n) (by rw[Bo];omega));subst Q;go_wp2_with fail;refine(PA _ _ _ (bs.drop c) _ (HZ.o _) (by rw[zD];omega) (by simp only[zD];try omega)).mono ?_;rintro e' w' ⟨rfl,rfl⟩;unfold Ck;generalize AR (bs.drop c)=r at *;go_wp2_with (first
       | (at_builtin;refine DD rfl (.tmp 39) (.tmp 41) rfl _ w.heap.size _ l zi _ zi W U F.size ?_;intro v1 w1 j y ac))
      go_roundw
      case rel=>exact⟨k+1,c+r.2.1,l++[r.1],r.2.2,U,G,zm,by go_num,rfl,by go_num,K,j,y.below F F.size (λq z=>(W.lt q z).1)⟩
      case measure=>simp[intOf];omega
     .have HZ:=J (FE bs n▸Row.map_ (k:=n) (H.o.ext F) (by rw[Bo];exact hc) Q);go_wp2_with fail;refine(PA _ _ _ (bs.drop n) _ HZ.o (by rw[zD];omega) (by simp only[zD];try omega)).mono ?_;rintro e' w' ⟨rfl,rfl⟩;unfold Ck;generalize AR (bs.drop n)=r at *;go_wp2_with (first
       | (at_builtin;refine DD rfl (.tmp 39) (.tmp 41) rfl _ w.heap.size _ l zi _ zi W U F.size ?_;intro v1 w1 j y ac))
      go_roundw
      case rel=>exact⟨k+1,n+r.2.1,l++[r.1],r.2.2,U,G,zm,by go_num,rfl,by go_num,K,j,y.below F F.size (λq z=>(W.lt q z).1)⟩
      case measure=>simp[intOf];omega
    .have X:=J (HM.o.done T);go_wp2;go_ret3
     exact Gq X.o rfl W F
   .have hb:(e == 0)=false:=by simpa using D
    have aa:(e != 0)=true:=by simpa using D
    have X:=J (HM.o.fail D);clear D;go_wp2;go_ret3
    exact Gq X.o rfl (Own.nil _ _ _) F
 .have HF:O (Bt bs m=([],0,(A0 bs m).2.2)):=by unfold O Bt;rw[if_pos D]
  have hb:((A0 bs m).2.2 == 0)=false:=by simpa using D
  have aa:((A0 bs m).2.2 != 0)=true:=by simpa using D
  clear D;go_enter func233,ntmps233;go_wp2_with fail;refine(GU A c bs m w H.o hl U).mono ?_;rintro e w' ⟨rfl,rfl⟩;unfold Ck;go_wp2;refine wp_loop_rounds 1 ?_;rw[rounds_succ];go_wp2;go_ret3
  exact Gq HF.o rfl (Own.nil _ _ _) (V.refl _)
theorem Ta(A:Option Addr)(c:Nat)(bs:List UInt8)(m:Nat)(w:World)(h:Row w A (Aj bs))(F:bs.length<=c)(G:bs.length<=1000000000)(K:m<=100000) :
  Calls prog 225 #[.slice A bs.length c,I (m:Int)] w (FY w (Bt bs m)):=by
 have H:=J h;clear h;go_enter func225,ntmps225;go_wp2_with fail;refine(WD A c bs m w H.o F G K).mono ?_;rintro e Q ⟨z,D,rfl,q,u,j,y⟩;go_wp2;go_ret3
 exact⟨z,D,rfl,q,u,j,y⟩
end Go.Proofs.YtponbabbabnaeaaGreat
