/- Part 7: contracts of functions. Conditions: as each theorem says. -/
import Derived.Lib.AppendStr
import Derived.Test.YtponbabbabnaeaaGreatQh04
set_option maxRecDepth 100000
set_option maxHeartbeats 40000000
set_option linter.unusedVariables false
namespace Go.Proofs.YtponbabbabnaeaaGreat
open Tryz
def uN(n:Int):Nat:=(n % 18446744073709551616).toNat
def AF(l:List Int):List UInt8:=l.flatMap λn=>AB (uN n)
def Bq(p:List UInt8):List UInt8:=AB p.length++p
def DF(e:Ent):List UInt8:=AF [e.v,e.o,e.q]++Bq e.p
def Bb(l:List Ent):List UInt8:=AF [l.length]++l.flatMap DF
def CX(s:Nat):Nat:=(s / 2) ^^^ (3988292384*(s % 2))
def GC(s:Nat)(b:UInt8):Nat:=CX (CX (CX (CX (CX (CX (CX (CX (s ^^^ b.toNat))))))))
def Ch(bs:List UInt8):Nat:=4294967295 ^^^ bs.foldl GC 4294967295
def le4(v:Nat):List UInt8:=[UInt8.ofNat v,UInt8.ofNat (v / 256),UInt8.ofNat (v / 65536),UInt8.ofNat (v / 16777216)]
def Cw(kind:Nat)(body:List UInt8):List UInt8:=[65,71,UInt8.ofNat kind]++AB body.length++body
def AX(kind:Nat)(body:List UInt8):List UInt8:=if body.length<=16777216 then Cw kind body++le4 (Ch (Cw kind body)) else []
structure Cs where
 s:St
 pk:List (Int×List UInt8)
 dl:List Ent
 deriving DecidableEq
def B8:St:=⟨0,[],0,[],0,0,[],[],[]⟩
def Do(s:St)(seq:Int):List UInt8:=(s.pend[((s.pend.length:Int) - 1 - (s.sent - seq)).toNat]?).getD []
def Bp(s:St):Nat:=min (s.sent - Aq s.log s.self).toNat (2000 - s.log.length)
def AI(s:St)(j:Nat):List Ent:=s.log++(List.range j).map λi=>⟨s.base,s.self,Aq s.log s.self+1+i,Do s (Aq s.log s.self+1+i)⟩
def Ct(s:St):St:={s with log:=AI s (Bp s)}
def Ci(s:St)(p:List UInt8):St×Int:=
 if AM s=false then (B8,1)
 else if 6000<p.length\/s.pend.length=32\/s.sent=1099511627776 then (B8,5)
 else
  let o:St:={s with sent:=s.sent+1,pend:=s.pend++[p]}
  (if AD o&&AE o then Ct o else o,0)
def Eg(v:Vw)(self:Int):St×Int:=
 if AK v.1 v.2&&AG v.2 self then (⟨self,[v],v.1,[AP v.1 v.2],0,0,[],[],[]⟩,0) else (B8,1)
def Db(c:Cs)(tg:Int)(kind:Nat)(body:List UInt8):Cs:={c with pk:=c.pk++[(tg,AX kind body)]}
def Bm(l:List Ent)(i j:Int):List Ent:=(l.take j.toNat).drop i.toNat
def Be(c:Cs)(n:Int):Cs:=
 if n<=c.s.stable then c
 else {c with s:={c.s with pend:=c.s.pend.drop (Aq (Bm c.s.log c.s.stable n) c.s.self),stable:=n},dl:=c.dl++Bm c.s.log c.s.stable n}
def Hk(x:Int):List Int->List Int
 | []=>[x]
 | y::l=>if x<=y then x::y::l else y::Hk x l
def Cr:List Int->List Int
 | []=>[]
 | x::l=>Hk x (Cr l)
def BO(s:St):List Int:=(s.log.length:Int)::s.marks.map λm=>m.2
def Cf(c:Cs):Cs:=
 if ((BO c.s).length:Int)<Bs (Ar c.s.views).2.length then c
 else Be c (((Cr (BO c.s))[(((BO c.s).length:Int) - Bs (Ar c.s.views).2.length).toNat]?).getD 0)
def B9(l:List (Int×Int))(m:Int):Option Int:=(l.find? λx=>x.1 == m).map λx=>x.2
def Bw(l:List Fls):Int:=l.foldl (λb f=>max b f.2.1) (-1)
def Ee(s:St):Bool:=s.fls.any λf=>f.1 == s.self
def Eb(l:List Fls)(v:Vw):Bool:=decide (Bs v.2.length<=(l.countP λf=>AG v.2 f.1:Nat))
def Cn(l:List Fls)(base:Int):List Ent:=l.foldl (λout f=>if f.2.1=base/\out.length<f.2.2.length then f.2.2 else out) []
def Dd(log pre:List Ent):Bool:=decide (pre.length<=log.length)&&decide (log.take pre.length=pre)
def Is(s:St):Bool:=s.views.any λv=>decide (Bw s.fls<=v.1)&&(decide (v.1<(Ar s.views).1)&&!Eb s.fls v)
def DU(s:St)(log:List Ent):Bool:=decide (log.length<2000)&&(Dd log (s.log.take s.stable.toNat)&&decide ((Aq log s.self:Int)<=s.sent))
def BJ(s:St):St:=
 if Ee s=false\/Bw s.fls = -1 then s
 else if Is s then s
 else if DU s (Cn s.fls (Bw s.fls))=false then s
 else {s with base:=(Ar s.views).1,log:=Cn s.fls (Bw s.fls)++[AP (Ar s.views).1 (Ar s.views).2],fls:=[]}
def ED(l:List Fls)(m:Int):Nat:=(l.takeWhile λf=>decide (f.1<m)).length
def Bz(l:List Fls)(f:Fls):List Fls:=
 if ((l[ED l f.1]?).map λg=>g.1)=some f.1 then l.set (ED l f.1) f else l.take (ED l f.1)++f::l.drop (ED l f.1)
def Cl(c:Cs)(m:Int):Cs:=
 if m=c.s.self then c
 else match B9 c.s.marks m with
  | none=>Db c m 15 (AF [c.s.base]++Bb c.s.log)
  | some st=>Db c m 12 (AF [c.s.base,st,c.s.stable]++Bb (Bm c.s.log st (min (st+16) c.s.log.length)))
def Gx(c:Cs):Cs:=
 let c1:=Cf {c with s:=Ct c.s}
 (Ar c1.s.views).2.foldl Cl c1
def Fc(s:St):Nat:=(s.sent - Aq s.log s.self).toNat
def Df(c:Cs)(j:Nat):Cs:=Db c (AZ (Ar c.s.views)) 11 (AF [c.s.base,Aq c.s.log c.s.self+1+j]++Bq (Do c.s (Aq c.s.log c.s.self+1+j)))
def Gs(c:Cs):Cs:=
 (List.range (Fc c.s)).foldl Df (Db c (AZ (Ar c.s.views)) 13 (AF [c.s.base,c.s.log.length]))
def Dh(c:Cs):Cs:=
 if AD c.s then (if AE c.s then Gx c else Gs c)
 else if AE c.s then {c with s:=BJ (if Ee c.s then c.s else {c.s with fls:=Bz c.s.fls (c.s.self,c.s.base,c.s.log)})}
 else Db c (AZ (Ar c.s.views)) 14 (AF [(Ar c.s.views).1]++AB (zig c.s.base)++Bb c.s.log)
def BI(s:St):Cs:=if AM s=false then ⟨B8,[],[]⟩ else Dh ⟨s,[],[]⟩
structure Msg where
 kind:Int
 num:Int
 first:Int
 stable:Int
 pay:List UInt8
 ents:List Ent
 deriving DecidableEq
abbrev Rd:=List UInt8×Bool
def BT(bs:List UInt8)(m:Nat):List UInt8×Nat×Int:=
 if (A0 bs m).2.2≠0 then ([],0,(A0 bs m).2.2)
 else if bs.length - (A0 bs m).2.1<(A0 bs m).1 then ([],0,2)
 else ((bs.drop (A0 bs m).2.1).take (A0 bs m).1,(A0 bs m).2.1+(A0 bs m).1,0)
def CJ(r:Rd)(n:Nat)(e:Int):Rd:=if e≠0 then (r.1,true) else (r.1.drop n,r.2)
def AN(r:Rd):Int×Rd:=
 if 1099511627776<(Az r.1).1 then (0,(CJ r (Az r.1).2.1 (Az r.1).2.2).1,true) else ((Az r.1).1,CJ r (Az r.1).2.1 (Az r.1).2.2)
def Ec(r:Rd):Int×Rd:=
 if (AR r.1).1 < -1\/1099511627776<(AR r.1).1 then ((AR r.1).1,(CJ r (AR r.1).2.1 (AR r.1).2.2).1,true) else ((AR r.1).1,CJ r (AR r.1).2.1 (AR r.1).2.2)
def Ds(r:Rd):List UInt8×Rd:=((BT r.1 6000).1,CJ r (BT r.1 6000).2.1 (BT r.1 6000).2.2)
def Eq(r:Rd):Ent×Rd:=
 let a:=AN r;let b:=AN a.2;let c:=AN b.2;let d:=Ds c.2
 (⟨a.1,b.1,c.1,d.1⟩,d.2)
def CB:Nat->Rd->List Ent->List Ent×Rd
 | 0,r,out=>(out,r)
 | n+1,r,out=>if r.2 then (out,r) else CB n (Eq r).2 (out++[(Eq r).1])
def Cj(r:Rd):List Ent×Rd:=
 CB (AN r).1.toNat (if 2000<(AN r).1 then ((AN r).2.1,true) else (AN r).2) []
def Bj(b:List UInt8):Int×List UInt8×Nat×Int:=
 if b.length<3 then (0,[],0,2)
 else if b[0]?≠some 65\/b[1]?≠some 71\/b[2]?=some 0 then (0,[],0,3)
 else
  let d:=A0 (b.drop 3) 16777216
  if d.2.2≠0 then (0,[],0,d.2.2)
  else if b.length - (3+d.2.1)<d.1+4 then (0,[],0,2)
  else if le4 (Ch (b.take (3+d.2.1+d.1)))≠(b.drop (3+d.2.1+d.1)).take 4 then (0,[],0,4)
  else ((((b[2]?).getD 0).toNat:Int),(b.take (3+d.2.1+d.1)).drop (3+d.2.1),3+d.2.1+d.1+4,0)
def Dg(kind:Int)(r0:Rd):Option (Msg×Rd):=
 let a:=AN r0
 if kind=11 then let b:=AN a.2;let p:=Ds b.2;some (⟨kind,a.1,b.1,0,p.1,[]⟩,p.2)
 else if kind=12 then let b:=AN a.2;let s:=AN b.2;let l:=Cj s.2;some (⟨kind,a.1,b.1,s.1,[],l.1⟩,l.2)
 else if kind=13 then let b:=AN a.2;some (⟨kind,a.1,b.1,0,[],[]⟩,b.2)
 else if kind=14 then let b:=Ec a.2;let l:=Cj b.2;some (⟨kind,a.1,b.1,0,[],l.1⟩,l.2)
 else if kind=15 then let l:=Cj a.2;some (⟨kind,a.1,0,0,[],l.1⟩,l.2)
 else none
def Bd(frame:List UInt8):Option Msg:=
 let o:=Bj frame
 if o.2.2.2≠0\/o.2.2.1≠frame.length then none
 else match Dg o.1 (o.2.1,false) with
  | none=>none
  | some (m,r)=>if r.2=false/\r.1.length=0 then some m else none
def EF(c:Cs)(fr:Int)(m:Msg):Cs:=
 if m.first=Aq c.s.log fr+1/\c.s.log.length<2000 then {c with s:={c.s with log:=c.s.log++[⟨c.s.base,fr,m.first,m.pay⟩]}} else c
def Cc(c:Cs)(m:Msg):Nat:=min (c.s.log.length - m.first.toNat) m.ents.length
def CQ(c:Cs)(m:Msg):Cs:=
 if (c.s.log.length:Int)<m.first then c
 else if (c.s.log.drop m.first.toNat).take (Cc c m)≠m.ents.take (Cc c m) then c
 else if (m.ents.drop (Cc c m)).any (λe=>decide (e.v≠c.s.base)||decide (e.o=0)) then c
 else if Bc (c.s.log++m.ents.drop (Cc c m))=false\/c.s.sent<Aq (c.s.log++m.ents.drop (Cc c m)) c.s.self then c
 else Be {c with s:={c.s with log:=c.s.log++m.ents.drop (Cc c m)}} (min m.stable (c.s.log++m.ents.drop (Cc c m)).length)
def Dx(l:List (Int×Int))(m:Int):Nat:=(l.takeWhile λx=>decide (x.1<m)).length
def CF(l:List (Int×Int))(fr n:Int):List (Int×Int):=
 match l[Dx l fr]? with
 | some (a,b)=>if a=fr then l.set (Dx l fr) (a,max b n) else l.take (Dx l fr)++(fr,max 0 n)::l.drop (Dx l fr)
 | none=>l++[(fr,max 0 n)]
def Eo(c:Cs)(fr n:Int):Cs:=
 if (c.s.log.length:Int)<n then c else Cf {c with s:={c.s with marks:=CF c.s.marks fr n}}
def FK(c:Cs)(m:Msg):Cs:=
 if 0<m.ents.length/\Bi m.ents m.num=true/\Dd m.ents (c.s.log.take c.s.stable.toNat)=true/\(Aq m.ents c.s.self:Int)<=c.s.sent then {c with s:={c.s with base:=m.num,log:=m.ents}} else c
def BH(c:Cs)(fr:Int)(m:Msg):Cs:=
 if m.kind=11/\AD c.s=true/\AE c.s=true/\AG (Ar c.s.views).2 fr=true then EF c fr m
 else if m.kind=12/\AD c.s=true/\AE c.s=false/\fr=AZ (Ar c.s.views) then CQ c m
 else if m.kind=13/\AD c.s=true/\AE c.s=true/\AG (Ar c.s.views).2 fr=true then Eo c fr m.first
 else if m.kind=14/\AD c.s=false/\AE c.s=true then
  (if Bh c.s.views (fr,m.first,m.ents) then {c with s:=BJ {c.s with fls:=Bz c.s.fls (fr,m.first,m.ents)}} else c)
 else if m.kind=15/\AD c.s=false/\AE c.s=false/\fr=AZ (Ar c.s.views)/\AG (Ar c.s.views).2 c.s.self=true then FK c m
 else c
def BU(s:St)(fr:Int)(frame:List UInt8):Cs×Int:=
 if AM s=false\/AQ fr=false\/fr=s.self then (⟨B8,[],[]⟩,1)
 else match Bd frame with
  | none=>(⟨B8,[],[]⟩,3)
  | some m=>(if m.num=(Ar s.views).1 then BH ⟨s,[],[]⟩ fr m else ⟨s,[],[]⟩,0)
open Go.RowKit
theorem Mn(p:List UInt8):Go.Lib.strCells (Ah p)=Aj p:=by
 rw[Gf];simp[Go.Lib.strCells,Aj]
theorem SO(B:Nat)(v:Value)(xs p:List UInt8)(w:World)(T:Own w B 5 v (Aj xs))(R:B<=w.heap.size)(hl:xs.length<=100000000)(hp:p.length<=100000000) :
  Calls prog 172 #[v,.string (Ah p)] w λe w'=>∃W,e=.returned W/\Own w' B 5 W (Aj (xs++Bq p))/\Grew w w' v:=by
 have HO:=J T;clear T;have z:O (p.length<U64):=J (by unfold U64;omega);have X:=J (BW z.o);have ab:=CZ p;have hw:IntKind.u64.wrap (p.length:Int)=(p.length:Int):=DA z.o;go_enter func172,ntmps172;go_wp2_with fail;refine(Ic B v xs p.length w HO.o R U z).mono ?_;rintro e w1 ⟨v1,rfl,q,j,F⟩;have u:=J q;clear q;have aa:(xs++AB p.length).length<=100000100:=by have:=X.o;simp;omega
 obtain⟨i0,hi,G,K,Q⟩:=info_parts D8;go_wp2_with (first
  | (at_builtin;refine Go.Lib.wpList_append_own_string w1 rfl (.tmp 9) (.tmp 10) 29 9 rfl B 5 i0 Tryz.underlying29 Tryz.underlying9 hi G K Q v1 (xs++AB p.length).length (Aj (xs++AB p.length)) zi (by have:=u.o;unfold Own at this;rw[Bo] at this;exact this) (Ah p) zi (by rw[CZ];unfold maxLen;omega) (by rw[CZ];omega) (zL R j.size) ?_;intro v2 w2 D y _))
 go_ret;refine⟨v2,rfl,?_,j.trans F y⟩;have hb:Aj (xs++Bq p)=Aj (xs++AB p.length)++Go.Lib.strCells (Ah p):=by rw[Mn,<-Ew];unfold Bq;rw[List.append_assoc]
 unfold Own;rw[hb,zA,Bo,Go.Lib.strCells_length];exact D
theorem Md(A:Option Addr)(c:Nat)(bs p:List UInt8)(w:World)(h:Row w A (Aj bs))(F:bs.length<=100000000)(K:p.length<=100000000) :
  Calls prog 120 #[.slice A bs.length c,.string (Ah p)] w (GivesB w (bs++Bq p)):=by
 have H:=J h;clear h;have Q:=CZ p;have X:IntKind.i64.wrap ((p.length:Int)+10)=((p.length+10:Nat):Int):=by rw[IntWalk.i64_in _ U];simp
 go_enter func120,ntmps120;go_wp2_with fail;refine(GR A c bs (p.length+10) w H.o U U).mono ?_;rintro e R ⟨T,W,rfl,z,G,q,j⟩;go_wp2_with fail;refine(SO w.heap.size _ bs p R q j.size F K).mono ?_;rintro e w2 ⟨v2,rfl,y,u⟩;go_wp2;go_ret;exact El y (u.below j j.size (λk D=>(q.lt k D).1))
def EO:Nat->Nat->Nat
 | 0,s=>s
 | k+1,s=>EO k (CX s)
theorem KB(k:Nat):∀s,EO (k+1) s=CX (EO k s):=by
 induction k with
 | zero=>intro s;rfl
 | succ k h=>intro s;rw[EO,h (CX s),EO]
theorem Lh(s:Nat)(b:UInt8):GC s b=EO 8 (s ^^^ b.toNat):=rfl
theorem Zo{s:Nat}(h:s<4294967296):CX s<4294967296:=by
 unfold CX;refine Nat.xor_lt_two_pow (n:=32) U ?_;have:s % 2<2:=Nat.mod_lt _ zd;omega
theorem Lj(k:Nat):∀s,s<4294967296->EO k s<4294967296:=by
 induction k with
 | zero=>intro s h;exact h
 | succ k j=>intro s h;exact j _ (Zo h)
theorem J0{s:Nat}(b:UInt8)(h:s<4294967296):s ^^^ b.toNat<4294967296:=Nat.xor_lt_two_pow (n:=32) h (by have:=b.toNat_lt;omega)
theorem Nh(bs:List UInt8):∀s,s<4294967296->bs.foldl GC s<4294967296:=by
 induction bs with
 | nil=>intro s h;exact h
 | cons b l j=>intro s h;exact j _ (by rw[Lh];exact Lj _ _ (J0 b h))
theorem Ws{s:Nat}(h:s<4294967296):bits .xor .u32 ((s:Int) / 2) (3988292384*bits .and .u32 (s:Int) 1 % 4294967296)=((CX s:Nat):Int):=by
 have j:bits .and .u32 (s:Int) 1=((s % 2:Nat):Int):=by
  have:=u32_and_nat s 1 h zd;rw[Nat.and_one_is_mod] at this;exact this
 rw[j];have q:(3988292384*((s % 2:Nat):Int)) % 4294967296=((3988292384*(s % 2):Nat):Int):=by
  have:s % 2<2:=Nat.mod_lt _ zd;omega
 rw[q];have u:((s:Int) / 2)=((s / 2:Nat):Int):=U;rw[u,u32_xor_nat _ _ U (by have:s % 2<2:=Nat.mod_lt _ zd;omega)];rfl
theorem Pf{s:Nat}(b:UInt8)(h:s<4294967296):bits .xor .u32 (s:Int) ((b.toNat:Int) % 4294967296)=((s ^^^ b.toNat:Nat):Int):=by
 have j:=b.toNat_lt;rw[show ((b.toNat:Int) % 4294967296)=(b.toNat:Int) by omega];exact u32_xor_nat _ _ h U
theorem Mx(A:Option Addr)(c:Nat)(bs:List UInt8)(w:World)(h:Row w A (Aj bs))(hl:bs.length<=1000000000) :
  Calls prog 175 #[.slice A bs.length c] w λe w'=>e=.returned (.int .u32 (Ch bs:Int))/\w=w':=by
 have H:=J h;clear h;go_enter func175,ntmps175;go_wp2;go_loopw [3,8] (λs i wr=>∃(k n:Nat),k<=bs.length/\i=I (k:Int)/\s=.int .u32 (n:Int)/\O (n=(bs.take k).foldl GC 4294967295)/\w=wr) (λ_ i _=>bs.length - (intOf i).toNat)
 case atStart=>exact⟨0,4294967295,zO _,rfl,rfl,J rfl,rfl⟩
 case round=>
  obtain⟨k,n,hk,rfl,rfl,y,rfl⟩:=hrel;have G:O (n<4294967296):=J (by rw[y.o];exact Nh _ _ zd);by_cases F:k<bs.length
  .obtain⟨b,aa,x,rfl,c0,K⟩:=H.o.byte F;have W:=Pf x G.o;have q:∀m j:Nat,m=EO j (n ^^^ x.toNat)->j<=8->¬j<8->m=(bs.take (k+1)).foldl GC 4294967295:=by
    intro m j Q h2 h3;have R:j=8:=U;subst R;rw[Q,<-Lh,y.o,List.take_add_one,K.o];simp
   go_wp2;go_loopw [3,16] (λs i wr=>∃(j m:Nat),j<=8/\i=I (j:Int)/\s=.int .u32 (m:Int)/\O (m=EO j (n ^^^ x.toNat))/\w=wr) (λ_ i _=>8 - (intOf i).toNat)
   case atStart=>exact⟨0,n ^^^ x.toNat,zO _,rfl,rfl,J rfl,by first|trivial|rfl⟩
   case round=>
    obtain⟨j,m,hj,rfl,rfl,u,rfl⟩:=hrel;have hm:O (m<4294967296):=J (by rw[u.o];exact Lj _ _ (J0 x G.o));by_cases z:j<8
    .have X:=Ws hm.o;go_wp2;go_roundw
     case rel=>exact⟨j+1,CX m,U,by go_num,rfl,J (by rw[KB,u.o]),by first|trivial|rfl⟩
     case measure=>simp[intOf];omega
    .go_wp2;go_roundw
     case rel=>exact⟨k+1,m,U,by go_num,rfl,J (q m j u.o hj z),by first|trivial|rfl⟩
     case measure=>simp[intOf];omega
  .have D:k=bs.length:=U;subst D;go_wp2;go_ret;refine⟨?_,rfl⟩;have hx:=u32_xor_nat 4294967295 n zd G.o;have T:Ch bs=4294967295 ^^^ n:=by unfold Ch;rw[y.o,List.take_length]
   rw[T,<-hx];rfl
theorem ZC(v:Nat)(w:World):Row (w.alloc (.cells #[.int .u8 ((v:Int) % 256),.int .u8 ((v:Int) / 256 % 256),.int .u8 ((v:Int) / 65536 % 256),.int .u8 ((v:Int) / 16777216 % 256)] 5)) (some (Z w.heap.size 0)) (Aj (le4 v)):=by
 intro _;refine⟨w.heap.size,0,rfl,zj,λj q h=>?_⟩;simp only[Aj,le4,List.map_cons,List.map_nil,UInt8.toNat_ofNat'] at h;rw[show ((v % 2 ^ 8:Nat):Int)=(v:Int) % 256 by omega,show ((v / 256 % 2 ^ 8:Nat):Int)=(v:Int) / 256 % 256 by omega,show ((v / 65536 % 2 ^ 8:Nat):Int)=(v:Int) / 65536 % 256 by omega,show ((v / 16777216 % 2 ^ 8:Nat):Int)=(v:Int) / 16777216 % 256 by omega] at h
 match j,h with
 | 0,h=>simpa using h
 | 1,h=>simpa using h
 | 2,h=>simpa using h
 | 3,h=>simpa using h
theorem Ou(B:Nat)(v:Value)(xs:List UInt8)(n:Nat)(w:World)(y:Own w B 5 v (Aj xs))(K:B<=w.heap.size)(Q:xs.length<=1000000000) :
  Calls prog 174 #[v,.int .u32 (n:Int)] w λe w'=>∃z,e=.returned z/\Own w' B 5 z (Aj (xs++le4 n))/\Grew w w' v:=by
 have D:=J y;clear y;go_enter func174,ntmps174;go_wp2_with (first
  | (at_builtin;refine Fp rfl (.tmp 5) (.tmp 17) _ 5 _ 1 rfl Tryz.underlying29 D8 rfl zd _ B v (Aj xs) zi _ _ _ (Aj (le4 n)) zi zi (ZC n w) (FN _) (D.o.ext (V.new _ _)) (by rw[Bo];omega) zm ?_;intro v1 R u j G))
 go_ret;refine⟨v1,rfl,?_,?_⟩
 .rw[Ew];exact u
 .exact⟨j.os,j.tape,j.output,zL zj j.size,λk F q=>(j.block k zm q).trans (Below.heap_alloc _ _ _ F)⟩
theorem Yz(k:Nat)(u:k<=255)(w:World):Row (w.alloc (.cells #[.int .u8 65,.int .u8 71,.int .u8 (k:Int)] 5)) (some (Z w.heap.size 0)) (Aj [65,71,UInt8.ofNat k]):=by
 intro _;refine⟨w.heap.size,0,rfl,zj,λj q h=>?_⟩;simp only[Aj,List.map_cons,List.map_nil,UInt8.toNat_ofNat'] at h;rw[show ((k % 2 ^ 8:Nat):Int)=(k:Int) by omega] at h
 match j,h with
 | 0,h=>simpa using h
 | 1,h=>simpa using h
 | 2,h=>simpa using h
def QW(w:World)(bs:List UInt8)(err:Int)(en:Ending)(w':World):Prop:=
 ∃A c,en=.returned (.tuple #[.slice A bs.length c,I err])/\bs.length<=c/\c<=maxLen/\Own w' w.heap.size 5 (.slice A bs.length c) (Aj bs)/\V w w'
theorem WM(k:Nat)(A:Option Addr)(c:Nat)(j:List UInt8)(w:World)(h:Row w A (Aj j))(hl:j.length<=100000000)(u:1<=k/\k<=255) :
  Calls prog 124 #[I (k:Int),.slice A j.length c] w λe w'=>∃ac,QW w (AX k j) ac e w':=by
 have H:=J h;clear h;by_cases hb:j.length<=16777216
 .have HF:O (AX k j=Cw k j++le4 (Ch (Cw k j))):=J (by unfold AX;rw[if_pos hb]);have hn:O (j.length<U64):=J (by unfold U64;omega);have HL:=J (BW hn.o);have hw:IntKind.u64.wrap (j.length:Int)=(j.length:Int):=DA hn.o;have al:IntKind.i64.wrap ((j.length:Int)+8)=((j.length+8:Nat):Int):=by rw[IntWalk.i64_in _ U];simp
  have E0:O (V w (w.alloc (.cells #[.int .u8 65,.int .u8 71,.int .u8 (k:Int)] 5))):=J (V.new _ _);go_enter func124,ntmps124;go_wp2_with fail;refine(GR (some (Y w 0)) 3 [65,71,UInt8.ofNat k] (j.length+8) _ (Yz k u.2 w) zj U).mono ?_;rintro e w1 ⟨A1,c1,rfl,ai,aj,T,aa⟩;have X1:=E0.o.t aa;have z:=J (T.base (B':=w.heap.size) zj);clear T aa;go_wp2_with fail;refine(Ic w.heap.size _ _ j.length w1 z.o X1.o.size zj hn).mono ?_;rintro e w2 ⟨v2,rfl,W,Q,ae⟩;have X2:=J (Q.below X1.o X1.o.size (λk u=>(z.o.lt k u).1));have D:=J W;clear W Q ae;go_wp2_with (first
   | (at_builtin;refine Fp rfl (.tmp 29) (.tmp 30) _ 5 _ 1 rfl Tryz.underlying29 D8 rfl zd _ w.heap.size v2 _ zi A j.length c (Aj j) zi (by rw[Bo]) (H.o.ext X2.o) (FN _) D.o (by have:=HL.o;rw[Bo];simp;omega) X2.o.size ?_;intro v3 w3 y R af))
  have X3:=J (R.below X2.o X2.o.size (λk u=>(D.o.lt k u).1));have q:O (Own w3 w.heap.size 5 v3 (Aj (Cw k j))):=J (by rw[<-Ew] at y;exact y);have ak:(Cw k j).length<=100000100:=by have:=HL.o;unfold Cw;simp;omega
  clear y R af;obtain⟨A3,c3,rfl,ag,ah,ab⟩:∃A F,v3=.slice A (Cw k j).length F/\(Cw k j).length<=F/\F<=maxLen/\O (Row w3 A (Aj (Cw k j))):=by
   obtain⟨A,F,G,K,h3,h4⟩:=q.o.slice;rw[Bo] at G K;exact⟨A,F,G,K,h3,J h4⟩
  go_wp2_with fail;refine(Mx A3 c3 (Cw k j) w3 ab.o U).mono ?_;rintro e w4 ⟨rfl,rfl⟩;go_wp2_with fail;refine(Ou w.heap.size _ (Cw k j) (Ch (Cw k j)) w3 q.o X3.o.size U).mono ?_;rintro e w5 ⟨v5,rfl,X,ad⟩;have X5:=J (ad.below X3.o X3.o.size (λk u=>(q.o.lt k u).1));go_wp2;go_ret2
  obtain⟨A5,c5,G,K,h3,h4⟩:=X.slice;rw[Bo] at G K;subst G;rw[HF.o];exact⟨0,A5,c5,rfl,K,h3,X,X5.o⟩
 .have HF:O (AX k j=[]):=J (by unfold AX;rw[if_neg hb]);go_enter func124,ntmps124;go_wp2;go_ret2
  rw[HF.o];exact⟨1,none,0,rfl,zR _,zO _,Own.nil _ _ _,V.refl _⟩
def CG:Elem UInt8 where
 f b:=[.int .u8 (b.toNat:Int)]
 k:=1
 ty:=5
 st:=29
 z:=.int .u8 0
 bytes:=1
 inn _:=[]
 ok _:=True
 len _:=rfl
 one a:=by intro u hu;simp only[zC,zN,or_false] at hu;rcases hu with rfl;rfl
 pos:=zd
 und:=Tryz.underlying29
 info:=zh
 zk:=rfl
 small:=zd
theorem Nn(xs:List UInt8):CG.cells xs=Aj xs:=by
 induction xs with
 | nil=>rfl
 | cons x l h=>rw[CG.cells_cons,h];rfl
def AO(A:Option Addr)(l c k:Nat):Option Addr:=if c=l then A else A.map (·.add (l*k))
theorem VZ(A:Option Addr)(c k:Nat):AO A 0 c k=A:=by
 unfold AO;split
 .rfl
 .cases A with
  | none=>rfl
  | some a=>simp[Addr.add]
section
variable {α:Type} (E:Elem α)
theorem Elem.size_run(W:World):(sizeOf (prog.elem E.st)).run prog W=.ok E.k W:=by
 obtain⟨i,h,_,j,_⟩:=E.info_parts;have:prog.elem E.st=E.ty:=by unfold Program.elem;rw[E.und]
 rw[this];simp[sizeOf,typeInfo,h,j]
theorem Elem.und':prog.underlying E.st=some (.slice (prog.elem E.st)):=by
 have:prog.elem E.st=E.ty:=by unfold Program.elem;rw[E.und]
 rw[this];exact E.und
theorem Elem.slice_lh(A:Option Addr)(n c h j:Nat)(u q:Int)(y:u=h)(z:q=j)(D:h<=j)(F:j<=c)(W:World) :
  (Instr.slice E.st (.slice A n c) (some (I u)) (some (I q)) none).run prog W=.ok (.slice (AO A h c E.k) (j - h) (c - h)) W:=by
 subst y z;rw[run_slice_lh W _ A n c E.und' _ _ _ _ U U U,E.size_run];simp[sliced,AO,Result.andThen]
theorem Elem.slice_l(A:Option Addr)(n c h:Nat)(j:Int)(q:j=h)(u:h<=n)(W:World) :
  (Instr.slice E.st (.slice A n c) (some (I j)) none none).run prog W=.ok (.slice (AO A h c E.k) (n - h) (c - h)) W:=by
 subst q;rw[run_slice_l W _ A n c E.und' _ _ U U,E.size_run];simp[sliced,AO,Result.andThen]
theorem Elem.slice_h(A:Option Addr)(n c h:Nat)(j:Int)(q:j=h)(u:h<=c)(W:World) :
  (Instr.slice E.st (.slice A n c) none (some (I j)) none).run prog W=.ok (.slice A h c) W:=by
 subst q;rw[run_slice_h W _ A n c E.und' _ _ U U,E.size_run];have:=VZ A c E.k;unfold AO at this;simp only[sliced,Result.andThen,this,Int.toNat_natCast,Nat.sub_zero]
theorem Elem.slice_lhm(A:Option Addr)(n c h q j:Nat)(y u z:Int)(D:y=h)(F:u=q)(G:z=j)(K:h<=q)(Q:q<=j)(R:j<=c)(W:World) :
  (Instr.slice E.st (.slice A n c) (some (I y)) (some (I u)) (some (I z))).run prog W=.ok (.slice (AO A h j E.k) (q - h) (j - h)) W:=by
 subst D F G;rw[run_slice_lhm W _ A n c E.und' _ _ _ _ _ _ U U U U,E.size_run];simp[sliced,AO,Result.andThen]
theorem Elem.cells_drop(l:List α)(n:Nat):E.cells (l.drop n)=(E.cells l).drop (n*E.k):=by
 induction l generalizing n with
 | nil=>simp[Elem.cells]
 | cons a l h=>
  match n with
  | 0=>simp
  | n+1=>
   rw[List.drop_succ_cons,h,E.cells_cons,Nat.succ_mul,Nat.add_comm (n*E.k) E.k,<-List.drop_drop,List.drop_left' (E.len a)]
theorem Elem.cells_take(l:List α)(n:Nat):E.cells (l.take n)=(E.cells l).take (n*E.k):=by
 induction l generalizing n with
 | nil=>simp[Elem.cells]
 | cons a l h=>
  match n with
  | 0=>simp[Elem.cells]
  | n+1=>
   rw[List.take_succ_cons,E.cells_cons,E.cells_cons,h,Nat.succ_mul,Nat.add_comm (n*E.k) E.k,List.take_append,E.len];congr 1
   .rw[List.take_of_length_le (by rw[E.len];omega)]
   .congr 1;omega
end
theorem Row.take{w:World}{A:Option Addr}{xs:List Value}(h:Row w A xs)(n:Nat):Row w A (xs.take n):=by
 intro u;have G:xs≠[]:=by intro e;subst e;simp at u
 obtain⟨b,y,z,D,F⟩:=h G;refine⟨b,y,z,D,λj v q=>F j v ?_⟩;rw[List.getElem?_take] at q;split at q
 .exact q
 .cases q
theorem Row.sub{w:World}{A:Option Addr}{xs:List Value}{l k c:Nat}(h:Row w A xs)(G:xs.length<=c*k):Row w (AO A l c k) (xs.drop (l*k)):=by
 intro q;have F:l*k<xs.length:=by
  rcases Nat.lt_or_ge (l*k) xs.length with h1|h1
  .exact h1
  .exact absurd (List.drop_eq_nil_of_le h1) q
 obtain⟨b,u,rfl,z,y⟩:=h.addr F;unfold AO;rw[if_neg (by intro e;subst e;omega)];refine⟨b,u+l*k,?_,z,λj v D=>?_⟩
 .simp only[Option.map_some,zJ];unfold Addr.add;split<;>simp_all
 .have:=y (l*k+j) v (by rw[<-D,List.getElem?_drop]);rw[Nat.add_assoc];exact this
theorem Elem.row_sub{α:Type}{E:Elem α}{w:World}{A:Option Addr}{l:List α}{c:Nat}(h:Row w A (E.cells l))(u:l.length<=c)(j q:Nat):Row w (AO A j c E.k) (E.cells ((l.take q).drop j)):=by
 rw[E.cells_drop];refine Row.sub (c:=c) ?_ ?_
 .rw[E.cells_take];exact h.take _
 .rw[E.cells_len];exact Nat.mul_le_mul_right _ (by rw[zT];omega)
theorem Elem.row_from{α:Type}{E:Elem α}{w:World}{A:Option Addr}{l:List α}{c:Nat}(h:Row w A (E.cells l))(q:l.length<=c)(j:Nat):Row w (AO A j c E.k) (E.cells (l.drop j)):=by
 have:=Elem.row_sub h q j l.length;rwa [List.take_length] at this
theorem Elem.row_upto{α:Type}{E:Elem α}{w:World}{A:Option Addr}{l:List α}(h:Row w A (E.cells l))(j:Nat):Row w A (E.cells (l.take j)):=by
 rw[E.cells_take];exact h.take _
theorem DZ{w:World}{A:Option Addr}{bs:List UInt8}(h:Row w A (Aj bs)):Row w A (CG.cells bs):=by rw[Nn];exact h
theorem D3{w:World}{A:Option Addr}{bs:List UInt8}(h:Row w A (CG.cells bs)):Row w A (Aj bs):=by rw[<-Nn];exact h
end Go.Proofs.YtponbabbabnaeaaGreat
namespace Go.Proofs.YtponbabbabnaeaaGreat
open Tryz
section
variable {P:Program} {ops:Array Oper} {Q:Exit->Act->World->Prop} {md:Region.Mode} {S:World->Prop} {n:Nat}
def wpE(P:Program)(md:Region.Mode)(ops:Array Oper)(Q:Exit->Act->World->Prop)(S:World->Prop)(n:Nat):Nat->Array Bool->Act->World->Prop
 | 0,listed,a,w=>Region.ready md ops listed=[]/\Q .normal a w
 | fuel+1,listed,a,w=>
  (Region.ready md ops listed=[]->Q .normal a w)/\
  ∀i∈Region.ready md ops listed,wpOp P ops Q i (λa' w'=>(i<n->S w')/\wpE P md ops Q S n fuel (listed.setIfInBounds i true) a' w') a w
theorem Oz:∀(j:Nat) (q:Array Bool) (a:Act) (w:World),wpE P md ops Q S n j q a w->wpAny P md ops Q j q a w
 | 0,_,_,_,h=>h
 | j+1,_,_,_,h=>⟨h.1,λi y=>wpOp_mono (λa' w' u=>Oz j _ a' w' u.2) (h.2 i y)⟩
def LU(md:Region.Mode)(ops:Array Oper)(n:Nat):Bool:=
 (List.range ops.size).all λt=>decide (t<=n)||(List.range t).any λj=>decide (n<=j)&&Region.waitsFor md ops t j
theorem U7{n:Nat}{h:Array Bool}(hs:Region.sinkB md ops n=true)(hc:LU md ops n=true)(F:HeadInv md ops n h) :
  ∀(d i:Nat),n - i=d->i<n->h.getD i true=false->∀t,n<=t->t∉Region.ready md ops h:=by
 intro d;induction d using Nat.strongRecOn with
 | _ d ih=>
  intro i hd hi R t ht hr;obtain⟨_,ot,D,y⟩:=mem_ready.1 hr;have Q:t<ops.size:=(Array.getElem?_eq_some_iff.1 D).1;by_cases ae:t=n
  .subst ae;have z:=List.all_eq_true.1 hs i (List.mem_range.2 hi);obtain⟨j,hj,G⟩:=List.any_eq_true.1 z;simp only[zB,zE] at G;obtain⟨oj,K,e,W,T,q⟩:=Region.waitsFor_spec G.2;have af:j<=t:=by have:=List.mem_range.1 hj;omega
   by_cases ab:j=t
   .subst ab;have:oj=ot:=Option.some.inj (K.symm.trans D);subst this;have u:=y e W T;rw[q,getD_both R] at u;cases u
   .cases hl:h.getD j false with
    | true=>
     have u:=F.closed j oj K hl e W T;rw[q,getD_both R] at u;cases u
    | false=>
     have aa:j<h.size:=by rw[F.size];omega
     exact ih (t - j) U j rfl U (getD_in aa hl) t (zR _) hr
  .have z:=List.all_eq_true.1 hc t (List.mem_range.2 Q);simp only[Bool.or_eq_true,zE] at z;rcases z with z|z
   .omega
   .obtain⟨t',ad,X⟩:=List.any_eq_true.1 z;simp only[zB,zE] at X;obtain⟨o',ac,e,W,T,q⟩:=Region.waitsFor_spec X.2;have:o'=ot:=Option.some.inj (ac.symm.trans D);subst this;have u:=y e W T;rw[q,getD_both (F.tail t' X.1 (by have:=List.mem_range.1 ad;omega))] at u;cases u
theorem E_first{i:Nat}{oi:Oper}{v:Value}(hi:ops[i]?=some oi)(R:∀(j:Nat) (o:Oper) cs b,ops[j]?=some o->o.op≠.select cs b)
  (hs:n=ops.size\/(Region.sinkB md ops n=true/\LU md ops n=true/\n<ops.size)) (ag:i<n)
  (hQ:∀c a w,Q (.panic c) (a.put oi.dst v) w->Q (.panic c) a w) :
  ∀(u:Nat) (q:Array Bool) (a:Act) (w:World),HeadInv md ops n q->
   (∀j T,ops[j]?=some T->j≠i->q.getD j true=false->(∀e∈T.after,Region.binds md e=true->e.on≠i)->oi.apart ops T=true)->
   i∈Region.ready md ops q->YieldsIf P ops S oi v a->S w->
   wpE P md ops Q S n u (q.setIfInBounds i true) (a.put oi.dst v) w->wpE P md ops Q S n (u+1) q a w:=by
 intro u;induction u with
 | zero=>
  intro q a w _ _ X hy hS H;refine⟨λh=>(by rw[h] at X;cases X),λj W=>?_⟩;by_cases y:j=i
  .subst y;exact hy.wpOp hi hS ⟨λ_=>hS,H⟩
  .have:=ready_mono W y;rw[H.1] at this;cases this
 | succ u ih=>
  intro q a w ae z X hy hS H;have F:=(mem_ready.1 X).1;refine⟨λh=>(by rw[h] at X;cases X),λj W=>?_⟩;by_cases y:j=i
  .subst y;exact hy.wpOp hi hS ⟨λ_=>hS,H⟩
  .have ac:j<n:=by
    rcases Nat.lt_or_ge j n with h|h
    .exact h
    .rcases hs with hs|⟨hs,hc,hn⟩
     .obtain⟨_,T,D,_⟩:=mem_ready.1 W;have:=(Array.getElem?_eq_some_iff.1 D).1;omega
     .exact absurd W (U7 hs hc ae _ i rfl ag F j h)
   have h1:=H.2 j (ready_mono W y);obtain⟨K,T,D,aa⟩:=mem_ready.1 W;have ad:∀e∈T.after,Region.binds md e=true->e.on≠i:=λe he hb af=>by
    have h1:=aa e he hb;rw[af,getD_both F] at h1;cases h1
   have h2:=wpOp_putIf D (z j T D y K ad) (λcs b=>R i oi cs b hi) (λcs b=>R j T cs b D) hQ hy h1;have G:∀k ok,ops[k]?=some ok->k≠i->(q.setIfInBounds j true).getD k true=false->
     (∀e∈ok.after,Region.binds md e=true->e.on≠i)->oi.apart ops ok=true:=λk ok hk ah F ai=>by
    refine z k ok hk ah ?_ ai;by_cases ab:j=k
    .subst ab;exact K
    .rw[getD_set_ne true ab] at F;exact F
   refine wpOp_mono (λa' w' h3=>⟨h3.2.1,ih (q.setIfInBounds j true) a' w' (ae.set W ac) G (ready_mono X (Ne.symm y)) h3.1 (h3.2.1 ac) ?_⟩) h2;rw[Array.setIfInBounds_comm _ _ y];exact h3.2.2
def LH(md:Region.Mode)(ops:Array Oper)(n:Nat)(listed:Array Bool):Bool:=
 decide (listed.size=ops.size)&&(((List.range ops.size).all λj=>!listed.getD j false||((ops[j]?).map (·.after.all λe=>!Region.binds md e||listed.getD e.on false)).getD true)&&((List.range ops.size).all λt=>decide (t<n)||!listed.getD t true))
theorem Uy{q:Array Bool}(h:LH md ops n q=true):HeadInv md ops n q:=by
 unfold LH at h;simp only[zB,zE,List.all_eq_true,List.mem_range] at h;obtain⟨F,G,K⟩:=h;refine⟨F,λj X D T e R Q=>?_,λt W y=>?_⟩
 .have u:=G j (Array.getElem?_eq_some_iff.1 D).1;rw[T,D] at u;simp only[Bool.not_true,Option.map_some,Option.getD_some,Bool.false_or] at u;have z:=Array.all_eq_true'.1 u e R;rw[Q] at z;simpa using z
 .have u:=K t y;simp only[Bool.or_eq_true,zE,Bool.not_eq_true'] at u;rcases u with u|u
  .omega
  .exact u
def Bn(md:Region.Mode)(ops:Array Oper)(n:Nat)(listed:Array Bool)(i:Nat):Bool:=
 Region.noSelect ops&&((decide (n=ops.size)||(Region.sinkB md ops n&&(LU md ops n&&decide (n<ops.size))))&&(decide (i<n)&&(LH md ops n listed&&(Region.free md ops listed i&&(Region.ready md ops listed).contains i))))
theorem E_take(i:Nat){oi:Oper}{v:Value}{q:Nat}{j:Array Bool}{a:Act}{w:World}(y:ops[i]?=some oi)(u:Bn md ops n j i=true)
  (T:∀c a w,Q (.panic c) (a.put oi.dst v) w->Q (.panic c) a w) (hy:YieldsIf P ops S oi v a) (W:S w)
  (h:wpE P md ops Q S n q (j.setIfInBounds i true) (a.put oi.dst v) w):wpE P md ops Q S n (q+1) j a w:=by
 unfold Bn at u;simp only[zB,Bool.or_eq_true,zE] at u;obtain⟨z,D,F,G,K,R⟩:=u;exact E_first y (Region.noSelect_spec z) D F T q j a w (Uy G) (Region.free_spec y K) (by simpa using R) hy W h
def AllE(P:Program)(md:Region.Mode)(ops:Array Oper)(Q:Exit->Act->World->Prop)(S:World->Prop)(n fuel:Nat)(listed:Array Bool)(a:Act)(w:World)(rs:List Nat):Prop:=
 ∀i∈rs,wpOp P ops Q i (λa' w'=>(i<n->S w')/\wpE P md ops Q S n fuel (listed.setIfInBounds i true) a' w') a w
theorem AllE.nil{q:Nat}{j:Array Bool}{a:Act}{w:World}:AllE P md ops Q S n q j a w []:=λ_ h=>by cases h
theorem AllE.cons{u:Nat}{q:Array Bool}{a:Act}{w:World}{i:Nat}{o:Oper}{rs:List Nat}(K:ops[i]?=some o)
  (h:∀y:Act->World->Prop,Shut (∀a w,S w->(S w->wpE P md ops Q S n u (q.setIfInBounds i true) a w)->y a w)->if Region.wanted o (yielded ops a.tmps)=true then Oper.wp P o a w y Q else y (a.put o.dst undef) w)
  (R:AllE P md ops Q S n u q a w rs):AllE P md ops Q S n u q a w (i::rs):=λj z=>by
 rcases zC.1 z with rfl|z
 .exact wpOp_step K (λy F=>h y (λa w D G=>F a w ⟨λ_=>D,G D⟩))
 .exact R j z
theorem E_ready(rs:List Nat){q:Nat}{j:Array Bool}{a:Act}{w:World}(y:Region.ready md ops j=rs)(u:rs≠[])
  (h:AllE P md ops Q S n q j a w rs):wpE P md ops Q S n (q+1) j a w:=⟨λz=>absurd (y▸z) u,y▸h⟩
theorem E_seq:∀(l:List Oper) (k:Nat) (q:Array Bool) (a:Act) (w:World),(∀j,l[j]?=ops[k+j]?)->n<=k->
  Region.seqB md ops l.length k q=true->wpList P ops Q l a w->wpE P md ops Q S n l.length q a w
 | [],_,_,_,_,_,_,hB,h=>⟨by simpa[Region.seqB] using hB,h⟩
 | o::l,k,q,a,w,hl,hnk,hB,h=>by
  have F:ops[k]?=some o:=by simpa using (hl 0).symm
  simp only[zK,Region.seqB,zB,zE] at hB;refine⟨λy=>(by rw[hB.1] at y;cases y),λi z=>?_⟩;rw[hB.1] at z;have u:i=k:=by simpa using z
  subst u;have K:wpOp P ops Q i (wpList P ops Q l) a w:=by unfold wpOp;simp only[F];exact h
  exact wpOp_mono (λa' w' D=>⟨λG=>by omega,E_seq l (i+1) _ a' w' (λj=>by have:=hl (j+1);simpa[Nat.add_assoc,Nat.add_comm 1 j] using this) U hB.2 D⟩) K
theorem E_other{G:World->Prop}{R:Nat}:∀(u:Nat) (q:Array Bool) (a:Act) (w:World),(∀i,i<n->q.getD i true=true)->wpE P md ops Q G R u q a w->wpE P md ops Q S n u q a w
 | 0,_,_,_,_,h=>h
 | u+1,q,a,w,hl,h=>by
  refine⟨h.1,λi z=>wpOp_mono (λa' w' K=>⟨λD=>?_,E_other u _ a' w' (λj F=>?_) K.2⟩) (h.2 i z)⟩
  .have:=(mem_ready.1 z).1;rw[hl i D] at this;cases this
  .by_cases y:i=j
   .subst y;have:=(mem_ready.1 z).1;rw[hl i F] at this;cases this
   .rw[getD_set_ne true y];exact hl j F
def R9(n:Nat)(listed:Array Bool):Bool:=(List.range n).all λi=>listed.getD i true
theorem E_switch(F:Nat)(u:World->Prop){q:Nat}{j:Array Bool}{a:Act}{w:World}(y:R9 n j=true)(z:u w)(h:u w->wpE P md ops Q u F q j a w):wpE P md ops Q S n q j a w:=
 E_other q j a w (λi D=>by
  unfold R9 at y;exact List.all_eq_true.1 y i (List.mem_range.2 D)) (h z)
theorem E_tail{l:List Oper}{u:Nat}{q:Array Bool}{a:Act}{w:World}(z:(l.drop n).length=u)(y:Region.seqB md l.toArray (l.drop n).length n q=true)
  (h:wpList P l.toArray Q (l.drop n) a w):wpE P md l.toArray Q S n u q a w:=by
 subst z;exact E_seq (l.drop n) n q a w (λj=>by simp) (zR _) y h
theorem E_end{q:Nat}{j:Array Bool}{a:Act}{w:World}(y:Region.ready md ops j=[])(u:q=0)(h:Q .normal a w):wpE P md ops Q S n q j a w:=by
 subst u;exact⟨y,h⟩
theorem E_begin(n:Nat)(S:World->Prop){id:Nat}{a:Act}{w:World}(q:P.follows .mixedOrders=true)(j:S w.drew)
  (h:S w.drew->wpE P .any ops Q S n ops.size (Array.replicate ops.size false) a w.drew):(Code.region id ops true).wp P Q a w:=
 wp_region_any q (Oz _ _ _ _ (h j))
end
end Go.Proofs.YtponbabbabnaeaaGreat

namespace Go.Proofs.YtponbabbabnaeaaGreat
open Tryz
theorem Au{α:Type}{l:List α}{i:Nat}{a:α}:l.toArray.setIfInBounds i a=(l.set i a).toArray:=List.setIfInBounds_toArray ..
theorem Aw{α:Type}{a b:α}{l:List α}:(a::l).set 0 b=b::l:=rfl
theorem Ay{α:Type}{a b:α}{l:List α}{n:Nat}:(a::l).set (n+1) b=a::l.set n b:=rfl
section
variable {P:Program} {ops:Array Oper} {Q:Exit->Act->World->Prop} {md:Region.Mode} {S:World->Prop} {n:Nat}
theorem ea(i:Nat){d:Nat}{oi:Oper}{v:Value}{q:Nat}{j:Array Bool}{a a':Act}{w:World}(h:wpE P md ops Q S n q (j.setIfInBounds i true) a' w)
    (G:ops[i]?=some oi:=by rfl) (F:oi.dst=some d:=by rfl) (u:Bn md ops n j i=true:=by kernel_rfl) (hy:∀w9,S w9->(execOp a.eval oi).run P w9=.ok (.value v) w9:=by intro w9 hSw;(try dsimp only at hSw);go_simp<;>with_reducible rfl)
    (D:a.put (some d) v=a':=by simp only[Act.put,Au,Aw,Ay]<;>rfl) (y:∀c a w,Q (.panic c) (a.put oi.dst v) w->Q (.panic c) a w:=by exact λ_ _ _ h=>h)
    (K:Region.wanted oi (yielded ops a.tmps)=true:=by rfl) (z:S w:=by assumption):wpE P md ops Q S n (q+1) j a w:=by
  subst D;rw[<-F] at h;exact E_take i G u y (Or.inl ⟨K,hy⟩) z h
theorem eB(i:Nat){d:Option Nat}{x1:Op}{x2:TypeId}{x3:String}{x4:Array Edge}{x5:Option (Tmp×Bool)}{q:Nat}{j:Array Bool}{a:Act}{w:World}
    (h:∀u:Act->World->Prop,Shut (∀a w,S w->(S w->wpE P md ops Q S n q (j.setIfInBounds i true) a w)->u a w)->if Region.wanted ⟨d,x1,x2,x3,x4,x5⟩ (yielded ops a.tmps)=true then Oper.wp P ⟨d,x1,x2,x3,x4,x5⟩ a w u Q else u (a.put d undef) w)
    (z:Region.ready md ops j=[i]:=by kernel_rfl) (y:ops[i]?=some ⟨d,x1,x2,x3,x4,x5⟩:=by rfl):wpE P md ops Q S n (q+1) j a w:=E_ready [i] z zj (AllE.cons y h AllE.nil)
theorem ed(i:Nat){d:Nat}{oi:Oper}{q:Nat}{j:Array Bool}{a a':Act}{w:World}(h:wpE P md ops Q S n q (j.setIfInBounds i true) a' w)
    (G:ops[i]?=some oi:=by rfl) (F:oi.dst=some d:=by rfl) (u:Bn md ops n j i=true:=by kernel_rfl)
    (D:a.put (some d) undef=a':=by simp only[Act.put,Au,Aw,Ay]<;>rfl) (y:∀c a w,Q (.panic c) (a.put oi.dst undef) w->Q (.panic c) a w:=by exact λ_ _ _ h=>h)
    (K:Region.wanted oi (yielded ops a.tmps)=false:=by rfl) (z:S w:=by assumption):wpE P md ops Q S n (q+1) j a w:=by
  subst D;rw[<-F] at h;exact E_take i G u y (Or.inr ⟨K,rfl⟩) z h
theorem eb(i:Nat){d0:Nat}{u:Oper}{z:Value}{a1:Act}{d1:Nat}{y:Oper}{v1:Value}{a2:Act}{a0:Act}{q:Nat}{j:Array Bool}{w:World}(h:wpE P md ops Q S n q ((j.setIfInBounds i true).setIfInBounds (i+1) true) a2 w)(aa:ops[i]?=some u:=by rfl)(W:u.dst=some d0:=by rfl)(D:Bn md ops n j i=true:=by kernel_rfl)(ae:∀w9,S w9->(execOp a0.eval u).run P w9=.ok (.value z) w9:=by intro w9 hSw;(try dsimp only at hSw);go_simp<;>with_reducible rfl)(R:a0.put (some d0) z=a1:=by simp only[Act.put,Au,Aw,Ay]<;>rfl)(G:∀c a w,Q (.panic c) (a.put u.dst z) w->Q (.panic c) a w:=by exact λ_ _ _ h=>h)(ac:Region.wanted u (yielded ops a0.tmps)=true:=by rfl)(ab:ops[(i+1)]?=some y:=by rfl)(X:y.dst=some d1:=by rfl)(F:Bn md ops n (j.setIfInBounds i true) (i+1)=true:=by kernel_rfl)(af:∀w9,S w9->(execOp a1.eval y).run P w9=.ok (.value v1) w9:=by intro w9 hSw;(try dsimp only at hSw);go_simp<;>with_reducible rfl)(T:a1.put (some d1) v1=a2:=by simp only[Act.put,Au,Aw,Ay]<;>rfl)(K:∀c a w,Q (.panic c) (a.put y.dst v1) w->Q (.panic c) a w:=by exact λ_ _ _ h=>h)(ad:Region.wanted y (yielded ops a1.tmps)=true:=by rfl)(hS:S w:=by assumption):wpE P md ops Q S n (q+2) j a0 w:=ea i (a':=a1) (v:=z) (ea (i+1) (a':=a2) (v:=v1) h ab X F af T K ad hS) aa W D ae R G ac hS
theorem ec(i:Nat){d0:Nat}{u:Oper}{G:Value}{a1:Act}{d1:Nat}{y:Oper}{v1:Value}{a2:Act}{d2:Nat}{z:Oper}{v2:Value}{a3:Act}{d3:Nat}{D:Oper}{v3:Value}{a4:Act}{a0:Act}{q:Nat}{j:Array Bool}{w:World}(h:wpE P md ops Q S n q ((((j.setIfInBounds i true).setIfInBounds (i+1) true).setIfInBounds (i+2) true).setIfInBounds (i+3) true) a4 w)(al:ops[i]?=some u:=by rfl)(ah:u.dst=some d0:=by rfl)(K:Bn md ops n j i=true:=by kernel_rfl)(av:∀w9,S w9->(execOp a0.eval u).run P w9=.ok (.value G) w9:=by intro w9 hSw;(try dsimp only at hSw);go_simp<;>with_reducible rfl)(ad:a0.put (some d0) G=a1:=by simp only[Act.put,Au,Aw,Ay]<;>rfl)(X:∀c a w,Q (.panic c) (a.put u.dst G) w->Q (.panic c) a w:=by exact λ_ _ _ h=>h)(ap:Region.wanted u (yielded ops a0.tmps)=true:=by rfl)(am:ops[(i+1)]?=some y:=by rfl)(ai:y.dst=some d1:=by rfl)(R:Bn md ops n (j.setIfInBounds i true) (i+1)=true:=by kernel_rfl)(aw:∀w9,S w9->(execOp a1.eval y).run P w9=.ok (.value v1) w9:=by intro w9 hSw;(try dsimp only at hSw);go_simp<;>with_reducible rfl)(ae:a1.put (some d1) v1=a2:=by simp only[Act.put,Au,Aw,Ay]<;>rfl)(aa:∀c a w,Q (.panic c) (a.put y.dst v1) w->Q (.panic c) a w:=by exact λ_ _ _ h=>h)(aq:Region.wanted y (yielded ops a1.tmps)=true:=by rfl)(an:ops[(i+2)]?=some z:=by rfl)(aj:z.dst=some d2:=by rfl)(T:Bn md ops n ((j.setIfInBounds i true).setIfInBounds (i+1) true) (i+2)=true:=by kernel_rfl)(ax:∀w9,S w9->(execOp a2.eval z).run P w9=.ok (.value v2) w9:=by intro w9 hSw;(try dsimp only at hSw);go_simp<;>with_reducible rfl)(af:a2.put (some d2) v2=a3:=by simp only[Act.put,Au,Aw,Ay]<;>rfl)(ab:∀c a w,Q (.panic c) (a.put z.dst v2) w->Q (.panic c) a w:=by exact λ_ _ _ h=>h)(ar:Region.wanted z (yielded ops a2.tmps)=true:=by rfl)(ao:ops[(i+3)]?=some D:=by rfl)(ak:D.dst=some d3:=by rfl)(W:Bn md ops n (((j.setIfInBounds i true).setIfInBounds (i+1) true).setIfInBounds (i+2) true) (i+3)=true:=by kernel_rfl)(ay:∀w9,S w9->(execOp a3.eval D).run P w9=.ok (.value v3) w9:=by intro w9 hSw;(try dsimp only at hSw);go_simp<;>with_reducible rfl)(ag:a3.put (some d3) v3=a4:=by simp only[Act.put,Au,Aw,Ay]<;>rfl)(ac:∀c a w,Q (.panic c) (a.put D.dst v3) w->Q (.panic c) a w:=by exact λ_ _ _ h=>h)(au:Region.wanted D (yielded ops a3.tmps)=true:=by rfl)(F:S w:=by assumption):wpE P md ops Q S n (q+4) j a0 w:=ea i (a':=a1) (v:=G) (ea (i+1) (a':=a2) (v:=v1) (ea (i+2) (a':=a3) (v:=v2) (ea (i+3) (a':=a4) (v:=v3) h ao ak W ay ag ac au F) an aj T ax af ab ar F) am ai R aw ae aa aq F) al ah K av ad X ap F
theorem ee(i:Nat){d0:Nat}{u:Oper}{a1:Act}{d1:Nat}{y:Oper}{a2:Act}{a0:Act}{q:Nat}{j:Array Bool}{w:World}(h:wpE P md ops Q S n q ((j.setIfInBounds i true).setIfInBounds (i+1) true) a2 w)(X:ops[i]?=some u:=by rfl)(T:u.dst=some d0:=by rfl)(z:Bn md ops n j i=true:=by kernel_rfl)(K:a0.put (some d0) undef=a1:=by simp only[Act.put,Au,Aw,Ay]<;>rfl)(F:∀c a w,Q (.panic c) (a.put u.dst undef) w->Q (.panic c) a w:=by exact λ_ _ _ h=>h)(ab:Region.wanted u (yielded ops a0.tmps)=false:=by rfl)(aa:ops[(i+1)]?=some y:=by rfl)(W:y.dst=some d1:=by rfl)(D:Bn md ops n (j.setIfInBounds i true) (i+1)=true:=by kernel_rfl)(R:a1.put (some d1) undef=a2:=by simp only[Act.put,Au,Aw,Ay]<;>rfl)(G:∀c a w,Q (.panic c) (a.put y.dst undef) w->Q (.panic c) a w:=by exact λ_ _ _ h=>h)(ac:Region.wanted y (yielded ops a1.tmps)=false:=by rfl)(hS:S w:=by assumption):wpE P md ops Q S n (q+2) j a0 w:=ed i (a':=a1) (ed (i+1) (a':=a2) h aa W D R G ac hS) X T z K F ab hS
theorem ef(i:Nat){d0:Nat}{y:Oper}{a1:Act}{d1:Nat}{z:Oper}{a2:Act}{d2:Nat}{D:Oper}{a3:Act}{d3:Nat}{F:Oper}{a4:Act}{a0:Act}{q:Nat}{j:Array Bool}{w:World}(h:wpE P md ops Q S n q ((((j.setIfInBounds i true).setIfInBounds (i+1) true).setIfInBounds (i+2) true).setIfInBounds (i+3) true) a4 w)(ak:ops[i]?=some y:=by rfl)(ag:y.dst=some d0:=by rfl)(G:Bn md ops n j i=true:=by kernel_rfl)(ac:a0.put (some d0) undef=a1:=by simp only[Act.put,Au,Aw,Ay]<;>rfl)(W:∀c a w,Q (.panic c) (a.put y.dst undef) w->Q (.panic c) a w:=by exact λ_ _ _ h=>h)(ao:Region.wanted y (yielded ops a0.tmps)=false:=by rfl)(al:ops[(i+1)]?=some z:=by rfl)(ah:z.dst=some d1:=by rfl)(K:Bn md ops n (j.setIfInBounds i true) (i+1)=true:=by kernel_rfl)(ad:a1.put (some d1) undef=a2:=by simp only[Act.put,Au,Aw,Ay]<;>rfl)(X:∀c a w,Q (.panic c) (a.put z.dst undef) w->Q (.panic c) a w:=by exact λ_ _ _ h=>h)(ap:Region.wanted z (yielded ops a1.tmps)=false:=by rfl)(am:ops[(i+2)]?=some D:=by rfl)(ai:D.dst=some d2:=by rfl)(R:Bn md ops n ((j.setIfInBounds i true).setIfInBounds (i+1) true) (i+2)=true:=by kernel_rfl)(ae:a2.put (some d2) undef=a3:=by simp only[Act.put,Au,Aw,Ay]<;>rfl)(aa:∀c a w,Q (.panic c) (a.put D.dst undef) w->Q (.panic c) a w:=by exact λ_ _ _ h=>h)(aq:Region.wanted D (yielded ops a2.tmps)=false:=by rfl)(an:ops[(i+3)]?=some F:=by rfl)(aj:F.dst=some d3:=by rfl)(T:Bn md ops n (((j.setIfInBounds i true).setIfInBounds (i+1) true).setIfInBounds (i+2) true) (i+3)=true:=by kernel_rfl)(af:a3.put (some d3) undef=a4:=by simp only[Act.put,Au,Aw,Ay]<;>rfl)(ab:∀c a w,Q (.panic c) (a.put F.dst undef) w->Q (.panic c) a w:=by exact λ_ _ _ h=>h)(ar:Region.wanted F (yielded ops a3.tmps)=false:=by rfl)(u:S w:=by assumption):wpE P md ops Q S n (q+4) j a0 w:=ed i (a':=a1) (ed (i+1) (a':=a2) (ed (i+2) (a':=a3) (ed (i+3) (a':=a4) h an aj T af ab ar u) am ai R ae aa aq u) al ah K ad X ap u) ak ag G ac W ao u
theorem eA{q:Nat}{j:Array Bool}{a:Act}{w:World}(h:Q .normal a w)(y:Region.ready md ops j=[]:=by kernel_rfl)(u:q=0:=by rfl):wpE P md ops Q S n q j a w:=E_end y u h
theorem eH{l:List Oper}{q:Nat}{j:Array Bool}{a:Act}{w:World}(h:wpList P l.toArray Q (l.drop n) a w)(y:(l.drop n).length=q:=by rfl)(u:Region.seqB md l.toArray (l.drop n).length n j=true:=by kernel_rfl):wpE P md l.toArray Q S n q j a w:=E_tail y u h
theorem eC(n:Nat)(S:World->Prop){id:Nat}{a:Act}{w:World}(j:S w.drew)(h:S w.drew->wpE P .any ops Q S n ops.size (Array.replicate ops.size false) a w.drew)(q:P.follows .mixedOrders=true:=by kernel_rfl):(Code.region id ops true).wp P Q a w:=E_begin n S q j h
end
end Go.Proofs.YtponbabbabnaeaaGreat
