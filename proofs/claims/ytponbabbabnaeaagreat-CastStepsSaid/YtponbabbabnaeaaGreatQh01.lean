/- Part 1: contracts of functions. Conditions: as each theorem says. -/
import Derived.Test.YtponbabbabnaeaaGreatProg
import Derived.WalkKit
import Derived.WalkLawsBesides
import Derived.Lib.Hide
import Derived.Deep.QuietTactic
import Derived.BigQuiet
import Derived.Maps.AppendAt
import Derived.Deep.AppendLies
import Derived.Laws.BitsAllLaws
import Derived.Deep.LoopGhost
import Derived.Laws.CopyOwn
set_option maxRecDepth 100000
set_option maxHeartbeats 40000000
set_option linter.unusedVariables false
namespace Go.Proofs.YtponbabbabnaeaaGreat
open Tryz
def O(p:Prop):Prop:=p
theorem O.o{p:Prop}(h:O p):p:=h
theorem J{p:Prop}(h:p):O p:=h
abbrev I(n:Int):Value:=.int .i64 n
abbrev Zq:Value:=.slice none 0 0
abbrev Z(b o:Nat):Addr:=⟨b,o,none⟩
abbrev Y(w:World)(o:Nat):Addr:=⟨w.heap.size,o,none⟩
abbrev Pv(w:World)(o:Nat):Addr:=⟨w.heap.size+1,o,none⟩
abbrev Cq(w:World)(b o:Nat)(v:Value):Prop:=w.cell? ⟨b,o,none⟩=some v
abbrev Yq:Array Value:=#[.int .i64 0,.slice none 0 0,.int .i64 0,.slice none 0 0,.int .i64 0,.int .i64 0,.slice none 0 0,.slice none 0 0,.slice none 0 0]
theorem zZ{α:Type}{l:List α}{i:Nat}{a:α}(h:l[i]?=some a):∃h:i<l.length,l[i]=a:=List.getElem?_eq_some_iff.1 h
theorem zY{α:Type}{l:List α}{i:Nat}(h:i<l.length):l[i]?=some l[i]:=List.getElem?_eq_getElem h
theorem zX{α:Type}{l:List α}{i:Nat}{a:α}(h:l[i]?=some a):a∈l:=List.mem_of_getElem? h
theorem zN{α:Type}{a:α}:¬a∈([]:List α):=List.not_mem_nil
theorem zC{α:Type}{a b:α}{l:List α}:a∈b::l↔a=b\/a∈l:=List.mem_cons
theorem zA{α:Type}{l m:List α}:(l++m).length=l.length+m.length:=List.length_append
theorem zT{α:Type}{i:Nat}{l:List α}:(l.take i).length=min i l.length:=List.length_take
theorem zD{α:Type}{i:Nat}{l:List α}:(l.drop i).length=l.length - i:=List.length_drop
theorem zE{p:Prop} [Decidable p]:(decide p=true)=p:=decide_eq_true_eq
theorem zL{n m k:Nat}(h:n<=m)(g:m<=k):n<=k:=Nat.le_trans h g
theorem zR(n:Nat):n<=n:=Nat.le_refl n
theorem zO(n:Nat):0<=n:=Nat.zero_le n
theorem zB(a b:Bool):((a&&b)=true)=(a=true/\b=true):=Bool.and_eq_true a b
theorem zK{α:Type}{a:α}{l:List α}:(a::l).length=l.length+1:=List.length_cons
theorem zJ{α:Type}(a b:α):(some a=some b)=(a=b):=Option.some.injEq a b
theorem zM{α β:Type}{f:α->β}{l:List α}{i:Nat}:(l.map f)[i]?=l[i]?.map f:=List.getElem?_map
theorem zP{α β:Type}{l:List α}(f:α->β):(l.map f).length=l.length:=List.length_map f
theorem U{P:Prop}(h:P:=by omega):P:=h
theorem zj{P:Prop}(h:P:=by simp):P:=h
theorem zi{P:Prop}(h:P:=by rfl):P:=h
theorem zp{P:Prop}(h:P:=by assumption):P:=h
theorem zd{P:Prop}(h:P:=by decide):P:=h
theorem zm{P:Prop}(h:P:=by simp;omega):P:=h
theorem zh{P:Prop}(h:P:=by kernel_rfl):P:=h
theorem l1{α:Type}{l:List α}{i:Nat}{a:α}:l.toArray.setIfInBounds i a=(l.set i a).toArray:=List.setIfInBounds_toArray ..
theorem l2{α:Type}{a b:α}{l:List α}:(a::l).set 0 b=b::l:=rfl
theorem l3{α:Type}{a b:α}{l:List α}{n:Nat}:(a::l).set (n+1) b=a::l.set n b:=rfl
end Go.Proofs.YtponbabbabnaeaaGreat
namespace Go.Proofs.YtponbabbabnaeaaGreat
open Tryz
open Go.RowKit
def Row(w:World)(A:Option Addr)(xs:List Value):Prop:=
 xs≠[]->∃b off,A=some (Z b off)/\b<w.heap.size/\∀j v,xs[j]?=some v->w.cell? (Z b (off+j))=some v
def Ai(xs:List Int):List Value:=xs.map (Value.int .i64)
abbrev V(w w':World):Prop:=Below w.heap.size w w'
theorem Row.nil(w:World)(A:Option Addr):Row w A []:=λh=>absurd rfl h
theorem Row.ext{w w':World}{A:Option Addr}{xs:List Value}(h:Row w A xs)(e:V w w'):Row w' A xs:=λD=>by
 obtain⟨b,u,h1,h2,y⟩:=h D;exact⟨b,u,h1,Nat.lt_of_lt_of_le h2 e.size,λj v q=>(e.cell (p:=(Z b (u+j))) h2).trans (y j v q)⟩
theorem Row.e{w w':World}{A:Option Addr}{xs:List Value}(h:Row w A xs)(e:V w w'):O (Row w' A xs):=J (h.ext e)
theorem Row.addr{w:World}{A:Option Addr}{xs:List Value}{k:Nat}(h:Row w A xs)(u:k<xs.length) :
  ∃b q,A=some (Z b q)/\b<w.heap.size/\∀j v,xs[j]?=some v->w.cell? (Z b (q+j))=some v:=
 h (λe=>by rw[e] at u;simp at u)
theorem Row.at_{w:World}{A:Option Addr}{xs:List Int}{k:Nat}(h:Row w A (Ai xs))(q:k<xs.length) :
  ∃b j x,A=some (Z b j)/\w.cell? (Z b (j+k))=some (I x)/\O (xs[k]?=some x):=by
 obtain⟨b,j,h1,_,u⟩:=h.addr (k:=k) (by simpa[Ai] using q);exact⟨b,j,xs[k],h1,u k _ (by simp[Ai,zY q]),zY q⟩
theorem Row.cell{w:World}{b j:Nat}{xs:List Int}{k:Nat}{x:Int}(h:Row w (some (Z b j)) (Ai xs))(D:xs[k]?=some x):w.cell? (Z b (j+k))=some (I x):=by
 obtain⟨y,q,h1,_,u⟩:=h.addr (k:=k) (by simpa[Ai] using (zZ D).1);cases h1;exact u k _ (by simp[Ai,D])
theorem Row.cut{w:World}{A:Option Addr}{xs:List Value}{k c:Nat}(h:Row w A xs)(G:xs.length<=c):Row w (if c=k then A else A.map (·.add k)) (xs.drop k):=by
 intro q;have F:k<xs.length:=by
  rcases Nat.lt_or_ge k xs.length with h1|h1
  .exact h1
  .exact absurd (List.drop_eq_nil_of_le h1) q
 obtain⟨b,u,rfl,z,y⟩:=h.addr F;rw[if_neg U];refine⟨b,u+k,?_,z,λj v D=>?_⟩
 .simp only[Option.map_some,zJ];unfold Addr.add;split<;>simp_all
 .have:=y (k+j) v (by rw[<-D,List.getElem?_drop]);rw[Nat.add_assoc];exact this
theorem Row.past{w:World}{A:Option Addr}{xs:List Value}{k:Nat}(h:xs.length<=k):Row w A (xs.drop k):=by
 rw[List.drop_eq_nil_of_le h];exact Row.nil _ _
theorem Row.map_{w:World}{A:Option Addr}{xs:List Value}{k c:Nat}(h:Row w A xs)(j:xs.length<=c)(q:¬c=k):Row w (A.map (·.add k)) (xs.drop k):=by
 have:=h.cut (k:=k) j;rw[if_neg q] at this;exact this
def Still(w w':World):Prop:=∃n,w'=w.drewN n
theorem Still.refl(w:World):Still w w:=⟨0,rfl⟩
theorem Still.trans{a b c:World}(h:Still a b)(k:Still b c):Still a c:=by
 obtain⟨n,rfl⟩:=h;obtain⟨m,rfl⟩:=k;exact⟨n+m,zj⟩
theorem Still.t{a b c:World}(h:Still a b)(k:Still b c):O (Still a c):=J (h.trans k)
theorem Still.drewN{a b:World}(h:Still a b)(n:Nat):Still a (b.drewN n):=h.trans ⟨n,rfl⟩
theorem Still.ext{w w':World}(h:Still w w'):V w w':=by
 obtain⟨n,rfl⟩:=h;exact⟨rfl,rfl,rfl,zR _,λ_ _=>rfl⟩
theorem Still.row{w w':World}(h:Still w w'){A:Option Addr}{xs:List Value}(r:Row w A xs):Row w' A xs:=r.ext h.ext
theorem V.trans{a b c:World}(h:V a b)(k:V b c):V a c:=Below.trans h (k.mono h.size)
theorem V.t{a b c:World}(h:V a b)(k:V b c):O (V a c):=J (h.trans k)
theorem V.alloc{a b:World}(h:V a b)(o:Obj):V a (b.alloc o):=Below.alloc h h.size o
theorem V.drewN{a b:World}(h:V a b)(n:Nat):V a (b.drewN n):=⟨h.os,h.tape,h.output,h.size,h.block⟩
theorem IW{P:Program}{f:FuncId}{j:Array Value}{w:World}{n:Nat}{v:Value}
  (h:Calls P f j (w.drewN n) λe w'=>e=.returned v/\w.drewN n=w'):Calls P f j (w.drewN n) λe q=>e=.returned v/\∃m,q=w.drewN m:=
 h.mono λ_ _ ⟨u,y⟩=>⟨u,n,y.symm⟩
theorem V.cell_new{w j:World}{cs:Array Value}{t:TypeId}(h:V (w.alloc (.cells cs t)) j)(i:Nat):j.cell? (Z w.heap.size i)=cs[i]?:=by
 rw[h.cell (p:=(Y w i)) zj];simp
theorem V.frozen_new{w j:World}{cs:Array Value}{t:TypeId}(h:V (w.alloc (.cells cs t)) j)(i:Nat):j.frozen? (Z w.heap.size i)=false:=by
 rw[h.frozen (p:=(Y w i)) zj];simp
theorem V.refl(w:World):V w w:=Below.refl _ _
theorem V.new(w:World)(o:Obj):V w (w.alloc o):=(Below.refl _ _).alloc (zR _) _
theorem V.drew{a b:World}(h:V a b):V a b.drew:=⟨h.os,h.tape,h.output,h.size,h.block⟩
theorem DQ{k:IntKind}{a b:Int}(h:a=b):Ending.returned (.int k a)=.returned (.int k b):=by rw[h]
theorem AC{a b:Bool}(h:a=b):Ending.returned (.bool a)=.returned (.bool b):=by rw[h]
end Go.Proofs.YtponbabbabnaeaaGreat
namespace Go.Proofs.YtponbabbabnaeaaGreat
open Tryz
open Go.RowKit
theorem Rc{P:Prop}(h:P:=by
 have R:(Ai out).length=out.length:=by simp[Ai]
 obtain⟨A,c,q,h1,h2,_⟩:=h.slice;rw[R] at q h1;subst q;exact⟨A,c,rfl,h1,h2,h,e⟩):P:=h
theorem Q8{P:Prop}(h:P:=by
 rcases Nat.lt_or_ge k a.heap.size with z|hge
 .exact z
 .rw[Array.getElem?_eq_none hge] at K;cases K):P:=h
theorem Jm:(prog.info? 3).map (λi=>(i.zero,i.size,i.bytes))=some (some (I 0),1,8):=by kernel_rfl
theorem D8:(prog.info? 5).map (λi=>(i.zero,i.size,i.bytes))=some (some (.int .u8 0),1,1):=by kernel_rfl
def Own(w:World)(B:Nat)(e:TypeId)(v:Value)(xs:List Value):Prop:=w.ownsRow B e 1 v xs.length xs
def Grew(a w':World)(v:Value):Prop:=a.grownBy w' v.ownBlock
def Stems(a:World)(v v':Value):Prop:=v'.ownBlock=v.ownBlock\/∃g,v'.ownBlock=some g/\a.heap.size<=g
theorem Own.nil(w:World)(B:Nat)(e:TypeId):Own w B e Zq []:=⟨rfl,.inl ⟨rfl,rfl⟩⟩
theorem Own.slice{w:World}{B:Nat}{e:TypeId}{v:Value}{xs:List Value}(h:Own w B e v xs) :
  ∃A c,v=.slice A xs.length c/\xs.length<=c/\c<=maxLen/\Row w A xs:=by
 obtain⟨_,h2⟩:=h;rcases h2 with ⟨rfl,G⟩|⟨g,cap,y,rfl,_,K,D,F,W,Q⟩
 .have:xs=[]:=List.eq_nil_of_length_eq_zero G;subst this;exact⟨none,0,rfl,zR _,zO _,Row.nil _ _⟩
 .refine⟨some (Z g 0),cap,rfl,D,F,λ_=>⟨g,0,rfl,?_,λj u q=>?_⟩⟩
  .rcases Nat.lt_or_ge g w.heap.size with z|hge
   .exact z
   .rw[Array.getElem?_eq_none hge] at K;cases K
  .have R:=cell_of_row w g (0+j) y e (0,0) K;rw[R];rw[<-Q] at q;have T:=(zZ q).1;simp only[List.getElem?_take] at q;split at q
   .simpa using q
   .cases q
theorem Own.kept{a w':World}{B:Nat}{e:TypeId}{v u:Value}{xs:List Value}(h:Own a B e v xs)(g:Grew a w' u)(j:∀k,v.ownBlock=some k->u.ownBlock≠some k):Own w' B e v xs:=by
 obtain⟨h1,h2⟩:=h;refine⟨h1,?_⟩;rcases h2 with h2|⟨k,cap,cur,q,h3,K,r⟩
 .exact .inl h2
 .subst q;have y:k<a.heap.size:=by
   exact Q8
  exact .inr ⟨k,cap,cur,rfl,h3,by rw[g.block k y (λe=>j k rfl e.symm)];exact K,r⟩
theorem Own.lt{w:World}{B:Nat}{e:TypeId}{v:Value}{xs:List Value}(h:Own w B e v xs):∀k,v.ownBlock=some k->B<=k/\k<w.heap.size:=by
 obtain⟨_,h2⟩:=h;rcases h2 with ⟨rfl,_⟩|⟨k,cap,q,rfl,u,K,_⟩
 .intro k j;simp[Value.ownBlock] at j
 .intro y j;simp only[Value.ownBlock,zJ] at j;subst j;refine⟨u,?_⟩;rcases Nat.lt_or_ge k w.heap.size with z|hge
  .exact z
  .rw[Array.getElem?_eq_none hge] at K;cases K
theorem Own.ext{a w':World}{B:Nat}{e:TypeId}{v:Value}{xs:List Value}(h:Own a B e v xs)(g:V a w'):Own w' B e v xs:=by
 obtain⟨h1,h2⟩:=h;refine⟨h1,?_⟩;rcases h2 with h2|⟨k,cap,cur,q,h3,K,r⟩
 .exact .inl h2
 .have j:k<a.heap.size:=by
   exact Q8
  exact .inr ⟨k,cap,cur,q,h3,by rw[g.block k j];exact K,r⟩
theorem Own.e{a w':World}{B:Nat}{e:TypeId}{v:Value}{xs:List Value}(h:Own a B e v xs)(g:V a w'):O (Own w' B e v xs):=J (h.ext g)
theorem Grew.below{a b c:World}{B:Nat}{v:Value}(h:Below B a b)(g:Grew b c v)(j:B<=b.heap.size)(q:∀k,v.ownBlock=some k->B<=k):Below B a c:=h.grown g j q
theorem DD{aa:Array Oper}{rest:List Oper}{o:Oper}{a:Act}{Q:Exit->Act->World->Prop}(ab:o.guard=none)(s x:Operand)
  (T:o.op=.call {callee:=.builtin .append,args:=#[s,x],argTypes:=#[44,44]})
  (W:World) (B:Nat) (v:Value) (xs:List Int) (X:a.eval s=v) (u:Int) (D:a.eval x=.slice (some (Z W.heap.size 0)) 1 1)
  (G:Own W B 3 v (Ai xs)) (R:xs.length<1000000) (hb:B<=W.heap.size)
  (h:∀v' w',Own w' B 3 v' (Ai (xs++[u]))->Grew W w' v->Stems W v v'->wpList prog aa Q rest (a.put o.dst v') w') :
  wpList prog aa Q (o::rest) a (W.alloc (.cells #[I u] 3)):=by
 obtain⟨i0,hi,ae,af,ag⟩:=info_parts Jm;have F:(Ai xs).length=xs.length:=by simp[Ai]
 have y:(W.alloc (.cells #[I u] 3)).ownsRow B 3 1 v xs.length (Ai xs):=by rw[<-F];exact G.alloc _
 refine wpList_append_own_at _ ab s x _ T B 3 i0 _ 1 8 Tryz.underlying44 hi ae af ag rfl zd v xs.length (Ai xs) X y ⟨W.heap.size,0,none⟩ 1 1 [I u] D rfl ?_ ?_ (by unfold maxLen;omega) U zm ?_
 .intro j q hj
  match j,hj with
  | 0,hj=>simp at hj;subst hj;simp[Addr.add]
 .intro q K;simp at K;subst K;rfl
 .intro v' w' h1 h2 _ z;have ac:(Ai (xs++[u])).length=xs.length+1:=by simp[Ai]
  refine h v' w' ?_ ?_ ?_
  .unfold Own;rw[ac];simpa[Ai] using h1
  .exact⟨h2.os,h2.tape,h2.output,zL zj h2.size,λk hk ad=>(h2.block k zm ad).trans (Below.heap_alloc _ _ _ hk)⟩
  .rcases z with z|z
   .exact .inl z
   .exact .inr ⟨_,z,zj⟩
theorem Mp{P:Program}(w:World)(base:Nat)(t D e:TypeId)(i:TypeInfo)(j:Nat)(y:P.underlying t=some (.slice e))(u:P.info? e=some i)
  (v:Value) (n:Nat) (xs:List Value) (h:w.ownsRow base e j v n xs) (c:Nat):(Builtin.append_ #[t,t] D #[v,.slice none 0 c]).run P w=.ok v w:=by
 rcases h.2 with ⟨rfl,_⟩|⟨g,cap,z,rfl,_,_,q,_⟩
 .simp[Builtin.append_,run_underlying y,sizeOf,typeInfo,u,Builtin.lenOf,Builtin.firstCells]
 .simp[Builtin.append_,run_underlying y,sizeOf,typeInfo,u,Builtin.lenOf,Builtin.firstCells,q,storeCells]
theorem Mk{P:Program}{y:Array Oper}{rest:List Oper}{o:Oper}{a:Act}{Q:Exit->Act->World->Prop}(w:World)(z:o.guard=none)(s x:Operand)(t:TypeId)
  (T:o.op=.call {callee:=.builtin .append,args:=#[s,x],argTypes:=#[t,t]})
  (base:Nat) (e:TypeId) (i:TypeInfo) (j:Nat) (R:P.underlying t=some (.slice e)) (G:P.info? e=some i)
  (v:Value) (n:Nat) (xs:List Value) (X:a.eval s=v) (q:w.ownsRow base e j v n xs) (c:Nat) (D:a.eval x=.slice none 0 c)
  (h:wpList P y Q rest (a.put o.dst v) w):wpList P y Q (o::rest) a w:=by
 refine wpList_plain z λK F=>?_;have u:=Mp (P:=P) w base t o.type e i j R G v n xs q c;unfold Oper.wp execOp;simp only[T,resolve,invoke,builtin,Sem.run_bind,Sem.run_pure,Result.andThen_ok,List.map_toArray,List.map_cons,List.map_nil,X,D,u];exact F _ _ h
theorem Fp{P:Program}{af:Array Oper}{rest:List Oper}{o:Oper}{a:Act}{Q:Exit->Act->World->Prop}(ac:o.guard=none)(s x:Operand)(t e:TypeId)(z:Value)(F:Nat)
  (T:o.op=.call {callee:=.builtin .append,args:=#[s,x],argTypes:=#[t,t]}) (ht:P.underlying t=some (.slice e))
  (ab:(P.info? e).map (λi=>(i.zero,i.size,i.bytes))=some (some z,1,F)) (aj:z.cells.size=1) (ag:F<=64)
  (W:World) (B:Nat) (v:Value) (xs:List Value) (X:a.eval s=v) (A:Option Addr) (m c:Nat) (y:List Value) (D:a.eval x=.slice A m c) (hm:m=y.length) (hr:Row W A y) (h1:∀u∈y,u.oneCell'=true)
  (aa:Own W B e v xs) (R:xs.length+m<2000000000) (hb:B<=W.heap.size)
  (h:∀v' w',Own w' B e v' (xs++y)->Grew W w' v->Stems W v v'->wpList P af Q rest (a.put o.dst v') w') :
  wpList P af Q (o::rest) a W:=by
 obtain⟨i0,hi,ai,ae,ak⟩:=info_parts ab;rcases A with _|ad
 .have G:y=[]:=by
   rcases y with _|⟨u,l⟩
   .rfl
   .obtain⟨b,al,K,_⟩:=hr zj;cases K
  subst G;simp only[List.length_nil] at hm;subst hm;refine Mk W ac s x t T B e i0 1 ht hi v xs.length xs X aa c D ?_;refine h v W (by rw[List.append_nil];exact aa) ⟨rfl,rfl,rfl,zR _,λ_ _ _=>rfl⟩ (.inl rfl)
 .refine wpList_append_own_at _ ac s x _ T B e i0 z 1 F ht hi ai ae ak aj zd v xs.length xs X aa ad m c y D U ?_ h1 (by unfold maxLen;omega) ?_ hb ?_
  .intro j q hj;obtain⟨b,al,K,_,h3⟩:=hr.addr (zZ hj).1;cases K;have:=h3 j q hj;unfold Addr.add;split
   .next h0=>subst h0;simpa using this
   .exact this
  .calc (xs.length+m)*F<=2000000000*64:=Nat.mul_le_mul U ag
    _<=_:=zd
  .intro v' w' h2 h3 _ h4;have ah:(xs++y).length=xs.length+m:=by rw[zA,hm]
   refine h v' w' ?_ h3 ?_
   .unfold Own;rw[ah];exact h2
   .rcases h4 with h4|h4
    .exact .inl h4
    .exact .inr ⟨_,h4,zR _⟩
theorem Own.row{w:World}{B:Nat}{e:TypeId}{A:Option Addr}{n c:Nat}{xs:List Value}(h:Own w B e (.slice A n c) xs):Row w A xs:=by
 obtain⟨u,y,q,_,_,j⟩:=h.slice;cases q;exact j
def GivesI(w:World)(out:List Int)(en:Ending)(w':World):Prop:=
 ∃A c,en=.returned (.slice A out.length c)/\out.length<=c/\c<=maxLen/\Own w' w.heap.size 3 (.slice A out.length c) (Ai out)/\V w w'
theorem DO{w w':World}{v:Value}{out:List Int}(h:Own w' w.heap.size 3 v (Ai out))(e:V w w'):GivesI w out (.returned v) w':=by
 exact Rc
def Apart(v u:Value):Prop:=∀q,v.ownBlock=some q->u.ownBlock≠some q
theorem Apart.symm{v u:Value}(h:Apart v u):Apart u v:=λq h1 h2=>h q h2 h1
theorem Apart.nil(u:Value):Apart Zq u:=λq h=>by simp[Value.ownBlock] at h
theorem Apart.stems{a:World}{v y u:Value}{B:Nat}{e:TypeId}{xs:List Value}(h:Apart v u)(s:Stems a v y)(T:Own a B e u xs):Apart y u:=by
 intro q K j;rcases s with s|⟨g,s,hg⟩
 .exact h q (by rw[<-s];exact K) j
 .have:=(T.lt q j).2;rw[s] at K;cases K;omega
def Lq(w:World)(o1 o2:List Int)(en:Ending)(w':World):Prop:=
 ∃A c A' c',en=.returned (.tuple #[.slice A o1.length c,.slice A' o2.length c'])/\Own w' w.heap.size 3 (.slice A o1.length c) (Ai o1)/\Own w' w.heap.size 3 (.slice A' o2.length c') (Ai o2)/\V w w'
theorem Km{w w':World}{v u:Value}{y z:List Int}(h:Own w' w.heap.size 3 v (Ai y))(G:Own w' w.heap.size 3 u (Ai z))(e:V w w'):Lq w y z (.returned (.tuple #[v,u])) w':=by
 have R:(Ai y).length=y.length:=by simp[Ai]
 have F:(Ai z).length=z.length:=by simp[Ai]
 obtain⟨A,c,q,h1,h2,_⟩:=h.slice;obtain⟨K,Q,j,D,T,_⟩:=G.slice;rw[R] at q h1;rw[F] at j D;subst q j;exact⟨A,c,K,Q,rfl,h,G,e⟩
def Gu(w:World)(r:Int×List Int×Int)(en:Ending)(w':World):Prop:=
 ∃A c,en=.returned (.tuple #[.agg #[I r.1,.slice A r.2.1.length c],I r.2.2])/\r.2.1.length<=c/\c<=maxLen/\Own w' w.heap.size 3 (.slice A r.2.1.length c) (Ai r.2.1)/\V w w'
theorem Fu{w w':World}{r:Int×List Int×Int}{u j:Int}{out:List Int}{v:Value}(y:r=(u,out,j))(h:Own w' w.heap.size 3 v (Ai out))(e:V w w'):Gu w r (.returned (.tuple #[.agg #[I u,v],I j])) w':=by
 subst y;exact Rc
theorem Own.set{w:World}{B:Nat}{e:TypeId}{v:Value}{xs:List Value}(h:Own w B e v xs){p:Addr}(j:∀k,v.ownBlock=some k->k≠p.block)(u:Value):Own (w.setCell p u) B e v xs:=by
 obtain⟨h1,h2⟩:=h;refine⟨h1,?_⟩;rcases h2 with h2|⟨k,cap,cur,q,h3,K,r⟩
 .exact .inl h2
 .subst q;exact .inr ⟨k,cap,cur,rfl,h3,by rw[Below.heap_setCell _ _ _ _ (j k rfl)];exact K,r⟩
theorem Own.base{w:World}{B B':Nat}{e:TypeId}{v:Value}{xs:List Value}(h:Own w B e v xs)(j:B'<=B):Own w B' e v xs:=by
 obtain⟨h1,h2⟩:=h;refine⟨h1,?_⟩;rcases h2 with h2|⟨k,cap,cur,q,h3,r⟩
 .exact .inl h2
 .exact .inr ⟨k,cap,cur,q,zL j h3,r⟩
theorem V.set{a w:World}(h:V a w){p:Addr}(j:a.heap.size<=p.block)(u:Value):V a (w.setCell p u):=Below.setCell h j u
def Aj(bs:List UInt8):List Value:=bs.map λb=>.int .u8 (b.toNat:Int)
theorem Bo(bs:List UInt8):(Aj bs).length=bs.length:=by simp[Aj]
theorem Ew(a b:List UInt8):Aj (a++b)=Aj a++Aj b:=by simp[Aj]
theorem FE(a:List UInt8)(k:Nat):(Aj a).drop k=Aj (a.drop k):=by simp[Aj]
theorem FN(bs:List UInt8):∀u∈Aj bs,u.oneCell'=true:=by
 intro u h;simp only[Aj,List.mem_map] at h;obtain⟨x,_,rfl⟩:=h;rfl
theorem Row.byte{w:World}{A:Option Addr}{bs:List UInt8}{k:Nat}(h:Row w A (Aj bs))(q:k<bs.length) :
  ∃b j,∃x:UInt8,A=some (Z b j)/\w.cell? (Z b (j+k))=some (.int .u8 (x.toNat:Int))/\O (bs[k]?=some x):=by
 obtain⟨b,j,h1,_,u⟩:=h.addr (k:=k) (by simpa[Aj] using q);exact⟨b,j,bs[k],h1,u k _ (by simp[Aj,zY q]),zY q⟩
theorem Jj{P:Program}{ab:Array Oper}{rest:List Oper}{o:Oper}{a:Act}{Q:Exit->Act->World->Prop}(ad:o.guard=none)(s x:Operand)(t e:TypeId)(z:Value)(y:Nat)
  (T:o.op=.call {callee:=.builtin .append,args:=#[s,x],argTypes:=#[t,t]}) (ht:P.underlying t=some (.slice e))
  (F:(P.info? e).map (λi=>(i.zero,i.size,i.bytes))=some (some z,1,y)) (af:z.cells.size=1) (ac:y<=64)
  (W:World) (B:Nat) (v:Value) (xs:List Value) (X:a.eval s=v) (u:Value) (h1:u.oneCell'=true) (D:a.eval x=.slice (some (Z W.heap.size 0)) 1 1)
  (aa:Own W B e v xs) (R:xs.length<1900000000) (hb:B<=W.heap.size)
  (h:∀v' w',Own w' B e v' (xs++[u])->Grew W w' v->Stems W v v'->wpList P ab Q rest (a.put o.dst v') w') :
  wpList P ab Q (o::rest) a (W.alloc (.cells #[u] e)):=by
 refine Fp ad s x t e z y T ht F af ac (W.alloc (.cells #[u] e)) B v xs X (some (Y W 0)) 1 1 [u] D rfl ?_ (by simpa using h1) (aa.ext (V.new _ _)) U zm ?_
 .intro _;refine⟨W.heap.size,0,rfl,zj,λj q hj=>?_⟩
  match j,hj with
  | 0,hj=>simp at hj;subst hj;simp
 .intro v' w' h2 G K;refine h v' w' h2 ⟨G.os,G.tape,G.output,zL zj G.size,λk hk ae=>(G.block k zm ae).trans (Below.heap_alloc _ _ _ hk)⟩ ?_;rcases K with K|⟨g,K,h5⟩
  .exact .inl K
  .exact .inr ⟨g,K,by simp at h5;omega⟩
def U64:Nat:=18446744073709551616
def AB(v:Nat):List UInt8:=if h:v<128 then [UInt8.ofNat v] else UInt8.ofNat (v % 128+128)::AB (v / 128)
termination_by v
decreasing_by omega
theorem FV{v:Nat}(h:v<128):AB v=[UInt8.ofNat v]:=by rw[AB,dif_pos h]
theorem Lo{v:Nat}(h:128<=v):AB v=UInt8.ofNat (v % 128+128)::AB (v / 128):=by rw[AB,dif_neg U]
theorem Xx:∀(f v:Nat),v<128 ^ f->(AB v).length<=f+1:=by
 intro f;induction f with
 | zero=>intro v h;simp at h;subst h;rw[FV U];simp
 | succ f j=>
  intro v h;by_cases q:v<128
  .rw[FV q];simp
  .rw[Lo U];have:=j (v / 128) (by rw[Nat.pow_succ] at h;omega);simp;omega
theorem BW{v:Nat}(h:v<U64):(AB v).length<=11:=Xx 10 v (Nat.lt_of_lt_of_le h zd)
theorem OT{q:List UInt8}{j:List UInt8}{v:Nat}(h:128<=v)(e:q++AB v=j):(q++[UInt8.ofNat (v % 128+128)])++AB (v / 128)=j:=by
 rw[<-e,Lo h];simp
theorem YG{q:List UInt8}{j:List UInt8}{v:Nat}(h:v<128)(e:q++AB v=j):q++[UInt8.ofNat v]=j:=by
 rw[<-e,FV h]
theorem Qc{P:Prop}(h:P:=by
 rw[<-YG Q j.o,Ew];simp only[Aj,List.map_cons,List.map_nil,<-YE Q];exact u):P:=h
theorem Grew.refl(a:World)(v:Value):Grew a a v:=⟨rfl,rfl,rfl,zR _,λ_ _ _=>rfl⟩
theorem Stems.refl(a:World)(v:Value):Stems a v v:=.inl rfl
theorem Grew.size{a b:World}{v:Value}(h:Grew a b v):a.heap.size<=b.heap.size:=World.grownBy.size h
theorem Grew.trans{a b c:World}{v u:Value}(h:Grew a b v)(s:Stems a v u)(k:Grew b c u):Grew a c v:=by
 refine⟨k.os.trans h.os,k.tape.trans h.tape,k.output.trans h.output,zL h.size k.size,λi q j=>?_⟩;refine(k.block i (Nat.lt_of_lt_of_le q h.size) ?_).trans (h.block i q j);rcases s with s|⟨g,s,hg⟩
 .rw[s];exact j
 .rw[s];intro e;cases e;omega
theorem Stems.trans{a b:World}{v u t:Value}(h:Stems a v u)(j:a.heap.size<=b.heap.size)(k:Stems b u t):Stems a v t:=by
 rcases k with k|⟨g,k,hg⟩
 .rcases h with h|⟨g,h,hg⟩
  .exact .inl (k.trans h)
  .exact .inr ⟨g,k.trans h,hg⟩
 .exact .inr ⟨g,k,U⟩
def Rh(w:World)(B:Nat)(v:Value)(bs:List UInt8)(en:Ending)(w':World):Prop:=
 ∃v',en=.returned v'/\Own w' B 5 v' (Aj bs)/\Grew w w' v/\Stems w v v'
theorem ZH(m:Fin 256):bits .or .u8 (m.val:Int) 128=((m.val % 128+128:Nat):Int):=by revert m;decide +kernel
theorem ZY(k:Nat):bits .or .u8 ((k:Int) % 256) 128=((UInt8.ofNat (k % 128+128)).toNat:Int):=by
 have h:=ZH ⟨k % 256,Nat.mod_lt _ zd⟩;have e:((k % 256:Nat):Int)=(k:Int) % 256:=U;simp only[e] at h;rw[h,UInt8.toNat_ofNat'];omega
theorem YE{k:Nat}(h:k<128):(k:Int)=((UInt8.ofNat k).toNat:Int):=by rw[UInt8.toNat_ofNat'];omega
theorem DA{k:Nat}(h:k<U64):IntKind.u64.wrap (k:Int)=(k:Int):=IntWalk.u64_in _ (by unfold U64 at h;omega)
theorem YK{k:Nat}(h:k<U64):IntKind.u64.wrap ((k:Int) / 128)=(k:Int) / 128:=IntWalk.u64_in _ (by unfold U64 at h;omega)
theorem WR(k:Nat):((k:Int) % 128+128)=((UInt8.ofNat (k % 128+128)).toNat:Int):=by rw[UInt8.toNat_ofNat'];omega
theorem Ic(B:Nat)(v:Value)(xs:List UInt8)(n:Nat)(w:World)(T:Own w B 5 v (Aj xs))(hB:B<=w.heap.size)(R:xs.length<=1000000000)(G:O (n<U64)) :
  Calls prog 173 #[v,.int .u64 (n:Int)] w (Rh w B v (xs++AB n)):=by
 have HB:=J (show (xs++AB n).length<=1000000011 by have:=BW G.o;simp;omega);have HO:=J T;clear T;go_enter func173,ntmps173;go_wp2;go_loopw [0,1] (λX m wr=>∃(k:Nat) (ys:List UInt8),m=.int .u64 (k:Int)/\O (ys++AB k=xs++AB n)/\Own wr B 5 X (Aj ys)/\Grew w wr v/\Stems w v X) (λ_ m _=>(intOf m).toNat)
 case atStart=>exact⟨n,xs,rfl,rfl,HO.o,Grew.refl _ _,Stems.refl _ _⟩
 case round=>
  obtain⟨k,ys,rfl,j,W,q,y⟩:=hrel;have aa:ys.length<=1000000011:=by
   have h1:=HB.o;rw[<-j.o] at h1;simp at h1;omega
  have K:B<=wr.heap.size:=zL hB q.size;by_cases z:128<=k
  .have hd:decide ((128:Int)<=(k:Int))=true:=zm;go_wp2_with (first
    | (at_builtin;refine Jj rfl (.tmp 7) (.tmp 11) _ 5 _ 1 rfl Tryz.underlying29 D8 rfl zd wr B _ (Aj ys) zi _ zi zi W (by rw[Bo];omega) K ?_;intro v1 w1 u F D))
   go_roundw
   case rel=>
    refine⟨k / 128,ys++[UInt8.ofNat (k % 128+128)],by go_num,OT z j.o,?_,q.trans y F,y.trans q.size D⟩;rw[ZY] at u;rw[Ew];exact u
   case measure=>simp[intOf];omega
  .have hd:decide ((128:Int)<=(k:Int))=false:=zm;have Q:k<128:=U;go_wp2_with (first
    | (at_builtin;refine Jj rfl (.tmp 15) (.tmp 18) _ 5 _ 1 rfl Tryz.underlying29 D8 rfl zd wr B _ (Aj ys) zi _ zi zi W (by rw[Bo];omega) K ?_;intro v1 w1 u F D))
   go_ret;refine⟨v1,rfl,?_,q.trans y F,y.trans q.size D⟩;exact Qc
def GivesB(w:World)(bs:List UInt8)(en:Ending)(w':World):Prop:=
 ∃A c,en=.returned (.slice A bs.length c)/\bs.length<=c/\c<=maxLen/\Own w' w.heap.size 5 (.slice A bs.length c) (Aj bs)/\V w w'
theorem El{w w':World}{v:Value}{bs:List UInt8}(h:Own w' w.heap.size 5 v (Aj bs))(e:V w w'):GivesB w bs (.returned v) w':=by
 obtain⟨A,c,q,h1,h2,_⟩:=h.slice;rw[Bo] at q h1;subst q;exact⟨A,c,rfl,h1,h2,h,e⟩
theorem D6(n:Nat)(w:World)(G:O (n<U64)) :
  Calls prog 105 #[.int .u64 (n:Int)] w (GivesB w (AB n)):=by
 have W:=J (show (AB n).length<=11 from BW G.o);go_enter func105,ntmps105;go_wp2;go_loopw [0,3] (λm v' wr=>∃(k:Nat) (ys:List UInt8),m=.int .u64 (k:Int)/\O (k<U64)/\O (ys++AB k=AB n)/\Own wr w.heap.size 5 v' (Aj ys)/\V w wr) (λm _ _=>(intOf m).toNat)
 case atStart=>exact⟨n,[],rfl,G,rfl,Own.nil _ _ _,V.refl _⟩
 case round=>
  obtain⟨k,ys,rfl,T,j,D,y⟩:=hrel;have aa:ys.length<=11:=by
   have h1:=W.o;rw[<-j.o] at h1;simp at h1;omega
  by_cases z:128<=k
  .have X:decide ((128:Int)<=(k:Int))=true:=zm;have hw:=YK T.o;go_wp2_with (first
    | (at_builtin;refine Jj rfl (.tmp 6) (.tmp 11) _ 5 _ 1 rfl Tryz.underlying29 D8 rfl zd wr w.heap.size _ (Aj ys) zi _ zi zi D (by rw[Bo];omega) y.size ?_;intro v1 w1 u F R))
   go_roundw
   case rel=>
    refine⟨k / 128,ys++[UInt8.ofNat (k % 128+128)],by go_num,by have:=T.o;show k / 128<U64;omega,OT z j.o,?_,F.below y y.size (λq K=>(D.lt q K).1)⟩;rw[Ew]
    first|exact u|(rw[WR] at u;exact u)
   case measure=>simp[intOf];omega
  .have X:decide ((128:Int)<=(k:Int))=false:=zm;have Q:k<128:=U;go_wp2_with (first
    | (at_builtin;refine Jj rfl (.tmp 15) (.tmp 18) _ 5 _ 1 rfl Tryz.underlying29 D8 rfl zd wr w.heap.size _ (Aj ys) zi _ zi zi D (by rw[Bo];omega) y.size ?_;intro v1 w1 u F R))
   go_ret;refine El ?_ (F.below y y.size (λq K=>(D.lt q K).1));exact Qc
def zig(n:Int):Nat:=if n<0 then (2*(-(n+1))+1).toNat else (2*n).toNat
def I64(n:Int):Prop:=-9223372036854775808<=n/\n<=9223372036854775807
theorem Hi{n:Int}(h:I64 n):zig n<U64:=by
 unfold zig U64;unfold I64 at h;split<;>omega
theorem xor_zero(a:Nat)(h:a<18446744073709551616):bits .xor .u64 (a:Int) 0=(a:Int):=by
 show IntKind.u64.wrap ((BitVec.ofInt 64 (a:Int) ^^^ BitVec.ofInt 64 0).toNat:Int)=_;have e:(BitVec.ofInt 64 (a:Int)).toNat=a:=by rw[BitVec.ofInt_natCast,BitVec.toNat_ofNat];exact Nat.mod_eq_of_lt h
 simp only[BitVec.ofInt_ofNat,BitVec.xor_zero,e,IntKind.wrap_u64];omega
theorem Xn(a:Nat)(j:a<18446744073709551616):bits .xor .u64 (a:Int) 18446744073709551615=((18446744073709551615 - a:Nat):Int):=by
 show IntKind.u64.wrap ((BitVec.ofInt 64 (a:Int) ^^^ BitVec.ofInt 64 18446744073709551615).toNat:Int)=_;have e:(BitVec.ofInt 64 (a:Int)).toNat=a:=by rw[BitVec.ofInt_natCast,BitVec.toNat_ofNat];exact Nat.mod_eq_of_lt j
 have h:BitVec.ofInt 64 18446744073709551615=BitVec.allOnes 64:=zd;rw[h,BitVec.xor_allOnes,BitVec.toNat_not,e,IntKind.wrap_u64];omega
theorem XM{n:Int}(h:I64 n):bits BinOp.xor IntKind.u64 (IntKind.u64.wrap (IntKind.u64.wrap n*2)) (IntKind.u64.wrap (n / 9223372036854775808))=(zig n:Int):=by
 unfold I64 at h;unfold zig;simp only[IntKind.wrap_u64];split
 .have h1:n / 9223372036854775808 % 18446744073709551616=18446744073709551615:=U;have h2:n % 18446744073709551616*2 % 18446744073709551616=((18446744073709551616+2*n).toNat:Int):=U;rw[h1,h2,Xn _ U];omega
 .have h1:n / 9223372036854775808 % 18446744073709551616=0:=U;have h2:n % 18446744073709551616*2 % 18446744073709551616=((2*n).toNat:Int):=U;rw[h1,h2,xor_zero _ U]
theorem YP{n:Int}(h:I64 n)(G:n<0):IntKind.u64.wrap (IntKind.u64.wrap (IntKind.u64.wrap (wrap64 (-wrap64 (n+1)))*2)+1)=(zig n:Int):=by
 unfold I64 at h;unfold zig;rw[if_pos G];simp only[IntKind.wrap_u64,wrap64];omega
theorem YQ{n:Int}(h:I64 n)(G:0<=n):IntKind.u64.wrap (IntKind.u64.wrap n*2)=(zig n:Int):=by
 unfold I64 at h;unfold zig;rw[if_neg U];simp only[IntKind.wrap_u64];omega
def EJ(n:Nat):Int:=if n % 2=1 then -((n / 2:Nat):Int) - 1 else ((n / 2:Nat):Int)
theorem Wa{n:Nat}(h:n<U64)(G:((n:Int) % 2 == 1)=true):wrap64 (wrap64 (-wrap64 (IntKind.u64.wrap ((n:Int) / 2))) - 1)=EJ n:=by
 unfold U64 at h;unfold EJ;simp only[beq_iff_eq] at G;rw[if_pos U];simp only[IntKind.wrap_u64,wrap64];omega
theorem Uz{n:Nat}(h:n<U64)(G:((n:Int) % 2 == 1)=false):wrap64 (IntKind.u64.wrap ((n:Int) / 2))=EJ n:=by
 unfold U64 at h;unfold EJ;simp only[beq_eq_false_iff_ne] at G;rw[if_neg U];simp only[IntKind.wrap_u64,wrap64];omega
def find(id:Int):List Int->Nat->Int
 | [],_=>-1
 | x::xs,k=>if x=id then (k:Int) else find id xs (k+1)
def Gz(xs:List Int)(id:Int):Int:=find id xs 0
def CV:Int->List Int->Bool
 | _,[]=>true
 | last,x::xs=>if x<=last\/1000<x then false else CV x xs
def Bl(xs:List Int)(most:Int):Bool:=
 if (xs.length:Int)<1\/most<(xs.length:Int) then false else CV 0 xs
theorem E9{xs:List Int}{k:Nat}{x:Int}(h:xs[k]?=some x):xs.drop k=x::xs.drop (k+1):=by
 obtain⟨j,rfl⟩:=zZ h;exact List.drop_eq_getElem_cons j
theorem OQ{xs:List Int}{id x:Int}{k:Nat}(h:xs[k]?=some x)(j:x=id):find id (xs.drop k) k=(k:Int):=by
 rw[E9 h,find,if_pos j]
theorem N0{xs:List Int}{id x:Int}{k:Nat}(h:xs[k]?=some x)(j:¬x=id):find id (xs.drop k) k=find id (xs.drop (k+1)) (k+1):=by
 rw[E9 h,find,if_neg j]
theorem Pg{xs:List Int}{id:Int}{k:Nat}(h:¬k<xs.length):find id (xs.drop k) k = -1:=by
 rw[List.drop_of_length_le U];rfl
theorem K9{xs:List Int}{last x:Int}{k:Nat}(h:xs[k]?=some x)(j:x<=last):CV last (xs.drop k)=false:=by
 rw[E9 h,CV,if_pos (.inl j)]
theorem Ot{xs:List Int}{last x:Int}{k:Nat}(h:xs[k]?=some x)(j:1000<x):CV last (xs.drop k)=false:=by
 rw[E9 h,CV,if_pos (.inr j)]
theorem KH{xs:List Int}{last x:Int}{k:Nat}(h:xs[k]?=some x)(h1:last<x)(h2:x<=1000):CV last (xs.drop k)=CV x (xs.drop (k+1)):=by
 rw[E9 h,CV,if_neg U]
theorem Oh{xs:List Int}{last:Int}{k:Nat}(h:¬k<xs.length):CV last (xs.drop k)=true:=by
 rw[List.drop_of_length_le U];rfl
def AG(xs:List Int)(id:Int):Bool:=decide (0<=Gz xs id)
def AQ(id:Int):Bool:=decide (1<=id)&&decide (id<=1000)
def Bs(n:Int):Int:=if 1<=n/\n<=16 then n / 2+1 else 0
def AK(num:Int)(xs:List Int):Bool:=decide (0<=num)&&decide (num<=1099511627776)&&Bl xs 16
theorem Nb{xs:List Int}{m:Int}(h:(xs.length:Int)<1):Bl xs m=false:=by unfold Bl;rw[if_pos (.inl h)]
theorem Og{xs:List Int}{m:Int}(h:m<(xs.length:Int)):Bl xs m=false:=by unfold Bl;rw[if_pos (.inr h)]
theorem Lb{xs:List Int}{m:Int}(h:(1:Int)<=xs.length)(j:(xs.length:Int)<=m):Bl xs m=CV 0 xs:=by unfold Bl;rw[if_neg U]
theorem Nm{n:Int}{xs:List Int}(h:n<0):AK n xs=false:=by unfold AK;rw[decide_eq_false U];rfl
theorem Nr{n:Int}{xs:List Int}(h:1099511627776<n):AK n xs=false:=by unfold AK;rw[decide_eq_false (p:=n<=1099511627776) U];simp
theorem Kl{n:Int}{xs:List Int}(h:0<=n)(j:n<=1099511627776):AK n xs=Bl xs 16:=by unfold AK;rw[decide_eq_true h,decide_eq_true j];rfl
def filt(p:Int->Bool)(xs:List Int)(k:Nat):List Int:=(xs.take k).filter p
theorem Cz{α:Type}{xs:List α}{k:Nat}{x:α}(h:xs[k]?=some x):xs.take (k+1)=xs.take k++[x]:=by
 rw[List.take_add_one,h];rfl
theorem Lf{p:Int->Bool}{xs:List Int}{k:Nat}{x:Int}(h:xs[k]?=some x)(j:p x=true):filt p xs (k+1)=filt p xs k++[x]:=by
 unfold filt;rw[Cz h,List.filter_append];simp[j]
theorem Lc{p:Int->Bool}{xs:List Int}{k:Nat}{x:Int}(h:xs[k]?=some x)(j:p x=false):filt p xs (k+1)=filt p xs k:=by
 unfold filt;rw[Cz h,List.filter_append];simp[j]
theorem K1(p:Int->Bool)(xs:List Int)(k:Nat):(filt p xs k).length<=k:=by
 unfold filt;have h1:=List.length_filter_le p (xs.take k);have h2:=List.length_take_le k xs;omega
theorem KI{p:Int->Bool}{xs:List Int}{k:Nat}(h:¬k<xs.length):filt p xs k=xs.filter p:=by
 unfold filt;rw[List.take_of_length_le U]
def Bg(l m:List Int)(b:Bool):List Int:=l.filter λx=>AG m x == b
def D7(id:Int)(s:List Int×Bool)(x:Int):List Int×Bool:=if s.2=false/\id<x then (s.1++[id]++[x],true) else (s.1++[x],s.2)
def BS(id:Int)(xs:List Int)(k:Nat):List Int×Bool:=(xs.take k).foldl (D7 id) ([],false)
def EH(xs:List Int)(id:Int):List Int:=let s:=BS id xs xs.length;if s.2 then s.1 else s.1++[id]
theorem IY{id:Int}{xs:List Int}{k:Nat}{x:Int}(h:xs[k]?=some x):BS id xs (k+1)=D7 id (BS id xs k) x:=by
 unfold BS;rw[Cz h,List.foldl_append];rfl
theorem V9(id:Int)(xs:List Int)(k:Nat):(BS id xs k).1.length<=2*k:=by
 induction k with
 | zero=>simp[BS]
 | succ k j=>
  cases h:xs[k]? with
  | none=>
   have:xs.take (k+1)=xs.take k:=by rw[List.take_add_one,h];simp
   unfold BS at *;rw[this];omega
  | some x=>rw[IY h];unfold D7;split<;>simp<;>omega
theorem VH{id:Int}{xs:List Int}{k:Nat}{x:Int}(h:xs[k]?=some x)(j:(BS id xs k).2=false)(D:id<x):(BS id xs (k+1)).1=(BS id xs k).1++[id]++[x]/\(BS id xs (k+1)).2=true:=by
 rw[IY h];unfold D7;rw[if_pos ⟨j,D⟩];exact⟨rfl,rfl⟩
theorem Vc{id:Int}{xs:List Int}{k:Nat}{x:Int}(h:xs[k]?=some x)(j:(BS id xs k).2=false)(D:x<=id):(BS id xs (k+1)).1=(BS id xs k).1++[x]/\(BS id xs (k+1)).2=false:=by
 rw[IY h];unfold D7;rw[if_neg U];exact⟨rfl,j⟩
theorem Xv{id:Int}{xs:List Int}{k:Nat}{x:Int}(h:xs[k]?=some x)(j:(BS id xs k).2=true):(BS id xs (k+1)).1=(BS id xs k).1++[x]/\(BS id xs (k+1)).2=true:=by
 rw[IY h];unfold D7;rw[if_neg (by simp[j])];exact⟨rfl,j⟩
theorem Tc{id:Int}{xs:List Int}{k:Nat}(h:¬k<xs.length)(q:k<=xs.length)(j:(BS id xs k).2=true):EH xs id=(BS id xs k).1:=by
 have:k=xs.length:=U;subst this;unfold EH;simp[j]
theorem UQ{id:Int}{xs:List Int}{k:Nat}(h:¬k<xs.length)(q:k<=xs.length)(j:(BS id xs k).2=false):EH xs id=(BS id xs k).1++[id]:=by
 have:k=xs.length:=U;subst this;unfold EH;simp[j]
def EK(xs ys:List Int):Bool:=decide (xs=ys)
theorem NW{xs ys:List Int}(h:¬xs.length=ys.length):EK xs ys=false:=decide_eq_false (λe=>h (by rw[e]))
theorem Uk{xs ys:List Int}{k:Nat}{x y:Int}(D:xs[k]?=some x)(hy:ys[k]?=some y)(h:¬x=y):EK xs ys=false:=
 decide_eq_false (λe=>h (by rw[e,hy] at D;exact(Option.some.inj D).symm))
theorem VF{xs ys:List Int}{k:Nat}{x y:Int}(D:xs[k]?=some x)(hy:ys[k]?=some y)(h:x=y)(j:xs.take k=ys.take k):xs.take (k+1)=ys.take (k+1):=by
 rw[Cz D,Cz hy,j,h]
theorem V8{xs ys:List Int}{k:Nat}(j:¬k<xs.length)(R:xs.length=ys.length)(h:xs.take k=ys.take k):EK xs ys=true:=by
 rw[List.take_of_length_le U,List.take_of_length_le U] at h;exact decide_eq_true h
def leB(x y:Int):Bool:=decide (x<=y)
def Bf(a b:List Int):List Int:=a.merge b leB
theorem U3{out a b m:List Int}{i j:Nat}{x y:Int}(D:a[i]?=some x)(hy:b[j]?=some y)(h:x<=y)(e:out++Bf (a.drop i) (b.drop j)=m):(out++[x])++Bf (a.drop (i+1)) (b.drop j)=m:=by
 rw[<-e,E9 D,E9 hy];unfold Bf;rw[List.cons_merge_cons_pos _ _ _ (by simp[leB,h])];simp
theorem VD{out a b m:List Int}{i j:Nat}{x y:Int}(D:a[i]?=some x)(hy:b[j]?=some y)(h:y<x)(e:out++Bf (a.drop i) (b.drop j)=m):(out++[y])++Bf (a.drop i) (b.drop (j+1))=m:=by
 rw[<-e,E9 D,E9 hy];unfold Bf;rw[List.cons_merge_cons_neg _ _ _ (by simp[leB];omega)];simp
theorem Uo{out a b m:List Int}{i j:Nat}{y:Int}(h:¬i<a.length)(hy:b[j]?=some y)(e:out++Bf (a.drop i) (b.drop j)=m):(out++[y])++Bf (a.drop i) (b.drop (j+1))=m:=by
 rw[<-e,E9 hy,List.drop_eq_nil_of_le U];unfold Bf;simp
theorem VW{out a b m:List Int}{i j:Nat}(h:¬j<b.length)(e:out++Bf (a.drop i) (b.drop j)=m):out++a.drop i=m:=by
 rw[<-e,List.drop_eq_nil_of_le (show b.length<=j by omega)];unfold Bf;simp
def Cd(num:Int)(xs cut:List Int):Bool:=AK num xs&&Bl cut 32
def B7(num:Int)(xs cut:List Int):List Int:=if Cd num xs cut then Bg cut xs false else []
def Bx(num:Int)(xs cut:List Int):List Int:=if Cd num xs cut then Bg xs cut false else []
theorem FP{xs:List Int}{m:Nat}(h:Bl xs m=true):1<=xs.length/\xs.length<=m:=by
 unfold Bl at h;split at h
 .cases h
 .omega
theorem Dk{n:Int}{xs:List Int}(h:AK n xs=true):1<=xs.length/\xs.length<=16:=by
 unfold AK at h;simp only[zB] at h;exact FP h.2
theorem D0{j:Int}{xs h:List Int}:Cd j xs h=true↔AK j xs=true/\Bl h 32=true:=by simp[Cd]
theorem Ih{j:Int}{xs q:List Int}(h:Cd j xs q=false):AK j xs=false\/(AK j xs=true/\Bl q 32=false):=by
 unfold Cd at h;cases h1:AK j xs<;>simp_all
theorem FI(l m:List Int)(b:Bool):(Bg l m b).length<=l.length:=List.length_filter_le _ _
def CW(num:Int)(xs cut:List Int):Int×List Int×Int:=
 if Cd num xs cut=false then (0,[],1)
 else if 2*(Bx num xs cut).length<=xs.length then (0,[],9)
 else if num=1099511627776\/16<(Bx num xs cut).length+(B7 num xs cut).length then (0,[],5)
 else (num+1,Bf (Bx num xs cut) (B7 num xs cut),0)
theorem Ev{n:Int}{xs:List Int}(h:AK n xs=true):0<=n/\n<=1099511627776:=by
 unfold AK at h;simp only[zB,zE] at h;exact h.1
theorem Ku{q:Int}{xs j:List Int}(h:Cd q xs j=true)(h1:2*(Bx q xs j).length<=xs.length):CW q xs j=(0,[],9):=by
 unfold CW;rw[if_neg (by simp[h]),if_pos h1]
theorem Id{j:Int}{xs q:List Int}(h:Cd j xs q=true)(h1:¬2*(Bx j xs q).length<=xs.length)(h2:j=1099511627776\/16<(Bx j xs q).length+(B7 j xs q).length):CW j xs q=(0,[],5):=by
 unfold CW;rw[if_neg (by simp[h]),if_neg h1,if_pos h2]
theorem KX{j:Int}{xs q:List Int}(h:Cd j xs q=true)(h1:¬2*(Bx j xs q).length<=xs.length)(h2:¬(j=1099511627776\/16<(Bx j xs q).length+(B7 j xs q).length)):CW j xs q=(j+1,Bf (Bx j xs q) (B7 j xs q),0):=by
 unfold CW;rw[if_neg (by simp[h]),if_neg h1,if_neg h2]
theorem OE{q:Int}{xs j:List Int}(h:Cd q xs j=true):(Bx q xs j).length<=16:=by
 unfold Bx;rw[if_pos h];have:=FI xs j false;have:=(Dk (D0.1 h).1).2;omega
theorem Pm{q:Int}{xs j:List Int}(h:Cd q xs j=true):(B7 q xs j).length<=32:=by
 unfold B7;rw[if_pos h];have:=FI j xs false;have:=(FP (m:=32) (D0.1 h).2).2;omega
theorem P7{P:Prop}(h:P:=by
 try rw[Exit.noGoto_ret]
 go_ret;exact DO (by rw[<-VW z X.o];simpa[Ai] using u) (F.below D D.size (λq K=>(T.lt q K).1))):P:=h
theorem Oo(xs:List Int)(k:Nat):(Ai xs).drop k=Ai (xs.drop k):=by simp[Ai]
theorem GZ(xs:List Int):(Ai xs).length=xs.length:=by simp[Ai]
theorem Pj(xs:List Int):∀u∈Ai xs,u.oneCell'=true:=by
 intro u h;simp only[Ai,List.mem_map] at h;obtain⟨x,_,rfl⟩:=h;rfl
theorem NH(A B:Option Addr)(c d:Nat)(a b:List Int)(w:World)(ha:Row w A (Ai a))(hb:Row w B (Ai b))(ak:a.length<=c)(ap:a.length<=1000)(aq:b.length<=1000) :
  Calls prog 208 #[.slice A a.length c,.slice B b.length d] w (GivesI w (Bf a b)):=by
 have HA:=J ha;have HB:=J hb;clear ha hb;go_enter func208,ntmps208;go_wp2;go_step3
 go_wp2;go_step3
 go_wp2;go_loopg [5,6,8,11] b.length (λg v i _ jv wr=>∃(j k:Nat) (out:List Int),j+g=b.length/\k<=a.length/\out.length=k+j/\i=I k/\jv=I j/\O (out++Bf (a.drop k) (b.drop j)=Bf a b)/\Own wr w.heap.size 3 v (Ai out)/\V w wr)
 case atStart=>exact⟨0,0,[],U,U,rfl,rfl,rfl,rfl,Own.nil _ _ _,Below.refl _ _⟩
 case round=>
  obtain⟨j,k,out,ab,hk,ae,rfl,rfl,X,T,D⟩:=hrel;have ag:out.length<=2000:=U;have ah:=J ae;clear ae;cases gk with
  | succ g=>
   have z:j<b.length:=U;have HJ:=J ab;clear ab;obtain⟨bb,ob,y,rfl,hc,HY⟩:=(HB.o.ext D).at_ z;go_wp2;go_loopg [5,6] (a.length - k) (λg2 v i wy=>∃(k':Nat) (G:List Int),k'+g2=a.length/\k'<=a.length/\i=I k'/\O (G.length=k'+j)/\G.length<=2000/\O (G++Bf (a.drop k') (b.drop j)=Bf a b)/\Own wy w.heap.size 3 v (Ai G)/\V w wy)
   case atStart=>exact⟨k,out,U,hk,rfl,ah.o,ag,X,T,D⟩
   case round=>
    obtain⟨k',G,ac,an,rfl,aa,ao,af,W,R⟩:=hrel;cases gk with
    | succ g2=>
     have Q:k'<a.length:=U;have HK:=J ac;clear ac;obtain⟨ba,oa,x,rfl,am,HX⟩:=(HA.o.ext R).at_ Q;by_cases aj:y<x
     .go_wp2_with (first
       | (at_builtin;refine DD rfl (.tmp 27) (.tmp 29) rfl _ w.heap.size _ G zi y zi W U R.size ?_;intro v1 w1 u F ad))
      go_roundg g
      case measure=>omega
      case rel=>exact⟨j+1,k',G++[y],by have:=HJ.o;omega,U,by have:=aa.o;simp;omega,rfl,by go_num,VD HX.o HY.o aj af.o,u,F.below R R.size (λq K=>(W.lt q K).1)⟩
     .have al:x<=y:=U;clear aj;go_wp2_with (first
       | (at_builtin;refine DD rfl (.tmp 31) (.tmp 36) rfl _ w.heap.size _ G zi x zi W U R.size ?_;intro v1 w1 u F ad))
      go_roundg g2
      case measure=>omega
      case rel=>exact⟨k'+1,G++[x],by have:=HK.o;omega,U,by go_num,by have:=aa.o;show (G++[x]).length=k'+1+j;simp;omega,by have:=aa.o;simp;omega,U3 HX.o HY.o al af.o,u,F.below R R.size (λq K=>(W.lt q K).1)⟩
    | zero=>
     have Q:¬k'<a.length:=U;have HK:=J ac;clear ac;go_wp2_with (first
       | (at_builtin;refine DD rfl (.tmp 38) (.tmp 40) rfl _ w.heap.size _ G zi y zi W U R.size ?_;intro v1 w1 u F ad))
     go_roundg g
     case measure=>omega
     case rel=>exact⟨j+1,k',G++[y],by have:=HJ.o;omega,U,by have:=aa.o;simp;omega,rfl,by go_num,Uo Q HY.o af.o,u,F.below R R.size (λq K=>(W.lt q K).1)⟩
  | zero=>
   have z:¬j<b.length:=U;have HJ:=J ab;clear ab;by_cases ai:c=k
   .have hz:a.length<=k:=U;have HZ:=J (λA'=>Oo a k▸Row.past (w:=wr) (A:=A') (xs:=Ai a) (k:=k) (by rw[GZ];exact hz));subst ai;go_wp2_with (first
     | (at_builtin;refine Fp rfl (.tmp 43) (.tmp 46) _ 3 _ 8 rfl Tryz.underlying44 Jm rfl zd _ w.heap.size _ (Ai out) zi _ _ _ (Ai (a.drop c)) zi (by simp only[GZ,zD];try omega) (HZ.o _) (Pj _) T (by rw[GZ];omega) D.size ?_;intro v1 w1 u F ad))
    exact P7
   .have HZ:=J (Oo a k▸Row.map_ (HA.o.ext D) (by rw[GZ];exact ak) ai);go_wp2_with (first
     | (at_builtin;refine Fp rfl (.tmp 43) (.tmp 46) _ 3 _ 8 rfl Tryz.underlying44 Jm rfl zd _ w.heap.size _ (Ai out) zi _ _ _ (Ai (a.drop k)) zi (by simp only[GZ,zD];try omega) HZ.o (Pj _) T (by rw[GZ];omega) D.size ?_;intro v1 w1 u F ad))
    exact P7
def JI(n:Nat):Array Value:=madeCells #[.int .u8 0] n
theorem Kw(n:Nat):(JI n).size=n:=size_madeCells _ _
theorem Ut(l n:Nat)(G:n<=1000000000)(W:World) :
  (Instr.makeSlice 29 (I (l:Int)) (I ((l:Int)+(n:Int)))).run prog W=.ok (.slice (some (Z W.heap.size 0)) l (l+n)) (W.alloc (.cells (JI (l+n)) 5))\/1000000000<l:=by
 rcases Nat.lt_or_ge 1000000000 l with h|h
 .exact .inr h
 .left;obtain⟨K,F,q,u,y⟩:=info_parts D8;have j:=run_make (P:=prog) W 29 5 K (.int .u8 0) Tryz.underlying29 F q .i64 .i64 (l:Int) ((l:Int)+(n:Int)) U U (by rw[y];omega) U;rw[u] at j;have z:((l:Int)+(n:Int)).toNat=l+n:=U;have D:((l:Int)).toNat=l:=U;rw[z,D,Nat.mul_one] at j;exact j
theorem GR(A:Option Addr)(c:Nat)(bs:List UInt8)(n:Nat)(w:World)(h:Row w A (Aj bs))(R:bs.length<=1000000000)(G:n<=1000000000) :
  Calls prog 122 #[.slice A bs.length c,I (n:Int)] w (GivesB w bs):=by
 have H:=J h;clear h;have D:∀W:World,(Instr.makeSlice 29 (I (bs.length:Int)) (I ((bs.length:Int)+(n:Int)))).run prog W=.ok (.slice (some (Y W 0)) bs.length (bs.length+n)) (W.alloc (.cells (JI (bs.length+n)) 5)):=λW=>(Ut bs.length n G W).resolve_right U;go_enter func122,ntmps122;go_wp2_with (with_reducible refine wpList_copy_splice rfl (.tmp 13) (.tmp 14) 29 29 rfl 5 Tryz.underlying29 zh (some (Y w 0)) A bs.length (bs.length+n) bs.length c rfl rfl w.heap.size 0 (JI (bs.length+n)).toList 5 (heap_alloc_new w _) (Aj bs) ?h1 ?h2 ?h3 (FN bs) w.heap.size w (V.new w _) (zR _) ?_;rotate_right;intro Q F u)
 case h1=>rw[Bo];exact(Nat.min_self _).symm
 case h2=>
  intro K
  try refine⟨rfl,?_⟩
  obtain⟨b,q,rfl,y,h3⟩:=H.o.addr K;refine⟨_,rfl,λj v z=>?_⟩;have:=h3 j v z;rw[World.cell?_alloc_lt _ _ _ (by simpa[Addr.add] using (by split<;>exact y:(if j=0 then (⟨b,q,none⟩:Addr) else ⟨b,q+j,none⟩).block<w.heap.size))];unfold Addr.add;split
  .next h0=>subst h0;simpa using this
  .exact this
 case h3=>rw[Bo];simp[Kw]
 go_wp2;go_ret;show GivesB w bs (.returned (.slice (some (Y w 0)) bs.length (bs.length+n))) Q;refine El ?_ u;refine⟨zj,.inr ⟨w.heap.size,bs.length+n,_,by rw[Bo],zR _,F,by rw[Bo];omega,by unfold maxLen;omega,?_,?_⟩⟩
 .rw[List.size_toArray,length_splice _ _ _ (by rw[Bo];simp[Kw])];simp[Kw]
 .rw[Nat.mul_one];simp[splice]
theorem Nv(B:Nat)(v:Value)(xs:List UInt8)(n:Int)(w:World)(T:Own w B 5 v (Aj xs))(y:B<=w.heap.size)(R:xs.length<=1000000000)(G:O (I64 n)) :
  Calls prog 121 #[v,I n] w (Rh w B v (xs++AB (zig n))):=by
 have q:=J T;clear T;go_enter func121,ntmps121;go_wp2_with fail;rw[XM G.o];refine(Ic B v xs (zig n) w q.o y R (Hi G.o)).mono ?_;rintro e z ⟨v1,rfl,u,F,j⟩;go_wp2;go_ret;exact⟨v1,rfl,u,F,j⟩
theorem Ur(n:Int)(w:World)(G:O (I64 n)) :
  Calls prog 180 #[I n] w λe w'=>e=.returned (.int .u64 (zig n:Int))/\w=w':=by
 by_cases h:n<0
 .go_enter func180,ntmps180;go_wp2;go_ret;exact⟨DQ (YP G.o h),rfl⟩
 .go_enter func180,ntmps180;go_wp2;go_ret;exact⟨DQ (YQ G.o U),rfl⟩
theorem OL(n:Int)(w:World)(G:O (I64 n)) :
  Calls prog 136 #[I n] w (GivesB w (AB (zig n))):=by
 go_enter func136,ntmps136;go_wp2_with fail;refine(Ur n w G).mono ?_;rintro e F ⟨rfl,rfl⟩;go_wp2_with fail;refine(D6 (zig n) w (Hi G.o)).mono ?_;rintro e F ⟨z,D,rfl,j,q,u,y⟩;go_wp2;go_ret;exact⟨z,D,rfl,j,q,u,y⟩
theorem Mr(A:Option Addr)(c:Nat)(bs:List UInt8)(n:Nat)(w:World)(h:Row w A (Aj bs))(R:bs.length<=1000000)(G:O (n<U64)) :
  Calls prog 123 #[.slice A bs.length c,.int .u64 (n:Int)] w (GivesB w (bs++AB n)):=by
 have H:=J h;clear h;go_enter func123,ntmps123;go_wp2_with fail;refine(GR A c bs 10 w H.o U U).mono ?_;rintro e Q ⟨T,W,rfl,z,F,u,j⟩;go_wp2_with fail;refine(Ic w.heap.size _ bs n Q u j.size U G).mono ?_;rintro e X ⟨v2,rfl,y,q,K⟩;go_wp2;go_ret;exact El y (q.below j j.size (λk D=>(u.lt k D).1))
theorem Lv{P:Prop}(h:P:=by
 go_enter func131,ntmps131;go_wp2;go_ret;exact⟨DQ j.o.symm,rfl⟩):P:=h
theorem Ls{P:Prop}(h:P:=by
 go_enter func74,ntmps74;go_wp2;go_ret;exact⟨AC j.o.symm,rfl⟩):P:=h
theorem PJ{P:Prop}(h:P:=by
 go_wp2_with (go_at_call 154;refine(UI _ _ _ _ h G).mono ?_;rintro e w' ⟨rfl,X⟩);go_ret;exact⟨AC j.o.symm,X⟩):P:=h
theorem PZ{P:Prop}(h:P:=by
 go_enter func21,ntmps21;go_wp2;go_ret;exact⟨AC j.o.symm,(Below.refl _ _).alloc (zR _) _⟩):P:=h
theorem PP{P:Prop}(h:P:=by
 go_enter func95,ntmps95;go_wp2;go_ret;exact⟨AC j.o.symm,Still.refl _⟩):P:=h
theorem Qi{P:Prop}(h:P:=by
 go_enter func83,ntmps83;go_wp2;go_ret;exact⟨AC j.o.symm,Still.refl _⟩):P:=h
theorem Dv(n:Int)(w:World) :
  Calls prog 74 #[I n] w λe w'=>e=.returned (.bool (AQ n))/\w=w':=by
 by_cases h1:1<=n
 .by_cases h2:n<=1000
  .have j:O (AQ n=true):=by simp[O,AQ,h1,h2]
   exact Ls
  .have j:O (AQ n=false):=by simp[O,AQ,h2]
   have q:decide (n<=1000)=false:=by simpa using h2
   exact Ls
 .have j:O (AQ n=false):=by simp[O,AQ,h1]
  have q:decide (1<=n)=false:=by simpa using h1
  exact Ls
theorem KS(n:Int)(w:World)(h:AQ n=true):Calls prog 74 #[I n] w λe w'=>e=.returned (.bool true)/\w=w':=by
 rw[<-h];exact Dv n w
theorem YH(n:Int)(w:World)(h:AQ n=false):Calls prog 74 #[I n] w λe w'=>e=.returned (.bool false)/\w=w':=by
 rw[<-h];exact Dv n w
theorem UI(A:Option Addr)(c:Nat)(xs:List Int)(w:World)(h:Row w A (Ai xs))(G:xs.length<=9223372036854775807) :
  Calls prog 154 #[.slice A xs.length c] w λe w'=>e=.returned (.bool (CV 0 xs))/\Still w w':=by
 have H:=J h;clear h;go_enter func154,ntmps154;go_wp2;go_loopw [3] (λi wr=>∃(k:Nat) (last:Int),k<=xs.length/\i=I k/\O ((k=0->last=0)/\(0<k->xs[k - 1]?=some last/\1<=last))/\O (CV last (xs.drop k)=CV 0 xs)/\Still w wr) (λi _=>xs.length - (intOf i).toNat)
 case atStart=>exact⟨0,0,zO _,rfl,⟨λ_=>rfl,λh=>absurd h U⟩,rfl,Still.refl _⟩
 case round=>
  obtain⟨k,last,hk,rfl,HL,X,D⟩:=hrel;by_cases z:k<xs.length
  .obtain⟨b,ae,x,rfl,hc,F⟩:=(D.row H.o).at_ z;by_cases j:AQ x=true
   .have q:1<=x/\x<=1000:=by simpa[AQ] using j
    have Q:=J j;clear j;rcases k with _|k
    .have R:last=0:=HL.o.1 rfl;have aa:=J R;clear R;simp only[Nat.add_zero] at hc;go_wp2;go_quiet ((go_at_call 74;exact IW (KS _ _ Q.o)));go_wp2;go_roundw
     case rel=>exact⟨1,x,U,rfl,⟨λh=>by omega,λ_=>⟨F.o,q.1⟩⟩,by rw[<-KH (last:=last) F.o (by have:=aa.o;omega) q.2];exact X.o,D.drewN _⟩
     case measure=>simp[intOf];omega
    .obtain⟨b',ac,y,ab,ad,HY⟩:=(D.row H.o).at_ (show k<xs.length by omega);cases ab;have K:=HL.o.2 U;simp only[Nat.add_sub_cancel,HY.o,zJ] at K;obtain⟨rfl,K⟩:=K;have e1:((k:Int)+1).toNat=k+1:=U;have e2:(0:Int)<=(k:Int)+1:=U;have e3:(k:Int)+1<xs.length:=U;by_cases T:x<=y
     .go_wp2;go_quiet ((go_at_call 74;exact IW (KS _ _ Q.o)));go_wp2;go_ret;exact⟨AC (by rw[<-X.o,K9 F.o T]),D.drewN _⟩
     .have W:y<x:=U;clear T;go_wp2;go_quiet ((go_at_call 74;exact IW (KS _ _ Q.o)));go_wp2;go_roundw
      case rel=>exact⟨k+2,x,U,by go_num,⟨λh=>by omega,λ_=>⟨F.o,q.1⟩⟩,by rw[<-KH F.o W q.2];exact X.o,D.drewN _⟩
      case measure=>simp[intOf];omega
   .have u:AQ x=false:=by simpa using j
    have Q:=J u;clear u j;have HF:O (CV last (xs.drop k)=false):=by
     have q:x<1\/1000<x:=by have:=Q.o;simp[AQ] at this;omega
     rcases q with q|q
     .have:0<=last:=by
       rcases Nat.eq_zero_or_pos k with h0|h0
       .rw[HL.o.1 h0];omega
       .have:=(HL.o.2 h0).2;omega
      exact K9 F.o U
     .exact Ot F.o q
    go_wp2;go_quiet ((go_at_call 74;exact IW (YH _ _ Q.o)));go_wp2;go_ret;exact⟨AC (by rw[<-X.o,HF.o]),D.drewN _⟩
  .go_wp2;go_ret;exact⟨AC (by rw[<-X.o,Oh z]),D⟩
theorem Mi(A:Option Addr)(c:Nat)(xs:List Int)(w:World)(h:Row w A (Ai xs))(G:xs.length<=9223372036854775807) :
  Calls prog 83 #[.slice A xs.length c] w λe w'=>e=.returned (.bool (Bl xs 16))/\Still w w':=by
 by_cases h1:(1:Int)<=xs.length
 .by_cases h2:(xs.length:Int)<=16
  .have j:=J (Lb h1 h2);go_enter func83,ntmps83;exact PJ
  .have j:=J (Og (xs:=xs) (m:=16) U);exact Qi
 .have j:=J (Nb (xs:=xs) (m:=16) U);exact Qi
theorem MG(A:Option Addr)(c:Nat)(xs:List Int)(w:World)(h:Row w A (Ai xs))(G:xs.length<=9223372036854775807) :
  Calls prog 95 #[.slice A xs.length c] w λe w'=>e=.returned (.bool (Bl xs 32))/\Still w w':=by
 by_cases h1:(1:Int)<=xs.length
 .by_cases h2:(xs.length:Int)<=32
  .have j:=J (Lb h1 h2);go_enter func95,ntmps95;exact PJ
  .have j:=J (Og (xs:=xs) (m:=32) U);exact PP
 .have j:=J (Nb (xs:=xs) (m:=32) U);exact PP
theorem Up(A:Option Addr)(c:Nat)(xs:List Int)(id:Int)(w:World)(h:Row w A (Ai xs))(G:xs.length<=9223372036854775807) :
  Calls prog 168 #[.slice A xs.length c,I id] w λe w'=>e=.returned (I (Gz xs id))/\w=w':=by
 have H:=J h;clear h;go_enter func168,ntmps168;go_wp2;go_loop [5] (λi=>∃k:Nat,k<=xs.length/\i=I k/\O (find id (xs.drop k) k=Gz xs id)) (λi=>xs.length - (intOf i).toNat)
 case atStart=>exact⟨0,zO _,rfl,rfl⟩
 case round=>
  obtain⟨k,K,rfl,X⟩:=hrel;by_cases z:k<xs.length
  .obtain⟨b,D,x,rfl,F,u⟩:=H.o.at_ z;by_cases q:x=id
   .have y:(x == id)=true:=by simp[q]
    have j:=J q;clear q;go_wp2;go_ret;exact⟨DQ (by rw[<-X.o,OQ u.o j.o]),rfl⟩
   .have y:(x == id)=false:=by simp[q]
    have j:=J q;clear q;go_wp2;go_round
    case rel=>exact⟨k+1,U,by go_num,by rw[<-N0 u.o j.o];exact X.o⟩
    case measure=>simp[intOf];omega
  .go_wp2;go_ret;exact⟨DQ (by rw[<-X.o,Pg z]),rfl⟩
theorem De(A:Option Addr)(c:Nat)(xs:List Int)(id:Int)(w:World)(h:Row w A (Ai xs))(G:xs.length<=9223372036854775807) :
  Calls prog 116 #[.slice A xs.length c,I id] w λe w'=>e=.returned (.bool (AG xs id))/\w=w':=by
 go_enter func116,ntmps116;go_wp2_with (go_at_call 168;refine(Up _ _ _ _ _ h G).mono ?_;rintro e w' ⟨rfl,rfl⟩);go_ret;exact⟨rfl,rfl⟩
theorem IS(n:Int)(w:World) :
  Calls prog 131 #[I n] w λe w'=>e=.returned (I (Bs n))/\w=w':=by
 by_cases h1:1<=n
 .by_cases h2:n<=16
  .have j:O (Bs n=n / 2+1):=if_pos ⟨h1,h2⟩;exact Lv
  .have j:O (Bs n=0):=if_neg U;exact Lv
 .have j:O (Bs n=0):=if_neg U;exact Lv
theorem GT(q:Int)(A:Option Addr)(c:Nat)(xs:List Int)(w:World)(h:Row w A (Ai xs))(G:xs.length<=9223372036854775807) :
  Calls prog 21 #[.agg #[I q,.slice A xs.length c]] w λe w'=>e=.returned (.bool (AK q xs))/\V w w':=by
 by_cases h1:0<=q
 .by_cases h2:q<=1099511627776
  .have j:=J (Kl (xs:=xs) h1 h2);have H:=J h;clear h;go_enter func21,ntmps21;go_wp2_with (go_at_call 83;refine(Mi _ _ _ _ (H.o.ext ((Below.refl _ _).alloc (zR _) _)) G).mono ?_;rintro e w' ⟨rfl,X⟩);go_ret;exact⟨AC j.o.symm,V.trans ((Below.refl _ _).alloc (zR _) _) X.ext⟩
  .have j:=J (Nr (n:=q) (xs:=xs) U);exact PZ
 .have j:=J (Nm (n:=q) (xs:=xs) U);exact PZ
theorem GW(A W:Option Addr)(c c':Nat)(xs ys:List Int)(b:Bool)(w:World)(h:Row w A (Ai xs))(h':Row w W (Ai ys))(G:xs.length<=1000000)(j:ys.length<=9223372036854775807) :
  Calls prog 162 #[.slice A xs.length c,.slice W ys.length c',.bool b] w (GivesI w (Bg xs ys b)):=by
 have H:=J h;clear h;have H':=J h';clear h';go_enter func162,ntmps162;go_wp2;go_loopw [7,8] (λv i wr=>∃k:Nat,k<=xs.length/\i=I k/\Own wr w.heap.size 3 v (Ai (filt (λx=>AG ys x == b) xs k))/\V w wr) (λ_ i _=>xs.length - (intOf i).toNat)
 case atStart=>exact⟨0,zO _,rfl,Own.nil _ _ _,Below.refl _ _⟩
 case round=>
  obtain⟨k,hk,rfl,T,D⟩:=hrel;by_cases z:k<xs.length
  .obtain⟨bk,ac,x,rfl,hc,X⟩:=(H.o.ext D).at_ z;have y:=H'.o.e D;have aa:=K1 (λx=>AG ys x == b) xs k;by_cases Q:(AG ys x == b)=true
   .go_wp2_with (first
     | (go_at_call 116;refine(De _ _ _ _ _ y.o j).mono ?_;rintro e w' ⟨rfl,rfl⟩)
     | (at_builtin;refine DD rfl _ _ rfl wr w.heap.size _ (filt (λx=>AG ys x == b) xs k) zi x zi T U D.size ?_;intro v' w1 u F ab))
    go_roundw
    case rel=>exact⟨k+1,U,by go_num,by rw[Lf X.o Q];exact u,F.below D D.size (λq K=>(T.lt q K).1)⟩
    case measure=>simp[intOf];omega
   .have R:(AG ys x == b)=false:=by simpa using Q
    clear Q;go_wp2_with (first
     | (go_at_call 116;refine(De _ _ _ _ _ y.o j).mono ?_;rintro e w' ⟨rfl,rfl⟩))
    go_roundw
    case rel=>exact⟨k+1,U,by go_num,by rw[Lc X.o R];exact T,D⟩
    case measure=>simp[intOf];omega
  .go_wp2;go_ret;exact DO (by rw[KI z] at T;exact T) D
theorem MI(A:Option Addr)(c:Nat)(xs:List Int)(id:Int)(w:World)(h:Row w A (Ai xs))(G:xs.length<=100000) :
  Calls prog 98 #[.slice A xs.length c,I id] w (GivesI w (EH xs id)):=by
 have H:=J h;clear h;go_enter func98,ntmps98;go_wp2;go_loopw [5,6,7] (λv p i wr=>∃(k:Nat) (Q:Bool),k<=xs.length/\p=.bool Q/\i=I k/\O ((BS id xs k).2=Q)/\Own wr w.heap.size 3 v (Ai (BS id xs k).1)/\V w wr) (λ_ _ i _=>xs.length - (intOf i).toNat)
 case atStart=>exact⟨0,false,zO _,rfl,rfl,rfl,Own.nil _ _ _,Below.refl _ _⟩
 case round=>
  obtain⟨k,Q,hk,rfl,rfl,HP,T,D⟩:=hrel;have ac:=V9 id xs k;by_cases z:k<xs.length
  .obtain⟨bk,ae,x,rfl,hc,HX⟩:=(H.o.ext D).at_ z;cases Q with
   | false=>
    by_cases hp:id<x
    .go_wp2_with (first
      | (at_builtin;refine DD rfl (.tmp 24) (.tmp 26) rfl wr w.heap.size _ (BS id xs k).1 zi id zi T U D.size ?_;intro v1 w1 u F ad;have W:=F.below D D.size (λq K=>(T.lt q K).1);have ab:=(H.o.ext W).cell HX.o)
      | (at_builtin;refine DD rfl (.tmp 28) (.tmp 33) rfl w1 w.heap.size _ ((BS id xs k).1++[id]) zi x zi u zm W.size ?_;intro v2 w2 y j X))
     have R:=VH HX.o HP.o hp;go_roundw
     case rel=>exact⟨k+1,true,U,rfl,by go_num,R.2,by rw[R.1];exact y,j.below W W.size (λq K=>(u.lt q K).1)⟩
     case measure=>simp[intOf];omega
    .have aa:x<=id:=U;clear hp;go_wp2_with (first
      | (at_builtin;refine DD rfl (.tmp 28) (.tmp 33) rfl wr w.heap.size _ (BS id xs k).1 zi x zi T U D.size ?_;intro v2 w2 y j X))
     have R:=Vc HX.o HP.o aa;go_roundw
     case rel=>exact⟨k+1,false,U,rfl,by go_num,R.2,by rw[R.1];exact y,j.below D D.size (λq K=>(T.lt q K).1)⟩
     case measure=>simp[intOf];omega
   | true=>
    go_wp2_with (first
     | (at_builtin;refine DD rfl (.tmp 28) (.tmp 33) rfl wr w.heap.size _ (BS id xs k).1 zi x zi T U D.size ?_;intro v2 w2 y j X))
    have R:=Xv HX.o HP.o;go_roundw
    case rel=>exact⟨k+1,true,U,rfl,by go_num,R.2,by rw[R.1];exact y,j.below D D.size (λq K=>(T.lt q K).1)⟩
    case measure=>simp[intOf];omega
  .cases Q with
   | false=>
    go_wp2_with (first
     | (at_builtin;refine DD rfl (.tmp 37) (.tmp 39) rfl wr w.heap.size _ (BS id xs k).1 zi id zi T U D.size ?_;intro v2 w2 y j X))
    go_ret;exact DO (by rw[UQ z hk HP.o];exact y) (j.below D D.size (λq K=>(T.lt q K).1))
   | true=>
    go_wp2;go_ret;exact DO (by rw[Tc z hk HP.o];exact T) D
end Go.Proofs.YtponbabbabnaeaaGreat
