/- Part 5: contracts of functions. Conditions: as each theorem says. -/
import Derived.Deep.DeepCutAuto
import Derived.Deep.CutBlock
import Derived.Test.YtponbabbabnaeaaGreatQh04
set_option maxRecDepth 100000
set_option maxHeartbeats 40000000
set_option linter.unusedVariables false
namespace Go.Proofs.YtponbabbabnaeaaGreat
open Tryz
open Go.RowKit
def PM(w:World)(r:Option Vw)(en:Ending)(w':World):Prop:=
 ∃A c,en=.returned (.tuple #[.agg #[I (r.getD (0,[])).1,.slice A (r.getD (0,[])).2.length c],.bool r.isSome])/\(r.getD (0,[])).2.length<=c/\c<=maxLen/\O (Row w' A (Ai (r.getD (0,[])).2))/\V w w'
theorem Qd{l:List Vw}{k:Nat}{v:Vw}{n:Int}(h:l[k]?=some v)(j:(v.1 == n)=false)(q:Br (l.take k) n=none):Br (l.take (k+1)) n=none:=by
 unfold Br at *;rw[Cz h,List.find?_append,q];simp[j]
theorem OJ{l:List Vw}{k:Nat}{v:Vw}{n:Int}(h:l[k]?=some v)(q:(v.1 == n)=true)(j:Br (l.take k) n=none):Br l n=some v:=by
 unfold Br at *;have u:=(zZ h).1;rw[<-List.take_append_drop (k+1) l,Cz h,List.append_assoc,List.find?_append,j,List.find?_append];simp[q]
theorem Ow{l:List Vw}{k:Nat}{n:Int}(h:¬k<l.length)(j:Br (l.take k) n=none):Br l n=none:=by rwa [List.take_of_length_le U] at j
theorem NP(A:Option Addr)(c:Nat)(l:List VwM)(n:Int)(w:World)(h:AL.Box w A l)(hn:l.length<=1000000000) :
  Calls prog 90 #[.slice A l.length c,I n] w (PM w (Br (vws l) n)):=by
 have G:=J (V.new w (.cells #[I 0,Zq] 46));have H:=J h;clear h;go_enter func90,ntmps90;go_wp2;go_loopw [10] (λi wr=>∃k:Nat,k<=l.length/\i=I k/\O (Br ((vws l).take k) n=none)/\V (w.alloc (.cells #[I 0,Zq] 46)) wr) (λi _=>l.length - (intOf i).toNat)
 case atStart=>exact⟨0,zO _,rfl,J rfl,V.refl _⟩
 case round=>
  obtain⟨k,hk,rfl,K,u⟩:=hrel;have j:=J u;clear u;have q0:wr.cell? (Y w 0)=some (I 0):=by simpa using j.o.cell_new 0
  have q1:wr.cell? (Y w 1)=some Zq:=by simpa using j.o.cell_new 1
  have f0:wr.frozen? (Y w 0)=false:=j.o.frozen_new 0;have f1:wr.frozen? (Y w 1)=false:=j.o.frozen_new 1;have z1:w.heap.size<wr.heap.size:=by have:=j.o.size;simp at this;omega
  by_cases D:k<l.length
  .obtain⟨b,F,m,X,y,xs,rfl,z,d0,d1,HR,Q,R,T⟩:=DK H.o D;have hb:b<wr.heap.size:=U;have c0:wr.cell? (Z b (F+k*2))=some (I m):=by rw[(G.o.trans j.o).cell (by exact z)];exact d0
   have c1:wr.cell? (Z b (F+k*2+1))=some (.slice X xs.length y):=by rw[(G.o.trans j.o).cell (by exact z)];exact d1
   clear d0 d1;cases he:m == n
   .have q:=J he;go_wp2;go_roundw
    case rel=>exact⟨k+1,U,by go_num,J (Qd (Dw T.o) q.o K.o),j.o.alloc _⟩
    case measure=>simp[intOf];omega
   .have q:=J (OJ (Dw T.o) he K.o);have W:=J ((((G.o.trans j.o).set (p:=(Y w 0)) zj (I m)).set (p:=(Y w 1)) zj (.slice X xs.length y)).alloc (.cells #[I m,.slice X xs.length y] 46));have z2:w.heap.size≠wr.heap.size:=U;go_wp2;refine bodyPost_ret (v:=.tuple #[.agg #[I m,.slice X xs.length y],.bool true]) (by simp[results,results90,go_sem,q0,q1,z1]) rfl ?_;rw[q.o];exact⟨X,y,rfl,Q,R,HR.o.e W.o,W.o⟩
  .have q:=J (Ow (l:=vws l) (by rw[AW];exact D) K.o);go_wp2;refine bodyPost_ret (v:=.tuple #[.agg #[I 0,Zq],.bool false]) (by simp[results,results90,go_sem,q0,q1]) rfl ?_;rw[q.o];exact⟨none,0,rfl,zR _,zO _,J (Row.nil _ _),((G.o.trans j.o).set zj _).set zj _⟩
theorem SM(n:Int)(A:Option Addr)(c:Nat)(xs:List Int)(w:World)(h:Row w A (Ai xs))(K:xs.length<=9223372036854775807) :
  Calls prog 51 #[.agg #[I n,.slice A xs.length c]] w λe w'=>e=.returned (I (AZ (n,xs)))/\V w w':=by
 have q:=J (V.new w (.cells #[I n,.slice A xs.length c] 46));have F:=J (h.ext q.o);clear h;go_enter func51,ntmps51;go_wp2_with fail;refine(Ge n A c xs _ F.o K).mono ?_;cases hv:AK n xs
 .have u:=J hv;clear hv;rintro e G ⟨rfl,j⟩;have z:=q.o.t j;clear j;go_wp2;go_ret;exact⟨DQ (by simp[AZ,u.o]),z.o⟩
 .have u:=J hv;have Q:=Dk hv;clear hv;rintro e G ⟨rfl,j⟩;have z:=q.o.t j;have X:G.cell? (Y w 1)=some (.slice A xs.length c):=by simpa using j.cell_new 1
  obtain⟨b,R,x,rfl,D,y⟩:=(F.o.ext j).at_ (show 0<xs.length by omega);simp only[Nat.add_zero] at D;have T:0<xs.length:=U;have W:(0:Int)<(xs.length:Int):=U;clear j;go_wp2;go_ret;exact⟨DQ (by simp[AZ,u.o,y.o]),z.o⟩
theorem YW{l:List Ent}{b:Int}(h:b = -1):Bi l b=decide (l.length=0):=by simp[Bi,h]
theorem Yk{l:List Ent}{b:Int}(h:b≠-1):Bi l b=(decide (0<l.length)&&(Bc l&&decide (CK l=b))):=by simp[Bi,h]
theorem Jo{l:List Ent}{j:Nat}{e:Ent}(q:l.length=j+1)(h:l[j]?=some e):CK l=e.v:=by
 unfold CK;rw[q,Nat.add_sub_cancel,h]
theorem Gc(A:Option Addr)(c:Nat)(l:List Ent)(base:Int)(w:World)(h:Row w A (Aa.cells l))(hn:l.length<=1000000000)(T:∀e∈l,e.p.length<=1000000) :
  Calls prog 89 #[.slice A l.length c,I base] w λe w'=>e=.returned (.bool (Bi l base))/\V w w':=by
 have H:=J h;have D:=J T;clear h T;by_cases y:base = -1
 .have z:=J y;subst y;go_enter func89,ntmps89;go_wp2;go_ret;exact⟨AC (by rw[YW rfl,Bool.eq_iff_iff];simp),V.refl _⟩
 .have z:=J (Yk (l:=l) y);have aa:(base == -1)=false:=beq_eq_false_iff_ne.2 y;clear y;by_cases W:l.length=0
  .have Q:decide ((0:Int)<(l.length:Int))=false:=decide_eq_false U;have u:decide (0<l.length)=false:=decide_eq_false U;have G:=J u;clear W;go_enter func89,ntmps89;go_wp2;go_ret;exact⟨AC (by rw[z.o,G.o];rfl),V.refl _⟩
  .obtain⟨j,R⟩:∃j,l.length=j+1:=⟨l.length - 1,U⟩;have Q:decide ((0:Int)<(l.length:Int))=true:=decide_eq_true U;have u:decide (0<l.length)=true:=decide_eq_true U;have G:=J u;have ab:IntKind.i64.wrap ((l.length:Int) - 1)=(j:Int):=by rw[IntWalk.i64_in _ U];omega
   have k1:(0:Int)<=(j:Int):=U;have k2:(j:Int)<(l.length:Int):=U;have k3:j<l.length:=U;have X:=J R;clear W R;go_enter func89,ntmps89;go_wp2_with fail;refine(IR A c l _ H.o hn D.o).mono ?_;cases hv:Bc l
   .have F:=J hv;clear hv;rintro r w1 ⟨rfl,q⟩;have K:=J q;clear q;go_wp2;go_ret;exact⟨AC (by rw[z.o,F.o];simp),K.o⟩
   .have F:=J hv;clear hv;rintro r w1 ⟨rfl,q⟩;have K:=J q;obtain⟨b,ac,e,rfl,y,c0,c1,c2,c3,HX⟩:=C9 (H.o.ext q) k3;have HL:=J (Jo X.o HX.o);clear q;go_wp2;go_ret;exact⟨AC (by rw[z.o,F.o,G.o,HL.o,Bool.eq_iff_iff];simp),K.o⟩
def CD(a b:List Ent):Bool:=decide (a=b)
theorem Lt(a b:Ent)(w:World):(binOp .neq 66 (CL a) (CL b)).run prog w=.ok (.bool (!decide (a=b))) w:=by
 obtain⟨a1,a2,a3,a4⟩:=a;obtain⟨y,z,D,F⟩:=b;unfold CL;simp only[Ent.mk.injEq];by_cases h:a1=y
 .by_cases j:a2=z
  .by_cases q:a3=D
   .by_cases u:a4=F
    .simp[go_sem,h,j,q,u]
    .simp[go_sem,h,j,q,u,E8]
   .simp[go_sem,h,j,q]
  .simp[go_sem,h,j]
 .simp[go_sem,h]
theorem Qa{xs ys:List Ent}{k:Nat}{x y:Ent}(q:xs[k]?=some x)(hy:ys[k]?=some y)(j:x=y)(h:xs.take k=ys.take k):xs.take (k+1)=ys.take (k+1):=by
 rw[Cz q,Cz hy,h,j]
theorem Qz{xs ys:List Ent}{k:Nat}(j:¬k<xs.length)(q:xs.length=ys.length)(h:xs.take k=ys.take k):CD xs ys=true:=by
 rw[List.take_of_length_le U,List.take_of_length_le U] at h;exact decide_eq_true h
theorem PE{xs ys:List Ent}{k:Nat}{x y:Ent}(q:xs[k]?=some x)(hy:ys[k]?=some y)(j:¬x=y):CD xs ys=false:=
 decide_eq_false λh=>by subst h;rw[q] at hy;exact j (Option.some.inj hy)
theorem Nc(A G:Option Addr)(c c':Nat)(xs ys:List Ent)(w:World)(h:Row w A (Aa.cells xs))(T:Row w G (Aa.cells ys))(hn:xs.length<=1000000000) :
  Calls prog 179 #[.slice A xs.length c,.slice G ys.length c'] w λe w'=>e=.returned (.bool (CD xs ys))/\Still w w':=by
 have H:=J h;have X:=J T;clear h T;by_cases z:xs.length=ys.length
 .have HL:=J z;have hb:((xs.length:Int) != (ys.length:Int))=false:=by simp[z]
  have ad:ys.length<=xs.length:=U;have ac:xs.length<=ys.length:=U;clear z;go_enter func179,ntmps179;go_wp2;go_loopw [5,13] (λ_ i wr=>∃k:Nat,k<=xs.length/\i=I k/\O (xs.take k=ys.take k)/\Still w wr) (λ_ i _=>xs.length - (intOf i).toNat)
  case atStart=>exact⟨0,zO _,rfl,J rfl,Still.refl _⟩
  case round=>
   obtain⟨k,hk,rfl,K,u⟩:=hrel;by_cases D:k<xs.length
   .obtain⟨b,ae,x,rfl,aa,c0,c1,c2,c3,Q⟩:=C9 (u.row H.o) D;obtain⟨b',W,y,rfl,ab,d0,d1,d2,d3,R⟩:=C9 (u.row X.o) (show k<ys.length by omega);have F:=Lt x y;unfold CL at F;by_cases j:x=y
    .have q:=J j;rw[decide_eq_true j] at F;clear j;go_wp2;go_quiet (fail);go_wp2;go_roundw
     case rel=>exact⟨k+1,U,by go_num,J (Qa Q.o R.o q.o K.o),u.drewN _⟩
     case measure=>simp[intOf];omega
    .have q:=J j;rw[decide_eq_false j] at F;clear j;go_wp2;go_quiet (fail);go_wp2;go_ret;exact⟨AC (PE Q.o R.o q.o).symm,u.drewN _⟩
   .go_wp2;go_ret;exact⟨AC (Qz D HL.o K.o).symm,u⟩
 .have q:O (CD xs ys=false):=J (decide_eq_false λe=>z (by rw[e]));have hb:((xs.length:Int) != (ys.length:Int))=true:=zm;clear z;go_enter func179,ntmps179;go_wp2;go_ret;exact⟨AC q.o.symm,Still.refl _⟩
theorem Qx{w w':World}{a b c d:Value}{t q:TypeId}(h:V ((w.alloc (.cells #[a,b] t)).alloc (.cells #[c,d] q)) w') :
  w'.cell? (Z w.heap.size 0)=some a/\w'.cell? (Z w.heap.size 1)=some b/\w'.cell? (Z (w.heap.size+1) 0)=some c/\w'.cell? (Z (w.heap.size+1) 1)=some d/\w.heap.size+1<w'.heap.size:=by
 have j:V (w.alloc (.cells #[a,b] t)) w':=(V.new _ _).trans h;have e:(w.alloc (.cells #[a,b] t)).heap.size=w.heap.size+1:=zj;refine⟨by simpa using j.cell_new 0,by simpa using j.cell_new 1,?_,?_,?_⟩
 .have:=h.cell_new 0;rw[e] at this;simpa using this
 .have:=h.cell_new 1;rw[e] at this;simpa using this
 .have:=h.size;simp at this;omega
theorem FF{w:World}{p q:Addr}{u v:Value}(h:w.cell? q=some v)(j:q.block≠p.block):(w.setCell p u).cell? q=some v:=(World.cell?_of_block (Below.heap_setCell _ _ _ _ j)).trans h
theorem qf{w v1:World}{q u:Obj}{a b:Value}{t:TypeId}(h:V ((((w.alloc q).alloc u).alloc (.cells #[a,b] t)).drew) v1) :
  v1.cell? (Z (w.heap.size+1+1) 0)=some a/\v1.cell? (Z (w.heap.size+1+1) 1)=some b/\v1.frozen? (Z (w.heap.size+1+1) 0)=false/\v1.frozen? (Z (w.heap.size+1+1) 1)=false:=by
 have j:V (((w.alloc q).alloc u).alloc (.cells #[a,b] t)) v1:=V.trans (V.drew (V.refl _)) h;have e:((w.alloc q).alloc u).heap.size=w.heap.size+1+1:=zj;have a0:=j.cell_new 0;have a1:=j.cell_new 1;have a2:=j.frozen_new 0;have a3:=j.frozen_new 1;rw[e] at a0 a1 a2 a3;exact⟨by simpa using a0,by simpa using a1,a2,a3⟩
theorem Vi(n m:Int)(xs ys:List Int){r:Int×List Int×Int}(h:CW n xs (Ed n xs m ys)=r):CT (n,xs) (m,ys)=(decide (r.2.2=0)&&(decide (r.1=m)&&EK r.2.1 ys)):=by
 unfold CT;simp only[h];obtain⟨a,b,c⟩:=r;rw[Bool.eq_iff_iff];simp only[Prod.mk.injEq,zE,zB,EK];exact⟨λ⟨h1,h2,h3⟩=>⟨h3,h1,h2⟩,λ⟨h1,h2,h3⟩=>⟨h2,h3,h1⟩⟩
theorem SN(n m:Int)(A B:Option Addr)(c d:Nat)(xs ys:List Int)(w:World)(hx:Row w A (Ai xs))(hy:Row w B (Ai ys))(hn:xs.length<=1000000)(hm:ys.length<=1000000) :
  Calls prog 159 #[.agg #[I n,.slice A xs.length c],.agg #[I m,.slice B ys.length d]] w λe w'=>e=.returned (.bool (CT (n,xs) (m,ys)))/\V w w':=by
 have z:=J ((V.new w (.cells #[I n,.slice A xs.length c] 46)).alloc (.cells #[I m,.slice B ys.length d] 46));have af:xs.length<=9223372036854775807:=U;have ao:ys.length<=9223372036854775807:=U;obtain⟨dl,D⟩:∃l,Ed n xs m ys=l:=⟨_,rfl⟩;have an:dl.length<=9223372036854775807:=by
  rw[<-D];unfold Ed;split
  .rw[Nt];have:=FI xs ys false;have:=FI ys xs false;omega
  .simp
 obtain⟨⟨W,R,er⟩,hr⟩:∃r,CW n xs dl=r:=⟨_,rfl⟩;have HF:=J (Vi n m xs ys (r:=(W,R,er)) (by rw[D];exact hr));have HD:=J D;have HN:=J hr;clear D hr;simp only at HF;have ac:=J (hx.ext z.o.drew);have al:=J (hy.ext z.o.drew);have ad:=J (hx.ext ((z.o.alloc (.cells #[I 0,Zq] 46)).drew));have am:=J (hy.ext ((z.o.alloc (.cells #[I 0,Zq] 46)).drew));have HX:=J (hx.ext z.o);have HY:=J (hy.ext z.o);clear hx hy;go_enter func159,ntmps159;go_upto_region 1 with fail;go_cut [5,6] (λs5 s6 wx=>∃p X T,s5=.pointer (some (Z p 0))/\s6=I er/\wx.cell? (Z p 0)=some (I W)/\wx.cell? (Z p 1)=some (.slice X R.length T)/\R.length<=T/\T<=maxLen/\O (Row wx X (Ai R))/\V ((w.alloc (.cells #[I n,.slice A xs.length c] 46)).alloc (.cells #[I m,.slice B ys.length d] 46)) wx)
 case first=>
  go_region_held3 (λw'=>w'.cell? (Y w 0)=some (I n)/\w'.cell? (Y w 1)=some (.slice A xs.length c)/\w'.cell? (Pv w 0)=some (I m)/\w'.cell? (Pv w 1)=some (.slice B ys.length d))
   (first|exact⟨r0,r1,r2,r3⟩|exact⟨t0,t1,t2,t3⟩|exact⟨FF (FF t0 (by simp only;omega)) (by simp only;omega),FF (FF t1 (by simp only;omega)) (by simp only;omega),FF (FF t2 (by simp only;omega)) (by simp only;omega),FF (FF t3 (by simp only;omega)) (by simp only;omega)⟩|(go_keep;done))
   (first
    | (go_at_call 195;(with_reducible refine(Xy n m A B c d xs ys _ (by first|exact ac.o|exact ad.o) (by first|exact al.o|exact am.o) af ao).mono ?_);rw[HD.o];rintro e v1 ⟨X,T,rfl,ap,aq,ag,y⟩;have ab:=J ag.row;have aj:=ab.o.e (V.new _ (.cells #[.int .i64 0,.slice none 0 0] 46));(first|have X1:O (V ((w.alloc (.cells #[.int .i64 n,.slice A xs.length c] 46)).alloc (.cells #[.int .i64 m,.slice B ys.length d] 46)) v1):=J (V.trans (V.drew (V.refl _)) y)|have X1:O (V ((w.alloc (.cells #[.int .i64 n,.slice A xs.length c] 46)).alloc (.cells #[.int .i64 m,.slice B ys.length d] 46)) v1):=J (V.trans (V.drew (V.new _ (.cells #[.int .i64 0,.slice none 0 0] 46))) y));have ae:=J (Row.ext (by first|exact ac.o|exact ad.o) y);have ak:=ae.o.e (V.new _ (.cells #[.int .i64 0,.slice none 0 0] 46));obtain⟨r0,r1,r2,r3,y1⟩:=Qx X1.o;clear ag)
    | (go_at_call 194;(with_reducible refine(Xe n A X c T xs dl _ (by first|exact ae.o|exact ak.o) (by first|exact ab.o|exact aj.o) af an).mono ?_);rw[HN.o];rintro e v2 ⟨A2,c2,rfl,G,K,ah,j⟩;have u:=J ah;have t0:v2.cell? ⟨w.heap.size,0,none⟩=some (.int .i64 n):=(by rw[j.cell (by first|exact(show w.heap.size<v1.heap.size by omega)|(simp;omega))];first|exact r0|(rw[(V.new v1 _).cell (by exact(show w.heap.size<v1.heap.size by omega))];exact r0));have t1:v2.cell? ⟨w.heap.size,1,none⟩=some (.slice A xs.length c):=(by rw[j.cell (by first|exact(show w.heap.size<v1.heap.size by omega)|(simp;omega))];first|exact r1|(rw[(V.new v1 _).cell (by exact(show w.heap.size<v1.heap.size by omega))];exact r1));have t2:v2.cell? ⟨w.heap.size+1,0,none⟩=some (.int .i64 m):=(by rw[j.cell (by first|exact(show w.heap.size+1<v1.heap.size by omega)|(simp;omega))];first|exact r2|(rw[(V.new v1 _).cell (by exact(show w.heap.size+1<v1.heap.size by omega))];exact r2));have t3:v2.cell? ⟨w.heap.size+1,1,none⟩=some (.slice B ys.length d):=(by rw[j.cell (by first|exact(show w.heap.size+1<v1.heap.size by omega)|(simp;omega))];first|exact r3|(rw[(V.new v1 _).cell (by exact(show w.heap.size+1<v1.heap.size by omega))];exact r3));have y2:w.heap.size+1<v2.heap.size:=(by have:=j.size;first|omega|(simp at this;omega));(first|(have k0:v2.cell? ⟨v1.heap.size,0,none⟩=some (.int .i64 0):=(by rw[j.cell zj];simp);have k1:v2.cell? ⟨v1.heap.size,1,none⟩=some (.slice none 0 0):=(by rw[j.cell zj];simp);have f0:v2.frozen? ⟨v1.heap.size,0,none⟩=false:=(by rw[j.frozen zj];simp);have f1:v2.frozen? ⟨v1.heap.size,1,none⟩=false:=(by rw[j.frozen zj];simp);have n1:w.heap.size≠v1.heap.size:=(by omega);have n2:w.heap.size+1≠v1.heap.size:=(by omega))|(have y3:w.heap.size+2<v1.heap.size:=(by have:=y.size;simp at this;omega);have g1:=J (qf y);have k0:v2.cell? ⟨w.heap.size+1+1,0,none⟩=some (.int .i64 0):=(by rw[j.cell (by exact y3)];exact g1.o.1);have k1:v2.cell? ⟨w.heap.size+1+1,1,none⟩=some (.slice none 0 0):=(by rw[j.cell (by exact y3)];exact g1.o.2.1);have f0:v2.frozen? ⟨w.heap.size+1+1,0,none⟩=false:=(by rw[j.frozen (by exact y3)];exact g1.o.2.2.1);have f1:v2.frozen? ⟨w.heap.size+1+1,1,none⟩=false:=(by rw[j.frozen (by exact y3)];exact g1.o.2.2.2))|skip);clear ah))
  .have X2:=X1.o.t j;go_wp2;go_meet
   case rel=>exact⟨v2.heap.size,A2,c2,rfl,rfl,zj,zj,G,K,J (u.o.row.ext (V.new _ _)),X2.o.alloc _⟩
  .have X2:=X1.o.t ((V.new _ _).trans j);have F:=J ((u.o.set (p:=(Y v1 0)) (λq Q=>by have:=(u.o.lt q Q).1;simp at this;simp only;omega) (I W)).set (p:=(Y v1 1)) (λq Q=>by have:=(u.o.lt q Q).1;simp at this;simp only;omega) (.slice A2 R.length c2));go_wp2;go_meet
   case rel=>exact⟨v1.heap.size,A2,c2,rfl,rfl,by simp[go_sem,k0],by simp[go_sem,k1],G,K,J F.o.row,(X2.o.set zm _).set zm _⟩
  .have X2:=X1.o.t j;have F:=J ((u.o.set (p:=(Z (w.heap.size+1+1) 0)) (λq Q=>by have:=(u.o.lt q Q).1;simp only;omega) (I W)).set (p:=(Z (w.heap.size+1+1) 1)) (λq Q=>by have:=(u.o.lt q Q).1;simp only;omega) (.slice A2 R.length c2));go_wp2;go_meet
   case rel=>exact⟨w.heap.size+1+1,A2,c2,rfl,rfl,by simp[go_sem,k0],by simp[go_sem,k1],G,K,J F.o.row,(X2.o.set zj _).set zj _⟩
 case rest=>
  obtain⟨p,X,T,rfl,rfl,s0,s1,h1,h2,HR,aa⟩:=hcut;have HS:=J aa;clear aa;obtain⟨r0,r1,r2,r3,y1⟩:=Qx HS.o;by_cases he:er=0;rotate_left
  .have ar:(er == 0)=false:=beq_eq_false_iff_ne.2 he;have HE:=J he;clear he;go_wp2;go_ret;exact⟨AC (by rw[HF.o,decide_eq_false HE.o];rfl),z.o.trans HS.o⟩
  subst he;by_cases hv:W=m;rotate_left
  .have au:(W == m)=false:=beq_eq_false_iff_ne.2 hv;have HE:=J hv;clear hv;go_wp2;go_ret;exact⟨AC (by rw[HF.o,decide_eq_false HE.o];rfl),z.o.trans HS.o⟩
  subst hv;go_wp2_with fail;refine(VA _ _ _ _ R ys _ HR.o (HY.o.ext HS.o) (by unfold maxLen at h2;omega)).mono ?_;rintro e w4 ⟨rfl,ai⟩;have X4:=HS.o.t ai.ext;clear ai;go_wp2;go_ret;exact⟨AC (by rw[HF.o];simp),z.o.trans X4.o⟩
theorem Fb{l:List Vw}{i:Nat}{v:Vw}(h:l[i]?=some v):Bu l i=v:=by unfold Bu;rw[h];rfl
theorem OG{l:List Vw}(h:¬1<=l.length):Bv l=false:=by unfold Bv;rw[decide_eq_false h];rfl
theorem Qh{l:List Vw}(h:¬l.length<=2000):Bv l=false:=by unfold Bv;rw[decide_eq_false h];simp
theorem WG{l:List Vw}{v:Vw}(h:l[0]?=some v)(j:AK v.1 v.2=false):Bv l=false:=by unfold Bv;rw[Fb h,j];simp
theorem ql{l:List Vw}{k:Nat}{a b:Vw}(j:l[k]?=some a)(h:l[k+1]?=some b)(q:CT a b=false):Bv l=false:=by
 have u:=(zZ h).1;unfold Bv;rw[show ((List.range (l.length - 1)).all λi=>CT (Bu l i) (Bu l (i+1)))=false from by
  rw[List.all_eq_false];exact⟨k,List.mem_range.2 U,by rw[Fb j,Fb h,q];simp⟩]
 simp
theorem ZL{l:List Vw}{v:Vw}(q:1<=l.length)(u:l.length<=2000)(h:l[0]?=some v)(D:AK v.1 v.2=true)(y:∀j,j<l.length - 1->CT (Bu l j) (Bu l (j+1))=true):Bv l=true:=by
 unfold Bv;rw[decide_eq_true q,decide_eq_true u,Fb h,D,show ((List.range (l.length - 1)).all λi=>CT (Bu l i) (Bu l (i+1)))=true from by
  rw[List.all_eq_true];exact λi z=>y i (List.mem_range.1 z)];rfl
theorem ZB{l:List Vw}{k:Nat}{a b:Vw}(q:l[k]?=some a)(u:l[k+1]?=some b)(y:CT a b=true)(h:∀j,j<k->CT (Bu l j) (Bu l (j+1))=true):∀j,j<k+1->CT (Bu l j) (Bu l (j+1))=true:=by
 intro j z;rcases Nat.lt_or_ge j k with h1|h1
 .exact h j h1
 .rw[show j=k by omega,Fb q,Fb u];exact y
theorem MX(n m:Int)(A B:Option Addr)(c d:Nat)(xs ys:List Int)(w:World)(u:Row w A (Ai xs))(hy:Row w B (Ai ys))(j:xs.length<=1000000)(h:ys.length<=1000000)(r:Bool)(q:CT (n,xs) (m,ys)=r) :
  Calls prog 159 #[.agg #[I n,.slice A xs.length c],.agg #[I m,.slice B ys.length d]] w λe w'=>e=.returned (.bool r)/\V w w':=by
 subst q;exact SN n m A B c d xs ys w u hy j h
theorem Su(A:Option Addr)(c:Nat)(l:List VwM)(w:World)(h:AL.Box w A l)(hn:l.length<=1000000000)(hm:∀v∈l,v.xs.length<=1000000) :
  Calls prog 88 #[.slice A l.length c] w λe w'=>e=.returned (.bool (Bv (vws l)))/\V w w':=by
 have H:=J h;have HM:=J hm;clear h hm;by_cases h1:1<=l.length;rotate_left
 .have ap:l.length<1:=U;have H1:=J h1;clear h1;go_enter func88,ntmps88;go_wp2;go_ret;exact⟨AC (OG (by rw[AW];exact H1.o)).symm,V.refl _⟩
 have ap:¬l.length<1:=U;have aw:decide ((l.length:Int)<1)=false:=decide_eq_false U;by_cases h2:l.length<=2000;rotate_left
 .have aq:2000<l.length:=U;have H2:=J h2;clear h2;go_enter func88,ntmps88;go_wp2;go_ret;exact⟨AC (Qh (by rw[AW];exact H2.o)).symm,V.refl _⟩
 have aq:¬2000<l.length:=U;have ax:decide ((2000:Int)<(l.length:Int))=false:=decide_eq_false U;obtain⟨b,bh,n0,X0,ao,G,hA,hb,c0,c1,al,a9,ba,aa⟩:=DK H.o (show 0<l.length by omega);simp only[Nat.zero_mul,Nat.add_zero] at c0 c1;subst hA;have Q:=J (Dw aa.o);have ar:G.length<=9223372036854775807:=by have:=HM.o _ (zX aa.o);simp only at this;omega
 have k0:0<l.length:=U;go_enter func88,ntmps88;go_wp2_with fail;refine(Ge n0 X0 ao G _ al.o ar).mono ?_;cases hv:AK n0 G
 .have HV:=J hv;clear hv;rintro e w1 ⟨rfl,q⟩;have X1:=J q;clear q;go_wp2;go_ret;exact⟨AC (WG Q.o HV.o).symm,X1.o⟩
 have HV:=J hv;clear hv;rintro e w1 ⟨rfl,q⟩;have X1:=J q;clear q c0 c1;go_wp2;go_loopw [3] (λi wr=>∃k:Nat,k+1<=l.length/\i=I ((k+1:Nat):Int)/\O (∀j,j<k->CT (Bu (vws l) j) (Bu (vws l) (j+1))=true)/\V w wr) (λi _=>l.length - (intOf i).toNat)
 case atStart=>exact⟨0,U,rfl,J (λj hj=>absurd hj (Nat.not_lt_zero _)),X1.o⟩
 case round=>
  obtain⟨k,hk,rfl,HT,X⟩:=hrel;have W:=J X;clear X;by_cases F:k+1<l.length
  .obtain⟨b1,au,n1,Y1,af,y,ah,ay,c0,c1,am,bb,bc,ab⟩:=DK (H.o.ext W.o) (show k<l.length by omega);obtain⟨b2,av,n2,Y2,ag,z,ai,az,d0,d1,an,bd,be,ac⟩:=DK (H.o.ext W.o) F;simp only[zJ,Addr.mk.injEq,and_true] at ah ai;obtain⟨rfl,rfl⟩:=ah;obtain⟨rfl,rfl⟩:=ai;have R:=J (Dw ab.o);have T:=J (Dw ac.o);have aj:y.length<=1000000:=HM.o _ (zX ab.o);have ak:z.length<=1000000:=HM.o _ (zX ac.o);have ad:=am.o.e (V.drew (V.refl _));have ae:=an.o.e (V.drew (V.refl _));obtain⟨i,D⟩:∃i,k+1=i:=⟨_,rfl⟩;have HI:=J D;have bf:IntKind.i64.wrap ((i:Int) - 1)=(k:Int):=by rw[IntWalk.i64_in _ U];omega
   have m1:(0:Int)<=(k:Int):=U;have m2:(k:Int)<(l.length:Int):=U;have m3:k<l.length:=U;rw[D] at d0 d1 F|-;have bg:IntKind.i64.wrap ((i:Int)+1)=(i:Int)+1:=IntWalk.i64_in _ U;clear D;cases hf:CT (n1,y) (n2,z)
   .have K:=J hf;clear hf;go_wp2;refine Mh 9 zh zh ?_;simp only[List.take_succ_cons,List.take_zero,List.drop_succ_cons,List.drop_zero];with_reducible refine Dm (v:=?_) ?_ ?_ ?_;rotate_left
    .rfl
    ·(go_simp<;>with_reducible rfl)
    try simp only[Act.put,l1,l2,l3]
    with_reducible refine Dm (v:=?_) ?_ ?_ ?_;rotate_left
    .rfl
    ·(go_simp<;>with_reducible rfl)
    try simp only[Act.put,l1,l2,l3]
    with_reducible refine Dm (v:=?_) ?_ ?_ ?_;rotate_left
    .rfl
    ·(go_simp<;>with_reducible rfl)
    try simp only[Act.put,l1,l2,l3]
    with_reducible refine Dm (v:=?_) ?_ ?_ ?_;rotate_left
    .rfl
    ·(go_simp<;>with_reducible rfl)
    try simp only[Act.put,l1,l2,l3]
    with_reducible refine Dm (v:=?_) ?_ ?_ ?_;rotate_left
    .rfl
    ·(go_simp<;>with_reducible rfl)
    try simp only[Act.put,l1,l2,l3]
    with_reducible refine Dm (v:=?_) ?_ ?_ ?_;rotate_left
    .rfl
    ·(go_simp<;>with_reducible rfl)
    try simp only[Act.put,l1,l2,l3]
    with_reducible refine Dm (v:=?_) ?_ ?_ ?_;rotate_left
    .rfl
    ·(go_simp<;>with_reducible rfl)
    try simp only[Act.put,l1,l2,l3]
    with_reducible refine Dm (v:=?_) ?_ ?_ ?_;rotate_left
    .rfl
    ·(go_simp<;>with_reducible rfl)
    try simp only[Act.put,l1,l2,l3]
    with_reducible refine Dm (v:=?_) ?_ ?_ ?_;rotate_left
    .rfl
    ·(go_simp<;>with_reducible rfl)
    try simp only[Act.put,l1,l2,l3]
    refine wpStill_nil ?_;go_wp2_with fail;refine(MX n1 n2 Y1 Y2 af ag y z _ ad.o ae.o aj ak _ K.o).mono ?_;rintro e w2 ⟨rfl,u⟩;have X2:=J (W.o.drew.trans u);clear u;go_wp2;go_ret;exact⟨AC (ql R.o T.o K.o).symm,X2.o⟩
   .have K:=J hf;clear hf;go_wp2;refine Mh 9 zh zh ?_;simp only[List.take_succ_cons,List.take_zero,List.drop_succ_cons,List.drop_zero];with_reducible refine Dm (v:=?_) ?_ ?_ ?_;rotate_left
    .rfl
    ·(go_simp<;>with_reducible rfl)
    try simp only[Act.put,l1,l2,l3]
    with_reducible refine Dm (v:=?_) ?_ ?_ ?_;rotate_left
    .rfl
    ·(go_simp<;>with_reducible rfl)
    try simp only[Act.put,l1,l2,l3]
    with_reducible refine Dm (v:=?_) ?_ ?_ ?_;rotate_left
    .rfl
    ·(go_simp<;>with_reducible rfl)
    try simp only[Act.put,l1,l2,l3]
    with_reducible refine Dm (v:=?_) ?_ ?_ ?_;rotate_left
    .rfl
    ·(go_simp<;>with_reducible rfl)
    try simp only[Act.put,l1,l2,l3]
    with_reducible refine Dm (v:=?_) ?_ ?_ ?_;rotate_left
    .rfl
    ·(go_simp<;>with_reducible rfl)
    try simp only[Act.put,l1,l2,l3]
    with_reducible refine Dm (v:=?_) ?_ ?_ ?_;rotate_left
    .rfl
    ·(go_simp<;>with_reducible rfl)
    try simp only[Act.put,l1,l2,l3]
    with_reducible refine Dm (v:=?_) ?_ ?_ ?_;rotate_left
    .rfl
    ·(go_simp<;>with_reducible rfl)
    try simp only[Act.put,l1,l2,l3]
    with_reducible refine Dm (v:=?_) ?_ ?_ ?_;rotate_left
    .rfl
    ·(go_simp<;>with_reducible rfl)
    try simp only[Act.put,l1,l2,l3]
    with_reducible refine Dm (v:=?_) ?_ ?_ ?_;rotate_left
    .rfl
    ·(go_simp<;>with_reducible rfl)
    try simp only[Act.put,l1,l2,l3]
    refine wpStill_nil ?_;go_wp2_with fail;refine(MX n1 n2 Y1 Y2 af ag y z _ ad.o ae.o aj ak _ K.o).mono ?_;rintro e w2 ⟨rfl,u⟩;have X2:=J (W.o.drew.trans u);clear u;go_wp2;go_roundw
    case rel=>exact⟨k+1,by have:=HI.o;omega,by have:=HI.o;rw[<-this];go_num,J (ZB R.o T.o K.o HT.o),X2.o⟩
    case measure=>simp[intOf]<;>omega
  .obtain⟨i,D⟩:∃i,k+1=i:=⟨_,rfl⟩;have HI:=J D;rw[D] at F|-;clear D;go_wp2;go_ret;exact⟨AC (ZL (by rw[AW];exact h1) (by rw[AW];exact h2) Q.o HV.o (λj hj=>HT.o j (by rw[AW] at hj;have:=HI.o;omega))).symm,W.o⟩
structure BM where
 self:Int
 base:Int
 stable:Int
 sent:Int
 Av:Option Addr
 cv:Nat
 vs:List VwM
 Al:Option Addr
 cl:Nat
 log:List Ent
 Ap:Option Addr
 cp:Nat
 pend:List (List UInt8)
 Am:Option Addr
 cm:Nat
 marks:List (Int×Int)
 Af:Option Addr
 cf:Nat
 fls:List FlM
def BM.st(b:BM):St:=⟨b.self,vws b.vs,b.base,b.log,b.stable,b.sent,b.pend,b.marks,b.fls.map FlM.v⟩
abbrev BM.cells(b:BM):Array Value:=#[.int .i64 b.self,.slice b.Av b.vs.length b.cv,.int .i64 b.base,.slice b.Al b.log.length b.cl,.int .i64 b.stable,.int .i64 b.sent,.slice b.Ap b.pend.length b.cp,.slice b.Am b.marks.length b.cm,.slice b.Af b.fls.length b.cf]
structure BM.Reads(w:World)(b:BM):Prop where
 vs:AL.Box w b.Av b.vs
 log:Row w b.Al (Aa.cells b.log)
 pend:Row w b.Ap (AU.cells b.pend)
 marks:Row w b.Am (AA.cells b.marks)
 fls:flE.Box w b.Af b.fls
theorem BM.Reads.ext{w w':World}{b:BM}(h:b.Reads w)(e:V w w'):b.Reads w':=⟨h.vs.ext e,h.log.ext e,h.pend.ext e,h.marks.ext e,h.fls.ext e⟩
theorem BM.Reads.e{w w':World}{b:BM}(h:b.Reads w)(e:V w w'):O (b.Reads w'):=J (h.ext e)
structure BM.Fits(b:BM):Prop where
 vs:b.vs.length<=100000
 vx:∀v∈b.vs,v.xs.length<=1000000
 log:b.log.length<=100000
 lp:∀e∈b.log,e.p.length<=1000000
 pend:b.pend.length<=100000
 pp:∀p∈b.pend,p.length<=1000000
 marks:b.marks.length<=100000
 fls:b.fls.length<=100000
 fl:∀f∈b.fls,f.log.length<=100000/\∀e∈f.log,e.p.length<=1000000
 cl:b.log.length<=b.cl/\b.cl<=maxLen
theorem Eu{l:List VwM}{m:Nat}(h:∀v∈l,v.xs.length<=m):(Ar (vws l)).2.length<=m:=by
 unfold Ar Bu;cases hi:(vws l)[(vws l).length - 1]? with
 | none=>simp
 | some v=>
  obtain⟨u,j,rfl⟩:=List.mem_map.1 (zX hi);exact h u j
theorem Ej(n:Int)(A:Option Addr)(k c:Nat)(w:World):(Instr.field 46 (.agg #[I n,.slice A k c]) 0).run prog w=.ok (I n) w:=by
 simp[Instr.field,asAgg,go_sem]
theorem Ep(A:Option Addr)(c:Nat)(l:List VwM)(w:World)(h:AL.Box w A l)(q:0<l.length)(j:l.length<=1000000000)(n:Int)(xs:List Int)(u:Ar (vws l)=(n,xs)) :
  Calls prog 49 #[.slice A l.length c] w λe w'=>∃A c,e=.returned (.agg #[I n,.slice A xs.length c])/\xs.length<=c/\c<=maxLen/\O (Row w' A (Ai xs))/\V w w':=by
 have:=WS A c l w h q j;rw[u] at this;exact this
theorem Fm(n:Int)(A:Option Addr)(c:Nat)(xs:List Int)(w:World)(h:Row w A (Ai xs))(j:xs.length<=9223372036854775807)(s:Int)(q:AZ (n,xs)=s) :
  Calls prog 51 #[.agg #[I n,.slice A xs.length c]] w λe w'=>e=.returned (I s)/\V w w':=by
 subst q;exact SM n A c xs w h j
theorem FQ(b:BM)(w:World)(h:b.Reads w)(R:0<b.vs.length)(z:b.Fits) :
  Calls prog 40 #[.agg b.cells] w λe w'=>e=.returned (.bool (AD b.st))/\V w w':=by
 have q:=J (V.new w (.cells b.cells 28));have y:=J (h.vs.ext q.o.drew);have Q:b.vs.length<=1000000000:=by have:=z.vs;omega
 obtain⟨⟨n,xs⟩,u⟩:∃v,Ar (vws b.vs)=v:=⟨_,rfl⟩;have D:=J u;have F:O (AD b.st=decide (b.base=n)):=J (by show decide (b.base=(Ar (vws b.vs)).1)=_;rw[u]);clear h z u;unfold BM.cells at q y|-;have K:=Ej;go_enter func40,ntmps40;go_wp2;go_region_held3 (λw'=>w'.cell? (Y w 1)=some (.slice b.Av b.vs.length b.cv)/\w'.cell? (Y w 2)=some (I b.base))
  (first|exact⟨T,W⟩|(go_keep;done))
  (first
   | (go_at_call 49;(with_reducible refine(Ep b.Av b.cv b.vs _ (by exact y.o) R Q n xs (by exact D.o)).mono ?_);rintro e v1 ⟨X,c1,rfl,_,_,_,j⟩;have G:=J (V.trans q.o.drew j);have T:v1.cell? ⟨w.heap.size,1,none⟩=some (.slice b.Av b.vs.length b.cv):=(by rw[j.cell zj];simp);have W:v1.cell? ⟨w.heap.size,2,none⟩=some (.int .i64 b.base):=(by rw[j.cell zj];simp);clear j))
 go_wp2;go_ret;exact⟨AC (by rw[F.o,Bool.eq_iff_iff];simp),G.o⟩
theorem Gh(b:BM)(w:World)(h:b.Reads w)(hp:0<b.vs.length)(K:b.Fits) :
  Calls prog 41 #[.agg b.cells] w λe w'=>e=.returned (.bool (AE b.st))/\V w w':=by
 have F:=J (V.new w (.cells b.cells 28));have Q:=J (h.vs.ext F.o.drew);have hn:b.vs.length<=1000000000:=by have:=K.vs;omega
 have y:=Eu K.vx;obtain⟨⟨n,xs⟩,D⟩:∃v,Ar (vws b.vs)=v:=⟨_,rfl⟩;have HL:=J D;obtain⟨W,u⟩:∃s,AZ (n,xs)=s:=⟨_,rfl⟩;have HQ:=J u;have HO:O (AE b.st=decide (W=b.self)):=J (by show decide (AZ (Ar (vws b.vs))=b.self)=_;rw[D,u]);rw[D] at y;have z:xs.length<=9223372036854775807:=by simp only at y;omega
 clear h K D u y;unfold BM.cells at F Q|-;go_enter func41,ntmps41;go_wp2;go_region_held3 (λw'=>w'.cell? (Y w 1)=some (.slice b.Av b.vs.length b.cv)/\w'.cell? (Y w 0)=some (I b.self))
  (first|exact⟨R,T⟩|exact⟨t0,t1⟩|(go_keep;done))
  (first
   | (go_at_call 49;(with_reducible refine(Ep b.Av b.cv b.vs _ (by exact Q.o) hp hn n xs (by exact HL.o)).mono ?_);rintro e v1 ⟨A1,c1,rfl,_,_,G,j⟩;have X1:=J (V.trans F.o.drew j);have X:w.heap.size<v1.heap.size:=(by have:=j.size;simp at this;omega);have R:v1.cell? ⟨w.heap.size,1,none⟩=some (.slice b.Av b.vs.length b.cv):=(by rw[j.cell zj];simp);have T:v1.cell? ⟨w.heap.size,0,none⟩=some (.int .i64 b.self):=(by rw[j.cell zj];simp);clear j)
   | (go_at_call 51;(with_reducible refine(Fm n A1 c1 xs _ (by exact G.o) z W (by exact HQ.o)).mono ?_);rintro e v2 ⟨rfl,q⟩;have X2:=J (V.trans X1.o q);have t0:v2.cell? ⟨w.heap.size,1,none⟩=some (.slice b.Av b.vs.length b.cv):=(by rw[q.cell (by exact X)];exact R);have t1:v2.cell? ⟨w.heap.size,0,none⟩=some (.int .i64 b.self):=(by rw[q.cell (by exact X)];exact T);clear q))
 go_wp2;go_ret;exact⟨AC (by rw[HO.o,Bool.eq_iff_iff];simp),X2.o⟩
end Go.Proofs.YtponbabbabnaeaaGreat
namespace Go.Proofs.YtponbabbabnaeaaGreat
open Tryz
section
variable {P:Program} {ops:Array Oper} {Q:Exit->Act->World->Prop} {md:Region.Mode} {S:World->Prop}
theorem AH(i d:Nat){oi:Oper}{v:Value}{q:Nat}{j:Array Bool}{a a':Act}{w:World}(h:wpAnyH P md ops Q S q (j.setIfInBounds i true) a' w)
    (G:ops[i]?=some oi:=by rfl) (D:oi.dst=some d:=by rfl) (R:Region.noSelect ops=true:=by kernel_rfl) (F:Region.free md ops j i=true:=by kernel_rfl) (K:(Region.ready md ops j).contains i=true:=by kernel_rfl)
    (hy:∀w9,S w9->(execOp a.eval oi).run P w9=.ok (.value v) w9:=by intro w9 hSw;(try dsimp only at hSw);go_simp<;>with_reducible rfl)
    (z:a.put (some d) v=a':=by simp only[Act.put,l1,l2,l3]<;>rfl) (u:∀c a w,Q (.panic c) (a.put oi.dst v) w->Q (.panic c) a w:=by exact λ_ _ _ h=>h)
    (T:Region.wanted oi (yielded ops a.tmps)=true:=by rfl) (y:S w:=by assumption):wpAnyH P md ops Q S (q+1) j a w:=by
  subst z;rw[<-D] at h;exact wpAnyH_take G R F K u (Or.inl ⟨T,hy⟩) y h
end
end Go.Proofs.YtponbabbabnaeaaGreat
namespace Go.Proofs.YtponbabbabnaeaaGreat
open Tryz
open Go.RowKit
theorem Oi{vs:List Vw}{f:Fls}(j:f.2.1≠-1)(h:Br vs f.2.1=none):Bh vs f=false:=by unfold Bh;rw[if_neg j,h];rfl
theorem NZ{vs:List Vw}{f:Fls}{v:Vw}(j:f.2.1≠-1)(h:Br vs f.2.1=some v)(q:¬f.2.1<(Ar vs).1):Bh vs f=false:=by unfold Bh;rw[if_neg j,h];simp only[decide_eq_false q,Bool.false_and]
theorem Pn{vs:List Vw}{f:Fls}{v:Vw}(j:f.2.1≠-1)(h:Br vs f.2.1=some v)(q:AG v.2 f.1=false):Bh vs f=false:=by unfold Bh;rw[if_neg j,h];simp only[q,Bool.and_false,Bool.false_and]
theorem OY{vs:List Vw}{f:Fls}{v:Vw}(j:f.2.1≠-1)(h:Br vs f.2.1=some v)(q:f.2.1<(Ar vs).1)(u:AG v.2 f.1=true):Bh vs f=Bi f.2.2 f.2.1:=by unfold Bh;rw[if_neg j,h];simp only[decide_eq_true q,u,Bool.and_self,Bool.true_and]
theorem PV{vs:List Vw}{f:Fls}(h:f.2.1 = -1):Bh vs f=Bi f.2.2 f.2.1:=by unfold Bh;rw[if_pos h,Bool.true_and]
theorem D4(A:Option Addr)(c:Nat)(xs:List Int)(id:Int)(w:World)(h:Row w A (Ai xs))(q:xs.length<=9223372036854775807)(b:Bool)(j:AG xs id=b) :
  Calls prog 85 #[.slice A xs.length c,I id] w λe w'=>e=.returned (.bool b)/\w'=w:=by
 subst j;exact(GK A c xs id w h q).mono λe w' h=>⟨h.1,h.2.symm⟩
theorem NF{vs:List Vw}{n:Int}{v:Vw}(h:Br vs n=some v):0<vs.length:=by
 have:=List.mem_of_find?_eq_some h;exact List.length_pos_of_mem this
theorem MF(Av:Option Addr)(cv:Nat)(vs:List VwM)(f:FlM)(w:World)(h:AL.Box w Av vs)(hf:Row w f.A (Aa.cells f.log))(hn:vs.length<=1000000000)(hx:∀v∈vs,v.xs.length<=1000000)
  (hl:f.log.length<=1000000000) (ae:∀e∈f.log,e.p.length<=1000000) :
  Calls prog 145 #[.slice Av vs.length cv,.agg #[I f.m,I f.b,.slice f.A f.log.length f.c]] w λe w'=>e=.returned (.bool (Bh (vws vs) f.v))/\V w w':=by
 have R:=J (V.new w (.cells #[I f.m,I f.b,.slice f.A f.log.length f.c] 80));have HV:=J (h.ext R.o);have HF:=J (hf.ext R.o);have aj:=J hx;have ab:=J ae;clear h hf hx ae;by_cases hb:f.b = -1
 .have HB:=J (PV (vs:=vws vs) (f:=f.v) hb);have ak:(f.b != -1)=false:=by simp[hb]
  clear hb;go_enter func145,ntmps145;go_wp2_with fail;refine(Gc f.A f.c f.log f.b _ HF.o hl ab.o).mono ?_;rintro e w2 ⟨rfl,ag⟩;have X2:=R.o.t ag;clear ag;go_wp2;go_ret;exact⟨AC HB.o.symm,X2.o⟩
 have HB:=J hb;have ak:(f.b != -1)=true:=by simp[hb]
 clear hb;go_enter func145,ntmps145;go_wp2_with fail;refine(NP Av cv vs f.b _ HV.o hn).mono ?_;cases hk:Br (vws vs) f.b with
 | none=>
  have HK:=J (Oi (f:=f.v) HB.o hk);clear hk;rintro e z ⟨q,y,rfl,_,_,_,F⟩;have X:=J F;clear F;simp only[Option.getD_none,Option.isSome_none,List.length_nil];go_wp2;go_quiet (fail);go_wp2;go_ret;exact⟨AC HK.o.symm,R.o.trans ((X.o.alloc _).drewN _)⟩
 | some v=>
  obtain⟨vn,xs⟩:=v;have hp:0<vs.length:=by have:=NF hk;rwa [AW] at this
  have HK:=J hk;have ai:xs.length<=9223372036854775807:=by
   have:=List.mem_of_find?_eq_some hk;obtain⟨u,hu,hv⟩:=List.mem_map.1 this;have:=aj.o u hu;have e:u.xs=xs:=by have:=congrArg Prod.snd hv;exact this
   rw[e] at this;omega
  clear hk;rintro e z ⟨q,y,rfl,_,_,ac,F⟩;have X:=J F;clear F;simp only[Option.getD_some,Option.isSome_some] at ac|-;obtain⟨⟨ln,aa⟩,ad⟩:∃v,Ar (vws vs)=v:=⟨_,rfl⟩;have HL:=J ad;clear ad;have al:=Ej;have X3:=J (X.o.alloc (.cells #[I vn,.slice q xs.length y] 46));have RV:=HV.o.e X3.o.drew;have R1:=ac.o.e (V.drew (V.new _ (.cells #[I vn,.slice q xs.length y] 46)));have zz:w.heap.size<z.heap.size:=by have:=X.o.size;simp at this;omega
  have q0:z.cell? (Y w 0)=some (I f.m):=by simpa using X.o.cell_new 0
  have q1:z.cell? (Y w 1)=some (I f.b):=by simpa using X.o.cell_new 1
  have q2:z.cell? (Y w 2)=some (.slice f.A f.log.length f.c):=by simpa using X.o.cell_new 2
  have s0:(z.alloc (.cells #[I vn,.slice q xs.length y] 46)).cell? (Y w 0)=some (I f.m):=by simpa using X3.o.cell_new 0
  have s1:(z.alloc (.cells #[I vn,.slice q xs.length y] 46)).cell? (Y w 1)=some (I f.b):=by simpa using X3.o.cell_new 1
  have s2:(z.alloc (.cells #[I vn,.slice q xs.length y] 46)).cell? (Y z 1)=some (.slice q xs.length y):=zj;by_cases Q:f.b<ln;rotate_left
  .have W:=J (NZ (f:=f.v) HB.o HK.o (by rw[HL.o];exact Q));have af:decide (ln<=f.b)=true:=decide_eq_true U;clear Q;go_wp2;refine wp_region_held_drew (S:=λw'=>w'.cell? (Y w 0)=some (I f.m)/\w'.cell? (Y w 1)=some (I f.b)/\w'.cell? (Y z 1)=some (.slice q xs.length y)) zh ⟨s0,s1,s2⟩ (λyH=>?_);refine AH 0 17 ?_;refine AH 1 18 ?_;refine AH 2 19 ?_;refine AH 3 20 ?_;refine AH 4 21 ?_;refine AH 5 22 ?_;refine wpAnyH_ready (rs:=[6]) zh zj ?_;refine AllReadyH.cons (o:=⟨some 23,_,_,_,_,_⟩) rfl (λK hK=>?_) AllReadyH.nil;go_simp;go_at_call 49;refine(Ep Av cv vs _ RV.o hp hn ln aa HL.o).mono ?_;rintro e G ⟨A4,c4,rfl,_,_,_,j⟩;have D:=J ((X3.o.drew).trans j);have r0:G.cell? (Y w 0)=some (I f.m):=by simpa using D.o.cell_new 0
   have r1:G.cell? (Y w 1)=some (I f.b):=by simpa using D.o.cell_new 1
   have r2:G.cell? (Y z 1)=some (.slice q xs.length y):=by rw[j.cell zj];simp
   clear yH j;refine hK.out _ _ ⟨r0,r1,r2⟩ (λyH=>?_)
   try simp only[Act.put,l1,l2,l3]
   refine AH 7 24 ?_;refine AH 8 25 ?_;refine AH 9 26 ?_;refine AH 10 27 ?_;refine wpAnyH_take (i:=11) (oi:=⟨some 28,_,_,_,_,_⟩) (v:=undef) rfl zh zh zh (λ_ _ _ h=>h) (Or.inr ⟨zi,rfl⟩) zp ?_
   try simp only[Act.put,l1,l2,l3]
   refine wpAnyH_take (i:=12) (oi:=⟨some 29,_,_,_,_,_⟩) (v:=undef) rfl zh zh zh (λ_ _ _ h=>h) (Or.inr ⟨zi,rfl⟩) zp ?_
   try simp only[Act.put,l1,l2,l3]
   refine wpAnyH_take (i:=13) (oi:=⟨some 30,_,_,_,_,_⟩) (v:=undef) rfl zh zh zh (λ_ _ _ h=>h) (Or.inr ⟨zi,rfl⟩) zp ?_
   try simp only[Act.put,l1,l2,l3]
   refine wpAnyH_take (i:=14) (oi:=⟨some 31,_,_,_,_,_⟩) (v:=undef) rfl zh zh zh (λ_ _ _ h=>h) (Or.inr ⟨zi,rfl⟩) zp ?_
   try simp only[Act.put,l1,l2,l3]
   refine wpAnyH_take (i:=15) (oi:=⟨some 32,_,_,_,_,_⟩) (v:=undef) rfl zh zh zh (λ_ _ _ h=>h) (Or.inr ⟨zi,rfl⟩) zp ?_
   try simp only[Act.put,l1,l2,l3]
   refine wpAnyH_take (i:=16) (oi:=⟨some 33,_,_,_,_,_⟩) (v:=undef) rfl zh zh zh (λ_ _ _ h=>h) (Or.inr ⟨zi,rfl⟩) zp ?_
   try simp only[Act.put,l1,l2,l3]
   refine AH 17 34 ?_;refine wpAnyH_done zh ?_ _;go_wp2;go_ret;exact⟨AC W.o.symm,R.o.trans D.o⟩
  have W:=J (show f.v.2.1<(Ar (vws vs)).1 by rw[HL.o];exact Q);have af:decide (ln<=f.b)=false:=decide_eq_false U;clear Q;cases hh:AG xs f.m
  .have HH:=J (Pn (f:=f.v) HB.o HK.o hh);have T:=J hh;clear hh;go_wp2;go_region_held3 (λw'=>w'.cell? (Y w 0)=some (I f.m)/\w'.cell? (Y w 1)=some (I f.b)/\w'.cell? (Y z 1)=some (.slice q xs.length y))
    (first|exact⟨s0,s1,s2⟩|exact⟨r0,r1,r2⟩)
    (first
     | (go_at_call 49;(with_reducible refine(Ep Av cv vs _ (by exact RV.o) hp hn ln aa (by exact HL.o)).mono ?_);rintro e G ⟨A4,c4,rfl,_,_,_,j⟩;have D:=J (V.trans (X3.o.drew) j);have R4:=R1.o.e j;have r0:G.cell? ⟨w.heap.size,0,none⟩=some (.int .i64 f.m):=(by simpa using D.o.cell_new 0);have r1:G.cell? ⟨w.heap.size,1,none⟩=some (.int .i64 f.b):=(by simpa using D.o.cell_new 1);have r2:G.cell? ⟨z.heap.size,1,none⟩=some (.slice q xs.length y):=(by rw[j.cell zj];simp);clear j)
     | (go_at_call 85;(with_reducible refine(D4 q y xs f.m _ (by exact R4.o) ai _ (by exact T.o)).mono ?_);rintro e w5 ⟨rfl,rfl⟩))
   go_wp2;go_ret;exact⟨AC HH.o.symm,R.o.trans D.o⟩
  .have HH:=J (OY (f:=f.v) HB.o HK.o W.o hh);have T:=J hh;clear hh;go_wp2;go_region_held3 (λw'=>w'.cell? (Y w 0)=some (I f.m)/\w'.cell? (Y w 1)=some (I f.b)/\w'.cell? (Y z 1)=some (.slice q xs.length y))
    (first|exact⟨s0,s1,s2⟩|exact⟨r0,r1,r2⟩)
    (first
     | (go_at_call 49;(with_reducible refine(Ep Av cv vs _ (by exact RV.o) hp hn ln aa (by exact HL.o)).mono ?_);rintro e G ⟨A4,c4,rfl,_,_,_,j⟩;have D:=J (V.trans (X3.o.drew) j);have R4:=R1.o.e j;have r0:G.cell? ⟨w.heap.size,0,none⟩=some (.int .i64 f.m):=(by simpa using D.o.cell_new 0);have r1:G.cell? ⟨w.heap.size,1,none⟩=some (.int .i64 f.b):=(by simpa using D.o.cell_new 1);have r2:G.cell? ⟨z.heap.size,1,none⟩=some (.slice q xs.length y):=(by rw[j.cell zj];simp);clear j)
     | (go_at_call 85;(with_reducible refine(D4 q y xs f.m _ (by exact R4.o) ai _ (by exact T.o)).mono ?_);rintro e w5 ⟨rfl,rfl⟩))
   have r3:w5.cell? (Y w 2)=some (.slice f.A f.log.length f.c):=by simpa using D.o.cell_new 2
   go_wp2_with fail;refine(Gc f.A f.c f.log f.b _ (HF.o.ext D.o) hl ab.o).mono ?_;rintro e w6 ⟨rfl,ah⟩;have X5:=D.o.t ah;clear ah;go_wp2;go_ret;exact⟨AC HH.o.symm,R.o.trans X5.o⟩
end Go.Proofs.YtponbabbabnaeaaGreat
