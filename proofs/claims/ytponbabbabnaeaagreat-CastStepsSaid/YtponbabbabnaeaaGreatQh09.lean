/- Part 9: contracts of functions. Conditions: as each theorem says. -/
import Derived.Test.YtponbabbabnaeaaGreatQh08
set_option maxRecDepth 100000
set_option maxHeartbeats 40000000
set_option linter.unusedVariables false
namespace Go.Proofs.YtponbabbabnaeaaGreat
open Tryz
open Go.RowKit
theorem Pr{P:Prop}(h:P:=by
 obtain⟨k,out,r',v,rfl,rfl,HG,ae,bf,HO,ab,HW⟩:=hrel;obtain⟨A2,c2,ap,ad,aj,al,ar,ax,bg⟩:=ab.o.parts;have ac:O (∀q,v.ownBlock=some q->q≠p/\w0.heap.size<=q/\w.heap.size<=q):=J (λq z=>by have:=(HO.o.1.lt q z).1;have:=H.o.2.1.size;omega);clear ap aj al ar ax;by_cases y:0<k
 .have bh:decide ((0:Int)<(k:Int))=true:=zm;cases G:r'.2 with
  | true=>
   rw[G] at ad;have X:=J ((JV G).symm.trans HG.o);clear HG;go_wp2;go_ret;rw[<-X.o];obtain⟨A3,c3,rfl,Q,F,_⟩:=HO.o.slice;exact⟨A3,c3,rfl,Q,F,HO.o,ab.o,HW.o⟩
  | false=>
   rw[G] at ad;obtain⟨j,rfl⟩:∃j,k=j+1:=⟨k - 1,U⟩;have X:=J ((T3 G).symm.trans HG.o);have bi:out.length+1<=2000:=by rcases ae with h|h;exact absurd (G.symm.trans h) zj;omega
   have bd:out.length+1+j<=2000:=by rcases ae with h|h;exact absurd (G.symm.trans h) zj;omega
   clear HG ae;obtain⟨⟨a,r2⟩,ha⟩:∃d,AN r'=d:=⟨_,rfl⟩;obtain⟨⟨b,r3⟩,D⟩:∃d,AN r2=d:=⟨_,rfl⟩;obtain⟨⟨q,r4⟩,z⟩:∃d,AN r3=d:=⟨_,rfl⟩;obtain⟨⟨pl,r5⟩,hp⟩:∃d,Ds r4=d:=⟨_,rfl⟩;have ah:O (Eq r'=(⟨a,b,q,pl⟩,r5)):=J (by unfold Eq;rw[ha];simp only;rw[D];simp only;rw[z];simp only;rw[hp]);have HA:=J ha;have HB:=J D;have HQ:=J z;have HP:=J hp;clear ha D z hp G;go_wp2_with fail;refine(DX w0 p r' wr ab.o).mono ?_;rintro en w2 ⟨rfl,u,T⟩;rw[HA.o] at u|-;have H2:=J u;have W2:=J T;clear u T;go_wp2_with fail;refine(DX w0 p r2 w2 H2.o).mono ?_;rintro en w3 ⟨rfl,u,T⟩;rw[HB.o] at u|-;have H3:=J u;have W3:=W2.o.t T;clear u T;go_wp2_with fail;refine(DX w0 p r3 w3 H3.o).mono ?_;rintro en R ⟨rfl,u,T⟩;rw[HQ.o] at u|-;have H4:=J u;have W4:=W3.o.t T;clear u T;go_wp2_with fail;refine(MA w0 p r4 R H4.o).mono ?_;rintro en w5 ⟨rfl,u,T⟩;rw[HP.o] at u|-;have H5:=J u;have W5:=W4.o.t T;clear u T;have az:=J (W5.o.ob HO.o (λk y=>(ac.o k y).1));have ao:O (w.heap.size<=w5.heap.size):=J (zL HW.o.size W5.o.size);go_wp2_with (first
    | (at_builtin;refine By Aa rfl (.tmp 23) (.tmp 33) rfl _ w.heap.size _ out zi _ 1 1 [⟨a,b,q,pl⟩] zi rfl (DL ⟨a,b,q,pl⟩ w5) (az.o.ext (V.new _ _)) Ir U (by have:=ao.o;simp;omega) ?_;intro v6 w6 ai af ba))
   have ak:=J ai;have H6:O (RS w0 p w6 r5):=J (af.rs (H5.o.ext (V.new _ _)) (λk y=>⟨(ac.o k y).1,(ac.o k y).2.1⟩));have W6:O (Wrote p w w6):=J (af.wrote (B:=w.heap.size) ((HW.o.trans W5.o).trans (Wrote.of (V.new _ _))) (zR _) (λk y=>(ac.o k y).2.2));clear ai af ba;go_roundw
   case rel=>exact⟨j,out++[⟨a,b,q,pl⟩],r5,_,rfl,by go_num,J (by rw[<-X.o,ah.o]),.inr zm,U,ak,H6,W6⟩
   case measure=>simp[intOf]
 .have a9:k=0:=U;subst a9;have X:O ((out,r')=Cj r):=HG;clear HG;go_wp2;go_ret;rw[<-X.o];obtain⟨A3,c3,rfl,Q,F,_⟩:=HO.o.slice;exact⟨A3,c3,rfl,Q,F,HO.o,ab.o,HW.o⟩):P:=h
theorem KU{P:Prop}(h:P:=by
 rintro en W ⟨rfl,K,aa⟩;have H1:=J K;have W1:=J aa;obtain⟨A1,c1,bb,bc,au,av,aq,aw,an⟩:=K.parts;clear K aa;go_wp2;go_ret;rw[HN.o];exact⟨rfl,H1.o.failed true,W1.o.trans (Wrote.set _ _ _ _)⟩):P:=h
theorem K8{P:Prop}(h:P:=by
 rintro en W ⟨rfl,K,aa⟩;have H1:=J K;have W1:=J aa;clear K aa;go_wp2;go_ret;rw[HN.o];exact⟨rfl,H1.o,W1.o⟩):P:=h
def Wrote(p:Nat)(a b:World):Prop:=a.grownBy b (some p)
theorem Wrote.size{p:Nat}{a b:World}(h:Wrote p a b):a.heap.size<=b.heap.size:=World.grownBy.size h
theorem Wrote.blk{p:Nat}{a b:World}(h:Wrote p a b){k:Nat}(y:k<a.heap.size)(hp:k≠p):b.heap[k]?=a.heap[k]?:=World.grownBy.block h k y (λe=>hp (Option.some.inj e))
theorem Wrote.refl(p:Nat)(a:World):Wrote p a a:=⟨rfl,rfl,rfl,zR _,λ_ _ _=>rfl⟩
theorem Wrote.of{p:Nat}{a b:World}(h:V a b):Wrote p a b:=⟨h.os,h.tape,h.output,h.size,λk y _=>h.block k y⟩
theorem Wrote.trans{p:Nat}{a b c:World}(h:Wrote p a b)(g:Wrote p b c):Wrote p a c:=
 ⟨g.os.trans h.os,g.tape.trans h.tape,g.output.trans h.output,zL h.size g.size,λk y j=>(World.grownBy.block g k (Nat.lt_of_lt_of_le y h.size) j).trans (World.grownBy.block h k y j)⟩
theorem Wrote.t{p:Nat}{a b c:World}(h:Wrote p a b)(g:Wrote p b c):O (Wrote p a c):=J (h.trans g)
theorem Wrote.set(p i:Nat)(w:World)(v:Value):Wrote p w (w.setCell (Z p i) v):=
 ⟨rfl,rfl,rfl,by simp[World.setCell],λk _ h=>Below.heap_setCell _ _ _ _ (λe=>h (by rw[e]))⟩
theorem Wrote.ext{p:Nat}{w0 a b:World}(h:Wrote p a b)(e:V w0 a)(hp:w0.heap.size<=p):V w0 b:=
 Below.grown e h e.size (λk y=>by cases y;exact hp)
theorem Wrote.bis{p q:Nat}{a b:World}{j:Array Value}{t:TypeId}(h:Wrote p a b)(k:BIs a q j t)(z:q≠p):BIs b q j t:=k.same (h.blk k.lt z)
def RS(w0:World)(p:Nat)(w:World)(r:Rd):Prop:=
 w0.heap.size<=p/\V w0 w/\r.1.length<=1000000/\∃A c,BIs w p #[.slice A r.1.length c,.bool r.2] 175/\Row w0 A (Aj r.1)/\r.1.length<=c
theorem RS.wrote{w0 w w':World}{p q:Nat}{r:Rd}(h:RS w0 p w r)(g:Wrote q w w')(z:p≠q)(j:w0.heap.size<=q):RS w0 p w' r:=by
 obtain⟨Q,F,u,A,c,D,G,y⟩:=h;exact⟨Q,g.ext F j,u,A,c,g.bis D z,G,y⟩
theorem RS.ext{w0 w w':World}{p:Nat}{r:Rd}(h:RS w0 p w r)(g:V w w'):RS w0 p w' r:=by
 obtain⟨Q,F,j,A,c,D,u,q⟩:=h;exact⟨Q,F.trans g,j,A,c,D.ext g,u,q⟩
theorem RS.e{w0 w w':World}{p:Nat}{r:Rd}(h:RS w0 p w r)(g:V w w'):O (RS w0 p w' r):=J (h.ext g)
theorem RS.failed{w0 w:World}{p:Nat}{r:Rd}(h:RS w0 p w r)(b:Bool):RS w0 p (w.setCell (Z p 1) (.bool b)) (r.1,b):=by
 obtain⟨Q,F,j,A,c,D,u,q⟩:=h;exact⟨Q,(Wrote.set p 1 w _).ext F Q,j,A,c,D.set 1 _,u,q⟩
theorem G6(w0:World)(p:Nat)(r:Rd)(n:Nat)(e:Int)(w:World)(h:RS w0 p w r)(z:n<=r.1.length) :
  Calls prog 183 #[.pointer (some (Z p 0)),I (n:Int),I e] w λen w'=>en=.returned (.tuple #[])/\RS w0 p w' (CJ r n e)/\Wrote p w w':=by
 have H:=J h;obtain⟨Q,F,K,A,c,D,u,y⟩:=h;obtain⟨bs,f⟩:=r;simp only at K z D u y;have k0:w.cell? (Z p 0)=some (.slice A bs.length c):=D.cell 0;have k1:w.cell? (Z p 1)=some (.bool f):=D.cell 1;have T:=D.free 0;have X:=D.free 1;have HB:=J D;have G:=J u;have H2:=J F;clear D u F;by_cases j:e=0
 .subst j;have q:O (CJ (bs,f) n 0=(bs.drop n,f)):=J (by simp[CJ]);have R:∀W,(Instr.slice 29 (.slice A bs.length c) (some (I (n:Int))) none none).run prog W=.ok (.slice (AO A n c 1) (bs.length - n) (c - n)) W:=λW=>CG.slice_l A bs.length c n _ rfl z W;go_enter func183,ntmps183;go_wp2;go_end0;refine⟨rfl,?_,Wrote.set _ _ _ _⟩
  rw[q.o];refine⟨Q,(Wrote.set p 0 w _).ext H2.o Q,zm,AO A n c 1,c - n,?_,D3 (Elem.row_from (DZ G.o) y n),zm⟩;have:=HB.o.set 0 (.slice (AO A n c 1) (bs.length - n) (c - n));simpa using this
 .have q:O (CJ (bs,f) n e=(bs,true)):=J (by simp[CJ,j]);have D:(e != 0)=true:=by simpa using j
  clear j;go_enter func183,ntmps183;go_wp2;(try simp only[Exit.inBlock,Exit.then]);refine bodyPost_ret (results_none rfl _ _ _) rfl ?_
  refine⟨rfl,?_,Wrote.set _ _ _ _⟩;rw[q.o];exact H.o.failed true
theorem RS.parts{w0 w:World}{p:Nat}{r:Rd}(h:RS w0 p w r):∃A c,w.cell? (Z p 0)=some (.slice A r.1.length c)/\w.cell? (Z p 1)=some (.bool r.2)/\w.frozen? (Z p 0)=false/\w.frozen? (Z p 1)=false/\O (Row w A (Aj r.1))/\r.1.length<=c/\p<w.heap.size:=by
 obtain⟨Q,F,u,A,c,D,q,j⟩:=h;exact⟨A,c,D.cell 0,D.cell 1,D.free 0,D.free 1,J (q.ext F),j,D.lt⟩
theorem DX(w0:World)(p:Nat)(r:Rd)(w:World)(h:RS w0 p w r) :
  Calls prog 138 #[.pointer (some (Z p 0))] w λen w'=>en=.returned (I (AN r).1)/\RS w0 p w' (AN r).2/\Wrote p w w':=by
 have H:=J h;obtain⟨A,c,k0,k1,Q,R,y,hc,F⟩:=h.parts;have T:r.1.length<=1000000:=h.2.2.1;have j:=Ek r.1;obtain⟨⟨v,n,e⟩,q⟩:∃d,Az r.1=d:=⟨_,rfl⟩;have X:=J q;rw[q] at j;simp only at j;have z:n<=r.1.length:=j.2.1;have hv:v<18446744073709551616:=j.1;clear q j h;by_cases D:1099511627776<v
 .have HN:O (AN r=(0,(CJ r n e).1,true)):=J (by unfold AN;rw[X.o];simp only;rw[if_pos D]);have u:decide ((1099511627776:Int)<(v:Int))=true:=zm;go_enter func138,ntmps138;go_wp2_with fail;refine(Fq A c r.1 w y.o U).mono ?_;rintro en w' ⟨rfl,rfl⟩;rw[X.o];unfold Ce;go_wp2_with fail;refine(G6 w0 p r n e w H.o z).mono ?_;exact KU
 .have HN:O (AN r=((v:Int),CJ r n e)):=J (by unfold AN;rw[X.o];simp only;rw[if_neg D]);have u:decide ((1099511627776:Int)<(v:Int))=false:=zm;have G:IntKind.i64.wrap (v:Int)=(v:Int):=IntWalk.i64_in _ U;go_enter func138,ntmps138;go_wp2_with fail;refine(Fq A c r.1 w y.o U).mono ?_;rintro en w' ⟨rfl,rfl⟩;rw[X.o];unfold Ce;go_wp2_with fail;refine(G6 w0 p r n e w H.o z).mono ?_;exact K8
theorem V0(w0:World)(p:Nat)(r:Rd)(w:World)(h:RS w0 p w r) :
  Calls prog 141 #[.pointer (some (Z p 0))] w λen w'=>en=.returned (I (Ec r).1)/\RS w0 p w' (Ec r).2/\Wrote p w w':=by
 have H:=J h;obtain⟨A,c,k0,k1,G,Q,q,T,F⟩:=h.parts;have R:r.1.length<=1000000:=h.2.2.1;have j:=Hh r.1;obtain⟨⟨v,n,e⟩,z⟩:∃d,AR r.1=d:=⟨_,rfl⟩;have X:=J z;rw[z] at j;simp only at j;clear z h;by_cases D:v < -1\/1099511627776<v
 .have HN:O (Ec r=(v,(CJ r n e).1,true)):=J (by unfold Ec;rw[X.o];simp only;rw[if_pos D]);by_cases u:v < -1
  .go_enter func141,ntmps141;go_wp2_with fail;refine(Ju A c r.1 w q.o U).mono ?_;rintro en w' ⟨rfl,rfl⟩;rw[X.o];unfold Ck;go_wp2_with fail;refine(G6 w0 p r n e w H.o j).mono ?_;exact KU
  .have y:1099511627776<v:=U;go_enter func141,ntmps141;go_wp2_with fail;refine(Ju A c r.1 w q.o U).mono ?_;rintro en w' ⟨rfl,rfl⟩;rw[X.o];unfold Ck;go_wp2_with fail;refine(G6 w0 p r n e w H.o j).mono ?_;exact KU
 .have HN:O (Ec r=(v,CJ r n e)):=J (by unfold Ec;rw[X.o];simp only;rw[if_neg D]);have u:¬v < -1:=λh=>D (.inl h);have y:¬1099511627776<v:=λh=>D (.inr h);clear D;go_enter func141,ntmps141;go_wp2_with fail;refine(Ju A c r.1 w q.o U).mono ?_;rintro en w' ⟨rfl,rfl⟩;rw[X.o];unfold Ck;go_wp2_with fail;refine(G6 w0 p r n e w H.o j).mono ?_;exact K8
theorem JC(bs:List UInt8)(m:Nat):(BT bs m).2.1<=bs.length:=by
 have h:=Gr bs m;unfold BT;split
 .exact zO _
 .split
  .exact zO _
  .simp only;omega
theorem XK(bs:List UInt8)(m:Nat):(BT bs m).1.length<=m:=by
 have h:=Gr bs m;unfold BT;split
 .exact zO _
 .split
  .exact zO _
  .simp only[zT];omega
theorem MA(w0:World)(p:Nat)(r:Rd)(w:World)(h:RS w0 p w r) :
  Calls prog 139 #[.pointer (some (Z p 0))] w λen w'=>en=.returned (.string (Ah (Ds r).1))/\RS w0 p w' (Ds r).2/\Wrote p w w':=by
 have H:=J h;obtain⟨A,c,Q,R,D,F,u,y,z⟩:=h.parts;have G:r.1.length<=1000000:=h.2.2.1;have j:=JC r.1 6000;obtain⟨⟨v,n,e⟩,q⟩:∃d,BT r.1 6000=d:=⟨_,rfl⟩;have X:=J q;rw[q] at j;simp only at j;clear q h;have HN:O (Ds r=(v,CJ r n e)):=J (by unfold Ds;rw[X.o]);go_enter func139,ntmps139;go_wp2_with fail;refine(UE A c r.1 6000 w u.o y U U).mono ?_;rintro en w' ⟨rfl,rfl⟩;rw[X.o];unfold IN;go_wp2_with fail;refine(G6 w0 p r n e w H.o j).mono ?_;exact K8
theorem JV{k:Nat}{r:Rd}{out:List Ent}(h:r.2=true):CB k r out=(out,r):=by
 cases k with
 | zero=>rfl
 | succ k=>rw[CB,if_pos h]
theorem T3{k:Nat}{r:Rd}{out:List Ent}(h:r.2=false):CB (k+1) r out=CB k (Eq r).2 (out++[(Eq r).1]):=by
 rw[CB,if_neg (by rw[h];simp)]
theorem DL(e:Ent)(w:World):Row (w.alloc (.cells #[I e.v,I e.o,I e.q,.string (Ah e.p)] 66)) (some (Z w.heap.size 0)) (Aa.cells [e]):=by
 intro _;refine⟨w.heap.size,0,rfl,zj,λj q h=>?_⟩;simp only[Elem.cells,Aa,List.flatMap_cons,List.flatMap_nil,List.append_nil] at h
 match j,h with
 | 0,h=>simpa using h
 | 1,h=>simpa using h
 | 2,h=>simpa using h
 | 3,h=>simpa using h
theorem Ir{W:World}{v:Value}{l:List Ent}:∀q∈l,Aa.ok q/\∀r∈Aa.inn q,Row W r.1 r.2/\Apt v r:=λ_ _=>⟨trivial,λr h=>by simp[Aa] at h⟩
theorem Wrote.ob{w w':World}{p B:Nat}{v:Value}{l:List Ent}(h:Wrote p w w')(q:Aa.OB w B v l)(hp:∀k,v.ownBlock=some k->k≠p):Aa.OB w' B v l:=
 ⟨q.1.keep λk y j=>h.blk j (hp k y),λa ha=>⟨(q.2 a ha).1,λr u=>by simp[Aa] at u⟩⟩
theorem Grew.wrote{a b:World}{v:Value}(g:Grew a b v){p B:Nat}{w0:World}(h:Wrote p w0 a)(u:w0.heap.size<=B)(q:∀k,v.ownBlock=some k->B<=k):Wrote p w0 b:=
 ⟨g.os.trans h.os,g.tape.trans h.tape,g.output.trans h.output,zL h.size g.size,λk y j=>(g.block k (Nat.lt_of_lt_of_le y h.size) (λe=>by have:=q k e.symm;omega)).trans (World.grownBy.block h k y j)⟩
theorem Grew.rs{a b:World}{v:Value}(g:Grew a b v){p:Nat}{w0:World}{r:Rd}(h:RS w0 p a r)(j:∀k,v.ownBlock=some k->k≠p/\w0.heap.size<=k):RS w0 p b r:=by
 obtain⟨Q,F,q,A,c,D,z,u⟩:=h;exact⟨Q,g.below F F.size (λk y=>(j k y).2),q,A,c,D.same (g.block p D.lt (λe=>(j p e.symm).1 rfl)),z,u⟩
theorem JP(w0:World)(p:Nat)(r:Rd)(w:World)(h:RS w0 p w r) :
  Calls prog 140 #[.pointer (some (Z p 0))] w λen w'=>∃A c,en=.returned (.slice A (Cj r).1.length c)/\(Cj r).1.length<=c/\c<=maxLen/\Aa.OB w' w.heap.size (.slice A (Cj r).1.length c) (Cj r).1/\RS w0 p w' (Cj r).2/\Wrote p w w':=by
 have H:=J h;obtain⟨A,c,k0,k1,f0,f1,HR,hc,bj⟩:=h.parts;clear h k0 k1 f0 f1 HR hc;have am:0<=(AN r).1/\(AN r).1<=1099511627776:=by
  unfold AN;split
  .simp
  .simp only;omega
 obtain⟨⟨n,r1⟩,hn⟩:∃d,AN r=d:=⟨_,rfl⟩;have HN:=J hn;rw[hn] at am;simp only at am;obtain⟨m,rfl⟩:∃m:Nat,n=(m:Int):=⟨n.toNat,U⟩;clear hn;have ag:O (Cj r=CB m (if 2000<(m:Int) then (r1.1,true) else r1) []):=J (by unfold Cj;rw[HN.o];simp);go_enter func140,ntmps140;go_wp2_with fail;refine(DX w0 p r w H.o).mono ?_;rintro en W ⟨rfl,K,aa⟩;rw[HN.o] at K|-;simp only at K;have H1:=J K;have W1:=J aa;obtain⟨A1,c1,bb,bc,au,av,aq,aw,an⟩:=K.parts;clear K aa;by_cases be:2000<m
 .have ay:decide ((2000:Int)<(m:Int))=true:=zm;have HF:O (Cj r=([],(r1.1,true))):=J (by rw[ag.o,if_pos U];exact JV rfl);go_wp2;go_loopw [3,4] (λct v wr=>∃(k:Nat) (out:List Ent) (r':Rd) (v':Value),v'=v/\ct=I (k:Int)/\O (CB k r' out=Cj r)/\(r'.2=true\/out.length+k<=2000)/\k<=1099511627776/\O (Aa.OB wr w.heap.size v' out)/\O (RS w0 p wr r')/\O (Wrote p w wr)) (λct _ _=>(intOf ct).toNat)
  case atStart=>exact⟨m,[],(r1.1,true),_,rfl,rfl,J (by rw[HF.o];exact JV rfl),.inl rfl,U,J (Elem.OB.nil _ _),J (H1.o.failed true),W1.o.t (Wrote.set _ _ _ _)⟩
  case round=>
   exact Pr
 .have ay:decide ((2000:Int)<(m:Int))=false:=zm;have HF:O (Cj r=CB m r1 []):=J (by rw[ag.o,if_neg U]);go_wp2;go_loopw [3,4] (λct v wr=>∃(k:Nat) (out:List Ent) (r':Rd) (v':Value),v'=v/\ct=I (k:Int)/\O (CB k r' out=Cj r)/\(r'.2=true\/out.length+k<=2000)/\k<=1099511627776/\O (Aa.OB wr w.heap.size v' out)/\O (RS w0 p wr r')/\O (Wrote p w wr)) (λct _ _=>(intOf ct).toNat)
  case atStart=>exact⟨m,[],r1,_,rfl,rfl,J (by rw[HF.o]),.inr zm,U,J (Elem.OB.nil _ _),H1,W1⟩
  case round=>
   exact Pr
theorem IC{w:World}{A:Option Addr}{l:List Ent}(h:Row w A (Aa.cells l)):Aa.Box w A l:=⟨h,λ_ _=>⟨trivial,λr j=>by simp[Aa] at j⟩⟩
theorem YR{w:World}{A:Option Addr}{l:List (List UInt8)}(h:Row w A (AU.cells l)):AU.Box w A l:=⟨h,λ_ _=>⟨trivial,λr j=>by simp[AU] at j⟩⟩
theorem Xk{w:World}{A:Option Addr}{l:List (Int×Int)}(h:Row w A (AA.cells l)):AA.Box w A l:=⟨h,λ_ _=>⟨trivial,λr j=>by simp[AA] at j⟩⟩
theorem Yl{w:World}{B:Nat}{A:Option Addr}{n c:Nat}{l:List FlM}(h:flE.OB w B (.slice A n c) l)(hp:0<l.length):∃g,A=some (Z g 0)/\g<w.heap.size/\∀i,w.frozen? (Z g i)=false:=by
 obtain⟨_,F⟩:=h.1;rcases F with ⟨_,z⟩|⟨g,cap,u,q,_,j,_⟩
 .omega
 .simp only[Value.slice.injEq] at q;have y:g<w.heap.size:=by
   rcases Nat.lt_or_ge g w.heap.size with hlt|hge
   .exact hlt
   .rw[Array.getElem?_eq_none hge] at j;cases j
  exact⟨g,q.1,y,λi=>by simp[World.frozen?,j]⟩
theorem BM.Fits.of_st{b q:BM}(h:b.Fits)(e:q.st=b.st)(R:q.log.length<=q.cl/\q.cl<=maxLen):q.Fits:=by
 simp only[BM.st,St.mk.injEq] at e;obtain⟨_,z,_,D,_,_,F,Q,K⟩:=e;refine⟨by rw[<-AW,z,AW];exact h.vs,λv T=>?_,by rw[D];exact h.log,by rw[D];exact h.lp,by rw[F];exact h.pend,by rw[F];exact h.pp,by rw[Q];exact h.marks,?_,λf G=>?_,R⟩
 .have:v.v∈vws b.vs:=by rw[<-z];exact List.mem_map_of_mem T
  obtain⟨u,y,j⟩:=List.mem_map.1 this;have:=h.vx u y;simp only[VwM.v,Prod.mk.injEq] at j;rw[<-j.2];exact this
 .have:=congrArg List.length K;simp only[zP] at this;rw[this];exact h.fls
 .have:f.v∈b.fls.map FlM.v:=by rw[<-K];exact List.mem_map_of_mem G
  obtain⟨u,y,j⟩:=List.mem_map.1 this;have:=h.fl u y;simp only[FlM.v,Prod.mk.injEq] at j;rw[<-j.2.2];exact this
def BY(p n1 n2 n3 n4 n5:Nat):Nat->Nat:=λk=>if k<p then 8 else if k=p\/k=p+1 then 1 else if k<n1 then 0 else if k<n2 then 2 else if k<n3 then 6 else if k<n4 then 3 else if k<n5 then 4 else 0
section
variable {p n1 n2 n3 n4 n5 k:Nat}
theorem qj:BY p n1 n2 n3 n4 n5 p=1/\BY p n1 n2 n3 n4 n5 (p+1)=1:=by constructor<;>(unfold BY;rw[if_neg U,if_pos U])
theorem ZU(h:k<p):BY p n1 n2 n3 n4 n5 k=8:=by unfold BY;rw[if_pos h]
theorem Re(h:k<n1)(hp:p+1<k):BY p n1 n2 n3 n4 n5 k=0:=by unfold BY;rw[if_neg U,if_neg U,if_pos h]
theorem qg(q:p+1<n1)(h:n1<=k)(j:k<n2):BY p n1 n2 n3 n4 n5 k=2:=by unfold BY;rw[if_neg U,if_neg U,if_neg U,if_pos j]
theorem ZT(q:p+1<n1)(Q:n1<=n2)(h:n2<=k)(j:k<n3):BY p n1 n2 n3 n4 n5 k=6:=by unfold BY;rw[if_neg U,if_neg U,if_neg U,if_neg U,if_pos j]
theorem ZR(q:p+1<n1)(Q:n1<=n2)(F:n2<=n3)(h:n3<=k)(j:k<n4):BY p n1 n2 n3 n4 n5 k=3:=by unfold BY;rw[if_neg U,if_neg U,if_neg U,if_neg U,if_neg U,if_pos j]
theorem Rk(q:p+1<n1)(Q:n1<=n2)(F:n2<=n3)(u:n3<=n4)(h:n4<=k)(j:k<n5):BY p n1 n2 n3 n4 n5 k=4:=by unfold BY;rw[if_neg U,if_neg U,if_neg U,if_neg U,if_neg U,if_neg U,if_pos j]
theorem ZG(j:p+1<n1)(Q:n1<=n2)(F:n2<=n3)(q:n3<=n4)(u:n4<=n5)(h:n5<=k):BY p n1 n2 n3 n4 n5 k=0:=by unfold BY;rw[if_neg U,if_neg U,if_neg U,if_neg U,if_neg U,if_neg U,if_neg U]
end
structure OffS(col:Nat->Nat)(cs:List Nat)(w w':World):Prop where
 size:w.heap.size<=w'.heap.size
 block:∀k,k<w.heap.size->col k∉cs->w'.heap[k]?=w.heap[k]?
theorem OffS.ext{col:Nat->Nat}{cs:List Nat}{w w':World}(h:V w w'):OffS col cs w w':=⟨h.size,λk y _=>h.block k y⟩
theorem OffS.trans{col:Nat->Nat}{cs:List Nat}{w w' j:World}(h:OffS col cs w w')(q:OffS col cs w' j):OffS col cs w j:=
 ⟨zL h.size q.size,λk y u=>(q.block k (Nat.lt_of_lt_of_le y h.size) u).trans (h.block k y u)⟩
theorem OffS.t{col:Nat->Nat}{cs:List Nat}{w w' j:World}(h:OffS col cs w w')(q:OffS col cs w' j):O (OffS col cs w j):=J (h.trans q)
theorem OffS.row{col:Nat->Nat}{k:Nat}{cs:List Nat}{w w':World}{A:Option Addr}{xs:List Value}(o:OffS col cs w w')(h:Row w A xs)(K:ColR col k A xs)(y:k∉cs):Row w' A xs:=by
 intro z;obtain⟨b,q,Q,F,G⟩:=h z;refine⟨b,q,Q,Nat.lt_of_lt_of_le F o.size,λj u R=>?_⟩;have D:w'.heap[b]?=w.heap[b]?:=o.block b F (by rw[K _ z Q];exact y);exact(World.cell?_of_block (a:=⟨b,q+j,none⟩) D).trans (G j u R)
theorem OffS.own{α:Type}{E:Elem α}{col:Nat->Nat}{k B:Nat}{cs:List Nat}{w w':World}{v:Value}{l:List α}(o:OffS col cs w w')(h:E.Own w B v l)(u:ColV col k v)(y:k∉cs):E.Own w' B v l:=
 h.keep λq z j=>o.block q j (by rw[u q z];exact y)
theorem ColV.row{α:Type}{E:Elem α}{B:Nat}{w:World}{col:Nat->Nat}{k n c:Nat}{A:Option Addr}{l:List α}{xs:List Value}(h:ColV col k (.slice A n c))(j:E.Own w B (.slice A n c) l):ColR col k A xs:=by
 intro p _ hp;subst hp;exact h p.block rfl
theorem qm{col:Nat->Nat}{c B:Nat}{w w':World}{v:Value}{l:List FlM}(o:Off col c w w')(h:flE.OB w B v l)(z:ColV col 4 v)(y:∀f∈l,ColR col 0 f.A (Aa.cells f.log))(q:0≠c)(u:4≠c):flE.OB w' B v l:=by
 refine⟨o.own h.1 z u,λf G=>⟨(h.2 f G).1,λr j=>⟨?_,((h.2 f G).2 r j).2⟩⟩⟩;have Q:=((h.2 f G).2 r j).1;simp only[flE,zC,zN,or_false] at j;subst j;exact o.row Q (y f G) q
theorem nine{w:World}{p:Nat}{a0 a1 a2 a3 a4 a5 a6 a7 a8:Value}{t:TypeId}(h:BIs w p #[a0,a1,a2,a3,a4,a5,a6,a7,a8] t):w.cell? (Z p 0)=some a0/\w.cell? (Z p 1)=some a1/\w.cell? (Z p 2)=some a2/\w.cell? (Z p 3)=some a3/\w.cell? (Z p 4)=some a4/\w.cell? (Z p 5)=some a5/\w.cell? (Z p 6)=some a6/\w.cell? (Z p 7)=some a7/\w.cell? (Z p 8)=some a8:=
 ⟨h.cell 0,h.cell 1,h.cell 2,h.cell 3,h.cell 4,h.cell 5,h.cell 6,h.cell 7,h.cell 8⟩
theorem Ba{w:World}{r:Nat}{x0 x1 x2 x3 x4 x5 x6 x7 x8 a0 a1 a2 a3 a4 a5 a6 a7 a8:Value}{t:TypeId}(h:BIs w r #[x0,x1,x2,x3,x4,x5,x6,x7,x8] t):BIs (((((((((w.setCell (Z r 0) a0).setCell (Z r 1) a1).setCell (Z r 2) a2).setCell (Z r 3) a3).setCell (Z r 4) a4).setCell (Z r 5) a5).setCell (Z r 6) a6).setCell (Z r 7) a7).setCell (Z r 8) a8) r #[a0,a1,a2,a3,a4,a5,a6,a7,a8] t:=by
 have j:BIs (w.setCell (Z r 0) a0) r #[a0,x1,x2,x3,x4,x5,x6,x7,x8] t:=h.set 0 a0;have Q:BIs ((w.setCell (Z r 0) a0).setCell (Z r 1) a1) r #[a0,a1,x2,x3,x4,x5,x6,x7,x8] t:=j.set 1 a1;have F:BIs (((w.setCell (Z r 0) a0).setCell (Z r 1) a1).setCell (Z r 2) a2) r #[a0,a1,a2,x3,x4,x5,x6,x7,x8] t:=Q.set 2 a2;have q:BIs ((((w.setCell (Z r 0) a0).setCell (Z r 1) a1).setCell (Z r 2) a2).setCell (Z r 3) a3) r #[a0,a1,a2,a3,x4,x5,x6,x7,x8] t:=F.set 3 a3;have u:BIs (((((w.setCell (Z r 0) a0).setCell (Z r 1) a1).setCell (Z r 2) a2).setCell (Z r 3) a3).setCell (Z r 4) a4) r #[a0,a1,a2,a3,a4,x5,x6,x7,x8] t:=q.set 4 a4;have y:BIs ((((((w.setCell (Z r 0) a0).setCell (Z r 1) a1).setCell (Z r 2) a2).setCell (Z r 3) a3).setCell (Z r 4) a4).setCell (Z r 5) a5) r #[a0,a1,a2,a3,a4,a5,x6,x7,x8] t:=u.set 5 a5;have z:BIs (((((((w.setCell (Z r 0) a0).setCell (Z r 1) a1).setCell (Z r 2) a2).setCell (Z r 3) a3).setCell (Z r 4) a4).setCell (Z r 5) a5).setCell (Z r 6) a6) r #[a0,a1,a2,a3,a4,a5,a6,x7,x8] t:=y.set 6 a6;have D:BIs ((((((((w.setCell (Z r 0) a0).setCell (Z r 1) a1).setCell (Z r 2) a2).setCell (Z r 3) a3).setCell (Z r 4) a4).setCell (Z r 5) a5).setCell (Z r 6) a6).setCell (Z r 7) a7) r #[a0,a1,a2,a3,a4,a5,a6,a7,x8] t:=z.set 7 a7;have G:BIs (((((((((w.setCell (Z r 0) a0).setCell (Z r 1) a1).setCell (Z r 2) a2).setCell (Z r 3) a3).setCell (Z r 4) a4).setCell (Z r 5) a5).setCell (Z r 6) a6).setCell (Z r 7) a7).setCell (Z r 8) a8) r #[a0,a1,a2,a3,a4,a5,a6,a7,a8] t:=D.set 8 a8;exact G
theorem AS{w:World}{r:Nat}{a0 a1 a2 a3 a4 a5 a6 a7 a8:Value}:Wrote r w (((((((((w.setCell (Z r 0) a0).setCell (Z r 1) a1).setCell (Z r 2) a2).setCell (Z r 3) a3).setCell (Z r 4) a4).setCell (Z r 5) a5).setCell (Z r 6) a6).setCell (Z r 7) a7).setCell (Z r 8) a8):=
 ((((((((Wrote.set r 0 w a0).trans (Wrote.set r 1 _ a1)).trans (Wrote.set r 2 _ a2)).trans (Wrote.set r 3 _ a3)).trans (Wrote.set r 4 _ a4)).trans (Wrote.set r 5 _ a5)).trans (Wrote.set r 6 _ a6)).trans (Wrote.set r 7 _ a7)).trans (Wrote.set r 8 _ a8)
theorem OffS.wrote{col:Nat->Nat}{cs:List Nat}{p:Nat}{w w':World}(h:Wrote p w w')(j:p<w.heap.size->col p∈cs):OffS col cs w w':=
 ⟨h.size,λk y q=>h.blk y (λe=>q (by subst e;exact j y))⟩
def BM.Cloned(w:World)(b:BM)(en:Ending)(w':World):Prop:=
 ∃(b':BM) (col:Nat->Nat),en=.returned (.agg b'.cells)/\b'.st=b.st/\b'.Fits/\b'.Lies w' w.heap.size col/\(∀k,k<w.heap.size->col k=8)/\AU.Own w' w.heap.size (.slice b'.Ap b'.pend.length b'.cp) b'.pend/\ColV col 6 (.slice b'.Ap b'.pend.length b'.cp)/\V w w'
theorem KE(b:BM)(w:World)(h:b.Reads w)(G:b.Fits):Calls prog 39 #[.agg b.cells] w (b.Cloned w):=by
 have H0:=J (V.new w (.cells b.cells 28));have X0:O (V (w.alloc (.cells b.cells 28)) ((w.alloc (.cells b.cells 28)).alloc (.cells Yq 28))):=J (V.new _ _);have HR:=J h;have ax:=J G;have af:O (V w (w.alloc (.cells b.cells 28))):=H0;have b9:=J (h.ext (H0.o.trans X0.o));have cr:b.vs.length<=1000000:=by have:=G.vs;omega
 have ck:b.log.length<=1000000:=by have:=G.log;omega
 have co:b.pend.length<=1000000:=by have:=G.pend;omega
 have cn:b.marks.length<=1000000:=by have:=G.marks;omega
 have ch:b.fls.length<=1000000:=by have:=G.fls;omega
 clear h G;unfold BM.cells at H0|-;go_enter func39,ntmps39;go_wp2;refine eC 13 (λw'=>w'.cell? (Y w 1)=some (.slice b.Av b.vs.length b.cv)/\w'.cell? (Y w 3)=some (.slice b.Al b.log.length b.cl)/\w'.cell? (Y w 6)=some (.slice b.Ap b.pend.length b.cp)/\w'.cell? (Y w 7)=some (.slice b.Am b.marks.length b.cm)) ⟨zj,zj,zj,zj⟩ (λyH=>?_);refine eb 0 ?_;refine eb 3 ?_;refine eb 6 ?_;refine eb 9 ?_;refine eB 2 λK hK=>?_;go_simp;go_at_call 93;refine(Sq b.Av b.cv b.vs _ (b9.o.ext zW).vs cr ax.o.vx).mono ?_;rintro e W ⟨l1,bm,b6,A1,c1,rfl,cw,cx,ho,hx⟩;have aa:=J ho;have bg:O (V ((w.alloc (.cells b.cells 28)).alloc (.cells Yq 28)) W):=J (V.trans zW hx);clear ho;have a9:=J (V.trans (X0.o.drew) hx);obtain⟨q0,q1,q2,q3,q4,q5,q6,q7,q8,zz⟩:=JD (b:=b) a9.o;clear hx;clear yH;refine hK.out _ _ ⟨q1,q3,q6,q7⟩ (λyH=>?_);clear hK K;try simp only[Act.put,Au,Aw,Ay]
 refine ea 12 ?_;refine eB 5 λK hK=>?_;go_simp;go_at_call 108;refine(Il b.Al b.cl b.log _ (IC (HR.o.ext (af.o.trans a9.o)).log) ck).mono ?_;rintro e w2 ⟨A2,c2,rfl,cb,cc,ho,hx⟩;have bk:=J ho;have au:=J hx;clear ho;have ba:=J (V.trans a9.o hx);obtain⟨q0,q1,q2,q3,q4,q5,q6,q7,q8,zz⟩:=JD (b:=b) ba.o;clear hx;clear yH;refine hK.out _ _ ⟨q1,q3,q6,q7⟩ (λyH=>?_);clear hK K;try simp only[Act.put,Au,Aw,Ay]
 refine eB 8 λK hK=>?_;go_simp;go_at_call 109;refine(Ul b.Ap b.cp b.pend _ (YR (HR.o.ext (af.o.trans ba.o)).pend) co).mono ?_;rintro e w3 ⟨A3,c3,rfl,cy,cz,ho,hx⟩;have ae:=J ho;have av:=J hx;clear ho;have bc:=J (V.trans ba.o hx);obtain⟨q0,q1,q2,q3,q4,q5,q6,q7,q8,zz⟩:=JD (b:=b) bc.o;clear hx;clear yH;refine hK.out _ _ ⟨q1,q3,q6,q7⟩ (λyH=>?_);clear hK K;try simp only[Act.put,Au,Aw,Ay]
 refine eB 11 λK hK=>?_;go_simp;go_at_call 110;refine(TG b.Am b.cm b.marks _ (Xk (HR.o.ext (af.o.trans bc.o)).marks) cn).mono ?_;rintro e R ⟨A4,c4,rfl,c7,c8,ho,hx⟩;have bl:=J ho;have aw:=J hx;clear ho;have am:=J (V.trans bc.o hx);obtain⟨q0,q1,q2,q3,q4,q5,q6,q7,q8,zz⟩:=JD (b:=b) am.o;clear hx;clear yH;refine hK.out _ _ ⟨q1,q3,q6,q7⟩ (λyH=>?_);clear hK K;try simp only[Act.put,Au,Aw,Ay]
 refine eH ?_;have Y4:=J (BIs.ext (BIs.new w b.cells 28) am.o);have Z4:O (BIs R (w.heap.size+1) Yq 28):=J (by have:=BIs.ext (BIs.new _ _ _) (bg.o.trans (au.o.trans (av.o.trans aw.o)));simpa using this);have cu:=J (show l1.length=b.vs.length by have:=congrArg List.length bm.o;simpa[AW] using this);have z1:O (w.heap.size+1<W.heap.size):=J (by have:=bg.o.size;simp at this;omega);obtain⟨f0,f1,f2,f3,f4,f5,f6,f7,f8⟩:=Y4.o.free9;go_wp2_with fail;refine(U6 b.Af b.cf b.fls _ ?_ ch).mono ?_
 .exact(HR.o.ext (((((af.o.trans am.o).set zj _).set zj _).set zj _).set zj _)).fls
 rintro e w5 ⟨A5,j,rfl,c9,da,bv,be⟩;have Y5:O (BIs w5 w.heap.size #[I b.self,.slice A1 l1.length c1,I b.base,.slice A2 b.log.length c2,I b.stable,I b.sent,.slice A3 b.pend.length c3,.slice A4 b.marks.length c4,.slice b.Af b.fls.length b.cf] 28):=J (BIs.ext ((((Y4.o.set 1 (.slice A1 l1.length c1)).set 3 (.slice A2 b.log.length c2)).set 6 (.slice A3 b.pend.length c3)).set 7 (.slice A4 b.marks.length c4)) be);have az:=J bv;have E5:O (V ((((R.setCell (Y w 1) (.slice A1 l1.length c1)).setCell (Y w 3) (.slice A2 b.log.length c2)).setCell (Y w 6) (.slice A3 b.pend.length c3)).setCell (Y w 7) (.slice A4 b.marks.length c4)) w5):=J be;clear bv be;have al:O (Wrote w.heap.size R (w5.setCell (Y w 8) (.slice A5 b.fls.length j))):=J ((((((Wrote.set _ _ _ _).trans (Wrote.set _ _ _ _)).trans (Wrote.set _ _ _ _)).trans (Wrote.set _ _ _ _)).trans (Wrote.of E5.o)).trans (Wrote.set _ _ _ _));have BP:O (BIs (w5.setCell (Y w 8) (.slice A5 b.fls.length j)) w.heap.size #[I b.self,.slice A1 l1.length c1,I b.base,.slice A2 b.log.length c2,I b.stable,I b.sent,.slice A3 b.pend.length c3,.slice A4 b.marks.length c4,.slice A5 b.fls.length j] 28):=J (Y5.o.set 8 _);have BR:O (BIs (w5.setCell (Y w 8) (.slice A5 b.fls.length j)) (w.heap.size+1) Yq 28):=J (al.o.bis Z4.o U);have bu:O (R.heap.size<=(w5.setCell (Y w 8) (.slice A5 b.fls.length j)).heap.size):=J al.o.size;have ah:O (w.heap.size+1<R.heap.size):=J Z4.o.lt;have bw:((((R.setCell (Y w 1) (.slice A1 l1.length c1)).setCell (Y w 3) (.slice A2 b.log.length c2)).setCell (Y w 6) (.slice A3 b.pend.length c3)).setCell (Y w 7) (.slice A4 b.marks.length c4)).heap.size=R.heap.size:=by simp[World.setCell]
 have OF:O (flE.OB (w5.setCell (Y w 8) (.slice A5 b.fls.length j)) R.heap.size (.slice A5 b.fls.length j) b.fls):=J (by
  have ho:=az.o;rw[bw] at ho;refine⟨ho.1.keep λk y ag=>(Wrote.set w.heap.size 8 w5 _).blk ag (by have:=(ho.1.lt k y).1;have:=ah.o;omega),λf G=>⟨(ho.2 f G).1,λr hr=>⟨?_,((ho.2 f G).2 r hr).2⟩⟩⟩;have ao:=hr;simp only[flE,zC,zN,or_false] at hr;subst hr;exact I1 ((ho.2 f G).2 (f.A,Aa.cells f.log) ao).1 (λq X z=>by have:=Fz ((HR.o.fls.2 f G).2 (f.A,Aa.cells f.log) ao) X z;simp;omega))
 obtain⟨g0,ci,br⟩:∃g0,R.heap.size<=g0/\∀q,(Value.slice A5 b.fls.length j).ownBlock=some q->q=g0:=by
  rcases A5 with _|ad
  .exact⟨R.heap.size,zR _,λq z=>by simp[Value.ownBlock] at z⟩
  .exact⟨ad.block,(OF.o.1.lt ad.block rfl).1,λq z=>by simp only[Value.ownBlock,zJ] at z;exact z.symm⟩
 have bh:=J br;clear br bw;have t8:w5.cell? (Y w 8)=some (.slice b.Af b.fls.length b.cf):=Y5.o.cell 8;have s8:=Y5.o.free 8;go_wp2;clear t8 s8;have bn:=al;clear Y4 Z4 Y5 q0 q1 q2 q3 q4 q5 q6 q7 q8 f0 f1 f2 f3 f4 f5 f6 f7 f8 al yH;generalize w5.setCell (Y w 8) (.slice A5 b.fls.length j)=u5 at *;go_loopw [27] (λi wr=>∃(k:Nat) (l':List FlM),k<=b.fls.length/\i=I k/\O (l'.length=b.fls.length)/\O (flv l'=flv b.fls)/\O (flE.OB wr R.heap.size (.slice A5 b.fls.length j) l')/\O (∀i f,i<k->l'[i]?=some f->∀q,Aa.cells f.log≠[]->f.A=some q->u5.heap.size<=q.block)/\O (Wrote g0 u5 wr)) (λi _=>b.fls.length - (intOf i).toNat)
 case atStart=>exact⟨0,b.fls,zO _,rfl,J rfl,J rfl,OF,J (λi f hi=>absurd hi (Nat.not_lt_zero _)),J (Wrote.refl _ _)⟩
 case round=>
  obtain⟨k,l',y,rfl,T,ay,ab,bi,HW⟩:=hrel;have aq:=J (HW.o.bis BP.o (by have:=ah.o;omega));by_cases ag:k<b.fls.length
  .have bt:k<l'.length:=by rw[T.o];exact ag
   obtain⟨g,rfl,db,bq⟩:=Yl ab.o U;have cj:g=g0:=bh.o g rfl;subst cj;have b4:O (flE.Box wr (some (Z g 0)) l'):=J (by
    obtain⟨A',c',hv,_,_,D⟩:=ab.o.slice;simp only[Value.slice.injEq] at hv;rw[hv.1];exact D)
   obtain⟨bb,dd,f,hA,D,c0,bo,bd,b5,HX⟩:=Fd b4.o bt;simp only[zJ,Addr.mk.injEq,and_true] at hA;obtain⟨rfl,rfl⟩:=hA;simp only[Nat.zero_add] at c0 bo bd;have f2:=bq (k*3+2);have p8:wr.cell? (Y w 8)=some (.slice (some (Z g 0)) b.fls.length j):=aq.o.cell 8;have cq:w.heap.size<wr.heap.size:=aq.o.lt;have cg:f.log.length<=1000000:=by
    have hm:f.v∈flv b.fls:=by rw[<-ay.o];exact List.mem_map_of_mem (zX HX.o)
    obtain⟨u,hu,b1⟩:=List.mem_map.1 hm;have:=(ax.o.fl u hu).1;simp only[FlM.v,Prod.mk.injEq] at b1;rw[<-b1.2.2];omega
   clear c0 bo bq;go_wp2;refine eC 10 (λw'=>w'.cell? (Y w 8)=some (.slice (some (Z g 0)) b.fls.length j)/\Cq w' g (k*3+2) (.slice f.A f.log.length f.c)) ⟨p8,bd⟩ (λyH=>?_);refine ec 0 ?_;refine ec 4 ?_;refine ea 8 ?_;refine eB 9 λK hK=>?_;go_simp;go_at_call 108;refine(Il f.A f.c f.log _ (IC (b5.o.ext zW)) cg).mono ?_;rintro e w6 ⟨A6,c6,rfl,cd,ce,ai,b3⟩;have ak:=J ai;have E6:O (V wr w6):=J (V.trans zW b3);have s8:w6.cell? (Y w 8)=some (.slice (some (Z g 0)) b.fls.length j):=by rw[E6.o.cell (by exact cq)];exact p8
   have d2:w6.cell? (Z g (k*3+2))=some (.slice f.A f.log.length f.c):=by rw[E6.o.cell (by exact D)];exact bd
   have g2:w6.frozen? (Z g (k*3+2))=false:=by rw[E6.o.frozen (by exact D)];exact f2
   clear ai b3;clear yH;refine hK.out _ _ ⟨s8,d2⟩ (λyH=>?_);clear hK K;try simp only[Act.put,Au,Aw,Ay]
   refine eH ?_;have b7:O (flE.OB w6 R.heap.size (.slice (some (Z g 0)) l'.length j) l'):=J (by rw[T.o];exact ab.o.ext E6.o);have ca:O (Row w6 A6 (Aa.cells f.log)):=J ak.o.1.row;have bj:O (Hr wr A6 (Aa.cells f.log)):=J (λq _ z=>by subst z;exact(ak.o.1.lt q.block rfl).1);have b8:=J (Yo (k:=k) b7.o HX.o cd ce ca.o (Hg (E:=flE) (wc:=wr) (B:=R.heap.size) (l:=l') bj.o (by rw[T.o];exact ab.o.1)));have bz:O (u5.heap.size<=wr.heap.size):=J HW.o.size;go_wp2;go_roundw
   case rel=>exact⟨k+1,l'.set k ⟨f.m,f.b,A6,c6,f.log⟩,U,by go_num,J (by rw[List.length_set];exact T.o),J (by rw[YL HX.o];exact ay.o),J (by have:=b8.o;rw[T.o] at this;exact this),J (λi f' hi an q X z=>by
    rw[List.getElem?_set] at an;split at an
    .cases an;exact zL bz.o (bj.o q X z)
    .exact bi.o i f' U an q X z),J ((HW.o.trans (Wrote.of E6.o)).trans (Wrote.set _ _ _ _))⟩
   case measure=>simp[intOf];omega
  .have ar:=J (HW.o.bis BR.o (by have:=ah.o;omega));obtain⟨q0,q1,q2,q3,q4,q5,q6,q7,q8⟩:=nine aq.o;obtain⟨z0,z1,z2,z3,z4,z5,z6,z7,z8⟩:=ar.o.free9;obtain⟨y0,y1,y2,y3,y4,y5,y6,y7,y8⟩:=nine ar.o;have dc:w.heap.size+1≠w.heap.size:=U;go_wp2;generalize hQ:(((((((((wr.setCell (Pv w 0) (I b.self)).setCell (Pv w 1) (.slice A1 l1.length c1)).setCell (Pv w 2) (I b.base)).setCell (Pv w 3) (.slice A2 b.log.length c2)).setCell (Pv w 4) (I b.stable)).setCell (Pv w 5) (I b.sent)).setCell (Pv w 6) (.slice A3 b.pend.length c3)).setCell (Pv w 7) (.slice A4 b.marks.length c4)).setCell (Pv w 8) (.slice A5 b.fls.length j))=wF at *;have W9:O (Wrote (w.heap.size+1) wr wF):=(by subst hQ;exact J AS);have BF:O (BIs wF (w.heap.size+1) #[I b.self,.slice A1 l1.length c1,I b.base,.slice A2 b.log.length c2,I b.stable,I b.sent,.slice A3 b.pend.length c3,.slice A4 b.marks.length c4,.slice A5 b.fls.length j] 28):=(by subst hQ;exact J (Ba ar.o));clear q0 q1 q2 q3 q4 q5 q6 q7 q8 z0 z1 z2 z3 z4 z5 z6 z7 z8 y0 y1 y2 y3 y4 y5 y6 y7 y8;clear hQ;obtain⟨e0,e1,e2,e3,e4,e5,e6,e7,e8⟩:=nine BF.o;refine bodyPost_ret (v:=.agg #[I b.self,.slice A1 l1.length c1,I b.base,.slice A2 b.log.length c2,I b.stable,I b.sent,.slice A3 b.pend.length c3,.slice A4 b.marks.length c4,.slice A5 b.fls.length j]) (by simp[results,results39,go_sem,e0,e1,e2,e3,e4,e5,e6,e7,e8]) rfl ?_;have aj:=au.o.size;have ap:=av.o.size;have bf:=aw.o.size;have ac:=z1.o;have ct:=bu.o;have b0:=qj (p:=w.heap.size) (n1:=W.heap.size) (n2:=w2.heap.size) (n3:=w3.heap.size) (n4:=R.heap.size) (n5:=u5.heap.size);have O9:OffS (BY w.heap.size W.heap.size w2.heap.size w3.heap.size R.heap.size u5.heap.size) [1,4] wr wF:=OffS.wrote W9.o (λ_=>by rw[b0.2];simp);have O5:OffS (BY w.heap.size W.heap.size w2.heap.size w3.heap.size R.heap.size u5.heap.size) [1,4] u5 wF:=(OffS.wrote HW.o (λh=>by rw[Rk ac aj ap bf ci h];simp)).trans O9;have O4:OffS (BY w.heap.size W.heap.size w2.heap.size w3.heap.size R.heap.size u5.heap.size) [1,4] R wF:=(OffS.wrote bn.o (λ_=>by rw[b0.1];simp)).trans O5;have O3:=(OffS.ext (col:=BY w.heap.size W.heap.size w2.heap.size w3.heap.size R.heap.size u5.heap.size) (cs:=[1,4]) aw.o).trans O4;have O2:=(OffS.ext (col:=BY w.heap.size W.heap.size w2.heap.size w3.heap.size R.heap.size u5.heap.size) (cs:=[1,4]) av.o).trans O3;have O1:=(OffS.ext (col:=BY w.heap.size W.heap.size w2.heap.size w3.heap.size R.heap.size u5.heap.size) (cs:=[1,4]) au.o).trans O2;have C1:ColV (BY w.heap.size W.heap.size w2.heap.size w3.heap.size R.heap.size u5.heap.size) 0 (.slice A1 l1.length c1):=λq z=>by have:=aa.o.1.lt q z;simp at this;exact Re this.2 U
   have C2:ColV (BY w.heap.size W.heap.size w2.heap.size w3.heap.size R.heap.size u5.heap.size) 2 (.slice A2 b.log.length c2):=λq z=>by have:=bk.o.1.lt q z;exact qg ac this.1 this.2
   have C3:ColV (BY w.heap.size W.heap.size w2.heap.size w3.heap.size R.heap.size u5.heap.size) 6 (.slice A3 b.pend.length c3):=λq z=>by have:=ae.o.1.lt q z;exact ZT ac aj this.1 this.2
   have C4:ColV (BY w.heap.size W.heap.size w2.heap.size w3.heap.size R.heap.size u5.heap.size) 3 (.slice A4 b.marks.length c4):=λq z=>by have:=bl.o.1.lt q z;exact ZR ac aj ap this.1 this.2
   have C5:ColV (BY w.heap.size W.heap.size w2.heap.size w3.heap.size R.heap.size u5.heap.size) 4 (.slice A5 b.fls.length j):=λq z=>by have:=OF.o.1.lt q z;exact Rk ac aj ap bf this.1 this.2
   have b2:∀v∈l1,ColR (BY w.heap.size W.heap.size w2.heap.size w3.heap.size R.heap.size u5.heap.size) 0 v.A (Ai v.xs):=λv hv q X z=>by
    have Q:=b6.o v hv q X z;have F:=Fz ((aa.o.2 v hv).2 (v.A,Ai v.xs) (by simp[AL])).1 X z;simp at Q;exact Re F U
   have bp:∀f∈l',ColR (BY w.heap.size W.heap.size w2.heap.size w3.heap.size R.heap.size u5.heap.size) 0 f.A (Aa.cells f.log):=λf G q X z=>by
    obtain⟨i,hi,he⟩:=List.mem_iff_getElem.1 G;exact ZG ac aj ap bf ct (bi.o i f (by have:=T.o;omega) (by rw[<-he];exact zY hi) q X z)
   have bx:(⟨b.self,b.base,b.stable,b.sent,A1,c1,l1,A2,c2,b.log,A3,c3,b.pend,A4,c4,b.marks,A5,j,l'⟩:BM).st=b.st:=by
    have Q:=bm.o;have F:=ay.o;unfold flv at F;simp only[BM.st,Q,F]
   refine⟨⟨b.self,b.base,b.stable,b.sent,A1,c1,l1,A2,c2,b.log,A3,c3,b.pend,A4,c4,b.marks,A5,j,l'⟩,BY w.heap.size W.heap.size w2.heap.size w3.heap.size R.heap.size u5.heap.size,?_,bx,ax.o.of_st bx ⟨cb,cc⟩,?_,λk y=>ZU y,?_,C3,?_⟩
   .simp only[BM.cells,T.o]
   .refine⟨⟨O1.row aa.o.1.row (C1.row aa.o.1) zj,λv hv=>⟨(aa.o.2 v hv).1,λr hr=>?_⟩⟩,C1.row aa.o.1,b2,(O2.own bk.o.1 C2 zj).base U,C2,O3.row ae.o.1.row (C3.row ae.o.1) zj,C3.row ae.o.1,(O4.own bl.o.1 C4 zj).base U,C4,?_,by simp only[T.o];exact C5,λf G=>⟨(ab.o.2 f G).1,O9.row ((ab.o.2 f G).2 (f.A,Aa.cells f.log) (by simp[flE])).1 (bp f G) zj,bp f G⟩⟩
    .have ao:=hr;simp only[AL,zC,zN,or_false] at hr;subst hr;exact O1.row ((aa.o.2 v hv).2 _ ao).1 (b2 v hv) zj
    .have:flE.Own wF w.heap.size (.slice A5 b.fls.length j) l':=(ab.o.1.keep λk y ag=>W9.o.blk ag (by have:=bh.o k y;omega)).base U;simp only[T.o];exact this
   .exact(O3.own ae.o.1 C3 zj).base U
   .exact W9.o.ext (HW.o.ext (bn.o.ext (af.o.trans am.o) (zR _)) U) U
structure Stp(B:Nat)(cs:List Nat)(col:Nat->Nat)(w:World)(col':Nat->Nat)(w':World):Prop where
 below:Below B w w'
 hue:∀k,k<w.heap.size->col' k=col k
 off:∀k,k<w.heap.size->col k∉cs->w'.heap[k]?=w.heap[k]?
section
variable {B:Nat} {cs:List Nat} {col col' col'':Nat->Nat} {w w' w'':World}
theorem Stp.size(s:Stp B cs col w col' w'):w.heap.size<=w'.heap.size:=s.below.size
theorem Stp.refl(B:Nat)(cs:List Nat)(col:Nat->Nat)(w:World):Stp B cs col w col w:=⟨Below.refl _ _,λ_ _=>rfl,λ_ _ _=>rfl⟩
theorem Stp.trans(s:Stp B cs col w col' w')(t:Stp B cs col' w' col'' w''):Stp B cs col w col'' w'':=
 ⟨s.below.trans t.below,λk y=>(t.hue k (Nat.lt_of_lt_of_le y s.size)).trans (s.hue k y),λk y h=>(t.off k (Nat.lt_of_lt_of_le y s.size) (by rw[s.hue k y];exact h)).trans (s.off k y h)⟩
theorem Stp.t(s:Stp B cs col w col' w')(t:Stp B cs col' w' col'' w''):O (Stp B cs col w col'' w''):=J (s.trans t)
theorem Stp.mono{cs':List Nat}(s:Stp B cs col w col' w')(h:∀c∈cs,c∈cs'):Stp B cs' col w col' w':=⟨s.below,s.hue,λk y j=>s.off k y (λq=>j (h _ q))⟩
theorem Stp.ext(j:B<=w.heap.size)(e:V w w')(h:∀k,k<w.heap.size->col' k=col k):Stp B cs col w col' w':=⟨e.mono j,h,λk y _=>e.block k y⟩
theorem Stp.ext'(h:B<=w.heap.size)(e:V w w'):Stp B cs col w col w':=Stp.ext h e (λ_ _=>rfl)
theorem Stp.wrote{p:Nat}(h:Wrote p w w')(q:B<=p)(j:B<=w.heap.size)(hp:col p∈cs):Stp B cs col w col w':=
 ⟨(Below.refl B w).grown h j (λk y=>by cases y;exact q),λ_ _=>rfl,λk y u=>h.blk y (λe=>u (by rw[e];exact hp))⟩
theorem Stp.grew{v:Value}(g:Grew w w' v)(h:B<=w.heap.size)(z:∀k,v.ownBlock=some k->B<=k){c:Nat}(q:ColV col c v)(j:c∈cs):Stp B cs col w col w':=
 ⟨(Below.refl B w).grown g h z,λ_ _=>rfl,λk y u=>g.block k y (λe=>u (by rw[q k e.symm];exact j))⟩
theorem Stp.recol(s:Stp B cs col w col' w')(h:∀k,k<w.heap.size->col'' k=col k):Stp B cs col w col'' w':=⟨s.below,h,s.off⟩
theorem Stp.row{k:Nat}{A:Option Addr}{xs:List Value}(s:Stp B cs col w col' w')(h:Row w A xs)(K:ColR col k A xs)(y:k∉cs):Row w' A xs:=by
 intro z;obtain⟨b,q,Q,F,G⟩:=h z;refine⟨b,q,Q,Nat.lt_of_lt_of_le F s.size,λj u R=>?_⟩;have D:w'.heap[b]?=w.heap[b]?:=s.off b F (by rw[K _ z Q];exact y);exact(World.cell?_of_block (a:=⟨b,q+j,none⟩) D).trans (G j u R)
theorem Stp.colR{k:Nat}{A:Option Addr}{xs:List Value}(s:Stp B cs col w col' w')(h:Row w A xs)(j:ColR col k A xs):ColR col' k A xs:=j.old h s.hue
theorem Stp.own{α:Type}{E:Elem α}{k:Nat}{v:Value}{l:List α}(s:Stp B cs col w col' w'){B':Nat}(h:E.Own w B' v l)(u:ColV col k v)(y:k∉cs):E.Own w' B' v l:=
 h.keep λq z j=>s.off q j (by rw[u q z];exact y)
theorem Stp.colV{α:Type}{E:Elem α}{k:Nat}{v:Value}{l:List α}(s:Stp B cs col w col' w'){B':Nat}(h:E.Own w B' v l)(j:ColV col k v):ColV col' k v:=j.old h s.hue
theorem Stp.bis{p:Nat}{j:Array Value}{t:TypeId}(s:Stp B cs col w col' w')(h:BIs w p j t)(hp:col p∉cs):BIs w' p j t:=h.same (s.off p h.lt hp)
variable {b:BM}
theorem BM.Lies.vsK(h:b.Lies w B col)(s:Stp B cs col w col' w')(y:0∉cs):AL.Box w' b.Av b.vs/\ColR col' 0 b.Av (AL.cells b.vs)/\∀v∈b.vs,ColR col' 0 v.A (Ai v.xs):=by
 refine⟨⟨s.row h.vs.1 h.vc y,λv j=>⟨(h.vs.2 v j).1,λr q=>?_⟩⟩,s.colR h.vs.1 h.vc,λv j=>s.colR ((h.vs.2 v j).2 (v.A,Ai v.xs) (by simp[AL])) (h.vi v j)⟩;have u:=q;simp only[AL,zC,zN,or_false] at q;subst q;exact s.row ((h.vs.2 v j).2 _ u) (h.vi v j) y
theorem BM.Lies.fiK(h:b.Lies w B col)(s:Stp B cs col w col' w')(j:0∉cs):∀f∈b.fls,flE.ok f/\Row w' f.A (Aa.cells f.log)/\ColR col' 0 f.A (Aa.cells f.log):=
 λf G=>⟨(h.fi f G).1,s.row (h.fi f G).2.1 (h.fi f G).2.2 j,s.colR (h.fi f G).2.1 (h.fi f G).2.2⟩
theorem BM.Lies.keep(h:b.Lies w B col)(s:Stp B cs col w col' w')(j:0∉cs)(F:2∉cs)(q:3∉cs)(u:4∉cs)(y:6∉cs):b.Lies w' B col':=
 ⟨(h.vsK s j).1,(h.vsK s j).2.1,(h.vsK s j).2.2,s.own h.log h.lc F,s.colV h.log h.lc,s.row h.pend h.pc y,s.colR h.pend h.pc,s.own h.marks h.mc q,s.colV h.marks h.mc,s.own h.fls h.fc u,s.colV h.fls h.fc,h.fiK s j⟩
theorem BM.Lies.relog(h:b.Lies w B col)(s:Stp B cs col w col' w')(j:0∉cs)(q:3∉cs)(u:4∉cs)(y:6∉cs){A:Option Addr}{c:Nat}{l:List Ent}(D:Aa.Own w' B (.slice A l.length c) l)(z:ColV col' 2 (.slice A l.length c)) :
  ({b with Al:=A,cl:=c,log:=l}:BM).Lies w' B col':=
 ⟨(h.vsK s j).1,(h.vsK s j).2.1,(h.vsK s j).2.2,D,z,s.row h.pend h.pc y,s.colR h.pend h.pc,s.own h.marks h.mc q,s.colV h.marks h.mc,s.own h.fls h.fc u,s.colV h.fls h.fc,h.fiK s j⟩
theorem BM.Lies.remarks(h:b.Lies w B col)(s:Stp B cs col w col' w')(j:0∉cs)(F:2∉cs)(q:4∉cs)(u:6∉cs){A:Option Addr}{c:Nat}{l:List (Int×Int)}(z:AA.Own w' B (.slice A l.length c) l)(y:ColV col' 3 (.slice A l.length c)) :
  ({b with Am:=A,cm:=c,marks:=l}:BM).Lies w' B col':=
 ⟨(h.vsK s j).1,(h.vsK s j).2.1,(h.vsK s j).2.2,s.own h.log h.lc F,s.colV h.log h.lc,s.row h.pend h.pc u,s.colR h.pend h.pc,z,y,s.own h.fls h.fc q,s.colV h.fls h.fc,h.fiK s j⟩
theorem BM.Lies.refls(h:b.Lies w B col)(s:Stp B cs col w col' w')(j:0∉cs)(F:2∉cs)(q:3∉cs)(u:6∉cs){A:Option Addr}{c:Nat}{l:List FlM}(D:flE.Own w' B (.slice A l.length c) l)(y:ColV col' 4 (.slice A l.length c))(z:∀f∈l,flE.ok f/\Row w' f.A (Aa.cells f.log)/\ColR col' 0 f.A (Aa.cells f.log)) :
  ({b with Af:=A,cf:=c,fls:=l}:BM).Lies w' B col':=
 ⟨(h.vsK s j).1,(h.vsK s j).2.1,(h.vsK s j).2.2,s.own h.log h.lc F,s.colV h.log h.lc,s.row h.pend h.pc u,s.colR h.pend h.pc,s.own h.marks h.mc q,s.colV h.marks h.mc,D,y,z⟩
theorem BM.Lies.repend(h:b.Lies w B col){A:Option Addr}{c:Nat}{l:List (List UInt8)}(q:Row w A (AU.cells l))(j:ColR col 6 A (AU.cells l)):({b with Ap:=A,cp:=c,pend:=l}:BM).Lies w B col:=
 ⟨h.vs,h.vc,h.vi,h.log,h.lc,q,j,h.marks,h.mc,h.fls,h.fc,h.fi⟩
theorem Ga{n c:Nat}{v j:Value}(h:Stems w v j)(u:ColV col c v)(F:n<=w.heap.size)(D:∀q,v.ownBlock=some q->q<n):ColV (As col n c) c j:=by
 intro q z;rcases h with h|⟨k,y,hle⟩
 .rw[h] at z;rw[AV (D q z)];exact u q z
 .rw[y] at z;cases z;exact Eh U
end
structure CM where
 b:BM
 Ak:Option Addr
 ck:Nat
 pk:List PkM
 Ad:Option Addr
 cd:Nat
 dl:List Ent
def pkE:Elem PkM where
 f v:=[.int .i64 v.t,.slice v.A v.bs.length v.c]
 k:=2
 ty:=102
 st:=35
 z:=.agg #[.int .i64 0,.slice none 0 0]
 bytes:=32
 inn v:=[(v.A,Aj v.bs)]
 ok v:=v.bs.length<=v.c/\v.c<=maxLen
 len _:=rfl
 one a:=by intro u hu;simp only[zC,zN,or_false] at hu;rcases hu with rfl|rfl<;>rfl
 pos:=zd
 und:=Tryz.underlying35
 info:=zh
 zk:=rfl
 small:=zd
def PkM.v(k:PkM):Int×List UInt8:=(k.t,k.bs)
abbrev CM.cells(m:CM):Array Value:=#[.int .i64 m.b.self,.slice m.b.Av m.b.vs.length m.b.cv,.int .i64 m.b.base,.slice m.b.Al m.b.log.length m.b.cl,.int .i64 m.b.stable,.int .i64 m.b.sent,.slice m.b.Ap m.b.pend.length m.b.cp,.slice m.b.Am m.b.marks.length m.b.cm,.slice m.b.Af m.b.fls.length m.b.cf,.slice m.Ak m.pk.length m.ck,.slice m.Ad m.dl.length m.cd]
def CM.cs(m:CM):Cs:=⟨m.b.st,m.pk.map PkM.v,m.dl⟩
structure CS(w:World)(B:Nat)(col:Nat->Nat)(p:Nat)(m:CM):Prop where
 box:BIs w p m.cells 86
 pc:col p=1
 bp:B<=p
 lies:m.b.Lies w B col
 pk:pkE.Own w B (.slice m.Ak m.pk.length m.ck) m.pk
 kc:ColV col 5 (.slice m.Ak m.pk.length m.ck)
 ki:∀k∈m.pk,pkE.ok k/\Row w k.A (Aj k.bs)/\ColR col 0 k.A (Aj k.bs)
 dl:Aa.Own w B (.slice m.Ad m.dl.length m.cd) m.dl
 dc:ColV col 7 (.slice m.Ad m.dl.length m.cd)
 fits:m.b.Fits
 cp:m.b.pend.length<=m.b.cp
section
variable {B p:Nat} {cs:List Nat} {col col':Nat->Nat} {w w':World} {m:CM}
theorem CS.keep(h:CS w B col p m)(s:Stp B cs col w col' w')(j:∀c∈cs,c∉[0,1,2,3,4,5,6,7]):CS w' B col' p m:=by
 have n:∀c,c∈[0,1,2,3,4,5,6,7]->c∉cs:=λc q u=>j c u q;exact⟨s.bis h.box (by rw[h.pc];exact n 1 zj),(s.hue p h.box.lt).trans h.pc,h.bp,h.lies.keep s (n 0 zj) (n 2 zj) (n 3 zj) (n 4 zj) (n 6 zj),s.own h.pk h.kc (n 5 zj),s.colV h.pk h.kc,
  λk y=>⟨(h.ki k y).1,s.row (h.ki k y).2.1 (h.ki k y).2.2 (n 0 zj),s.colR (h.ki k y).2.1 (h.ki k y).2.2⟩,s.own h.dl h.dc (n 7 zj),s.colV h.dl h.dc,h.fits,h.cp⟩
theorem CS.lt(h:CS w B col p m):p<w.heap.size:=h.box.lt
theorem CS.Bsz(h:CS w B col p m):B<=w.heap.size:=zL h.bp (Nat.le_of_lt h.lt)
theorem CS.ext(h:CS w B col p m)(e:V w w'):CS w' B col p m:=h.keep (cs:=[]) (Stp.ext' h.Bsz e) zj
theorem CS.e(h:CS w B col p m)(e:V w w'):O (CS w' B col p m):=J (h.ext e)
end
end Go.Proofs.YtponbabbabnaeaaGreat
