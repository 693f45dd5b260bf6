/- Part 15: contracts of functions. Conditions: as each theorem says. -/
import Derived.Laws.IdiomCopy
import Derived.Lib.Overlaps
import Derived.Shelf.Spec.SlicesInsert
import Derived.Laws.NewBlocks
import Derived.Deep.DeepAppendWide
import Derived.Test.YtponbabbabnaeaaGreatQh13
import Derived.Test.YtponbabbabnaeaaGreatQh14
set_option maxRecDepth 100000
set_option maxHeartbeats 40000000
set_option linter.unusedVariables false
namespace Go.Proofs.YtponbabbabnaeaaGreat
open Tryz
open Go.RowKit
def JE(w:World)(r:Cs)(er:Int)(en:Ending)(w':World):Prop:=
 ∃m:CM,en=.returned (.tuple #[.agg m.b.cells,.slice m.Ak m.pk.length m.ck,.slice m.Ad m.dl.length m.cd,I er])/\m.cs=r/\m.b.Reads w'/\m.b.Fits/\pkE.Box w' m.Ak m.pk/\Row w' m.Ad (Aa.cells m.dl)/\V w w'/\m.b.New w.heap.size/\NewAt w.heap.size m.Ad (Aa.cells m.dl)/\Q7 w.heap.size m
theorem XZ{w G W:World}{B p:Nat}{col q:Nat->Nat}{m:CM}{r:Cs}(h:CS G B col p m)(s:Stp w.heap.size [8] col G q W)(j:m.cs=r)(K:V w W)(u:∀k,k<w.heap.size->col k=8):JE w r 0 (.returned (.tuple #[.agg m.b.cells,.slice m.Ak m.pk.length m.ck,.slice m.Ad m.dl.length m.cd,I 0])) W:=by
 refine⟨m,rfl,j,?_⟩;refine⟨?_,h.fits,⟨?_,λk y=>⟨(h.ki k y).1,λr j=>?_⟩⟩,s.row h.dl.row (h.dc.row h.dl) zj,K,h.lies.new u,(h.dc.row h.dl).new u zd,(h.kc.row h.pk).new u zd,λk y=>(h.ki k y).2.2.new u zd⟩
 .have:=h.lies;exact⟨⟨s.row this.vs.1 this.vc zj,λv F=>⟨(this.vs.2 v F).1,λr j=>by have D:=j;simp only[AL,zC,zN,or_false] at j;subst j;exact s.row ((this.vs.2 v F).2 _ D) (this.vi v F) zj⟩⟩,s.row this.log.row (this.lc.row this.log) zj,s.row this.pend this.pc zj,s.row this.marks.row (this.mc.row this.marks) zj,s.row this.fls.row (this.fc.row this.fls) zj,λf z=>⟨(this.fi f z).1,λr j=>by simp only[flE,zC,zN,or_false] at j;subst j;exact s.row (this.fi f z).2.1 (this.fi f z).2.2 zj⟩⟩
 .exact s.row h.pk.row (h.kc.row h.pk) zj
 .simp only[pkE,zC,zN,or_false] at j;subst j;exact s.row (h.ki k y).2.1 (h.ki k y).2.2 zj
theorem Zh{w:World}{B:Nat}{col:Nat->Nat}{b:BM}(z:b.Lies w B col)(y:b.Fits)(D:b.pend.length<=b.cp)(u:B<=w.heap.size) :
  CS (w.alloc (.cells (⟨b,none,0,[],none,0,[]⟩:CM).cells 86)) B (As (As col w.heap.size 1) (w.heap.size+1) 8) w.heap.size ⟨b,none,0,[],none,0,[]⟩:=by
 refine⟨BIs.new _ _ _,by rw[AV U,Eh (zR _)],u,z.ext (V.new _ _) (λk h=>by rw[AV U,AV h]),Elem.Own.nil _ _,λq j=>by simp[Value.ownBlock] at j,λk h=>by simp at h,Elem.Own.nil _ _,λq j=>by simp[Value.ownBlock] at j,y,D⟩
def Fk(r:Nat)(A:Option Addr)(xs:List Value):Prop:=∀p,xs≠[]->A=some p->p.block≠r
structure BM.Far(b:BM)(r:Nat):Prop where
 vs:Fk r b.Av (AL.cells b.vs)
 vi:∀v∈b.vs,Fk r v.A (Ai v.xs)
 log:Fk r b.Al (Aa.cells b.log)
 pend:Fk r b.Ap (AU.cells b.pend)
 marks:Fk r b.Am (AA.cells b.marks)
 fls:Fk r b.Af (flE.cells b.fls)
 fi:∀f∈b.fls,Fk r f.A (Aa.cells f.log)
section
variable {r N:Nat} {A:Option Addr} {xs:List Value} {w w':World} {b:BM}
theorem NewAt.far(h:NewAt N A xs)(u:r<N):Fk r A xs:=λp q j e=>by have:=h p q j;omega
theorem Row.far(h:Row w A xs)(u:w.heap.size<=r):Fk r A xs:=λp q j e=>by have:=Fz h q j;omega
theorem Row.wrote(h:Row w A xs)(K:Fk r A xs)(D:Wrote r w w'):Row w' A xs:=by
 intro F;obtain⟨b,q,y,z,G⟩:=h F;refine⟨b,q,y,Nat.lt_of_lt_of_le z D.size,λj u Q=>?_⟩;exact(World.cell?_of_block (a:=⟨b,q+j,none⟩) (D.blk z (K ⟨b,q,none⟩ F y))).trans (G j u Q)
theorem BM.New.far(h:b.New N)(j:r<N):b.Far r:=
 ⟨h.vs.far j,λv u=>(h.vi v u).far j,h.log.far j,h.pend.far j,h.marks.far j,h.fls.far j,λf q=>(h.fi f q).far j⟩
theorem BM.Reads.far(h:b.Reads w)(j:w.heap.size<=r):b.Far r:=
 ⟨h.vs.1.far j,λv u=>((h.vs.2 v u).2 (v.A,Ai v.xs) (by simp[AL])).far j,h.log.far j,h.pend.far j,h.marks.far j,h.fls.1.far j,λf q=>((h.fls.2 f q).2 (f.A,Aa.cells f.log) (by simp[flE])).far j⟩
theorem BM.Reads.wrote(h:b.Reads w)(u:b.Far r)(z:Wrote r w w'):b.Reads w':=by
 refine⟨⟨h.vs.1.wrote u.vs z,λv F=>⟨(h.vs.2 v F).1,λq y=>?_⟩⟩,h.log.wrote u.log z,h.pend.wrote u.pend z,h.marks.wrote u.marks z,⟨h.fls.1.wrote u.fls z,λf y=>⟨(h.fls.2 f y).1,λq j=>?_⟩⟩⟩
 .have j:=y;simp only[AL,zC,zN,or_false] at y;subst y;exact((h.vs.2 v F).2 _ j).wrote (u.vi v F) z
 .have D:=j;simp only[flE,zC,zN,or_false] at j;subst j;exact((h.fls.2 f y).2 _ D).wrote (u.fi f y) z
theorem BIs.newAt{k:Nat}(j:Array Value)(t:TypeId)(h:w.heap.size=k):BIs (w.alloc (.cells j t)) k j t:=h▸BIs.new w j t
theorem BIs.wrote{p:Nat}{j:Array Value}{t:TypeId}(h:BIs w p j t)(q:p≠r)(u:Wrote r w w'):BIs w' p j t:=h.same (u.blk h.lt q)
end
section
variable {P:Program} {ops:Array Oper} {Q:Exit->Act->World->Prop} {md:Region.Mode} {S S':World->Prop} {n:Nat}
theorem E_weak(D:∀w,S' w->S w):∀(j:Nat) (q:Array Bool) (a:Act) (w:World),wpE P md ops Q S' n j q a w->wpE P md ops Q S n j q a w
 | 0,_,_,_,h=>h
 | j+1,_,_,_,h=>⟨h.1,λi u=>wpOp_mono (λa' w' z=>⟨λy=>D _ (z.1 y),E_weak D j _ a' w' z.2⟩) (h.2 i u)⟩
theorem E_strong(u:World->Prop){q:Nat}{j:Array Bool}{a:Act}{w:World}(z:∀w,u w->S w)(y:u w)(h:u w->wpE P md ops Q u n q j a w):wpE P md ops Q S n q j a w:=E_weak z _ _ _ _ (h y)
end
theorem FL{P:Program}(w:World)(Q sT ty q:TypeId)(k b o h D:Nat)(a:Addr)(z G:Nat)(cs:List Value)
  (hu:P.underlying Q=some (.slice q)) (R:(P.info? q).map (·.size)=some k) (hn:cs.length=Nat.min z h*k)
  (F:∀j v,cs[j]?=some v->w.cell? (a.add j)=some v) (u:∀j,j<cs.length->(w.cell? (Z b (o+j))).isSome=true) (T:∀j,j<cs.length->w.frozen? (Z b (o+j))=false) (y:∀v∈cs,v.oneCell'=true) :
  (Builtin.copy_ #[Q,sT] ty #[.slice (some (Z b o)) h D,.slice (some a) z G]).run P w=.ok (goInt (Nat.min z h)) (w.setCells b o cs):=by
 have X:=run_loadCells_list (P:=P) w a cs F;have K:=run_storeCells_cells (P:=P) b o cs 0 w (by simpa using u) (by simpa using T) y;cases hq:P.info? q with
 | none=>simp[hq] at R
 | some i=>
  have W:i.size=k:=by simpa[hq] using R
  simp[Builtin.copy_,run_underlying hu,Builtin.lenOf,Builtin.firstCells,sizeOf,typeInfo,hq,W,<-hn,X,K]
def BZ(l:List Value)(o:Nat)(vs:List Value):List Value:=l.take o++vs++l.drop (o+vs.length)
theorem FR{l vs:List Value}{o:Nat}(h:o+vs.length<=l.length):(BZ l o vs).length=l.length:=by
 unfold BZ;simp;omega
theorem Fo(t:TypeId)(b:Nat):∀(vs:List Value) (o:Nat) (w:World) (j:Array Value),BIs w b j t->o+vs.length<=j.size->BIs (w.setCells b o vs) b (BZ j.toList o vs).toArray t
 | [],o,w,j,h,_=>by
  have:(BZ j.toList o []).toArray=j:=by unfold BZ;simp
  rw[this];exact h
 | v::vs,o,w,j,h,hl=>by
  simp only[zK] at hl;have y:=h.set o v;have u:=Fo t b vs (o+1) _ _ y zm;have e:(BZ (j.setIfInBounds o v).toList (o+1) vs).toArray=(BZ j.toList o (v::vs)).toArray:=by
   congr 1;unfold BZ;rw[Array.toList_setIfInBounds];have q:o<j.toList.length:=zm;rw[List.set_eq_take_append_cons_drop,if_pos q];have z:(j.toList.take o).length=o:=by rw[zT];omega
   have a1:(j.toList.take o++v::j.toList.drop (o+1)).take (o+1)=j.toList.take o++[v]:=by
    rw[List.take_append,z,List.take_of_length_le U,show o+1 - o=1 by omega];rfl
   have a2:(j.toList.take o++v::j.toList.drop (o+1)).drop (o+1+vs.length)=j.toList.drop (o+(v::vs).length):=by
    rw[List.drop_append,z,List.drop_of_length_le U,List.nil_append,show o+1+vs.length - o=vs.length+1 by omega,List.drop_succ_cons,List.drop_drop];congr 1;simp only[zK];omega
   rw[a1,a2];simp
  rw[e] at u;exact u
theorem Om{P:Prop}(h:P:=by
 rw[D,World.cell?_alloc_at (w:=w.drew) q _ w.heap.size j rfl,Array.getElem?_eq_getElem U];rfl):P:=h
theorem Ue(g n c i q vc:Nat)(cs vs:List Value)(w:World)(hi:i<n)(ar:n+1<=c)(az:c<=9223372036854775807)(bg:n<=1000000)(af:q≠g)
  (ak:cs.length=n*3) (aw:vs.length=3)
  (al:∀j v,cs[j]?=some v->w.cell? (Z g j)=some v) (K:∀j,j<(n+1)*3->(w.cell? (Z g j)).isSome=true) (aa:∀j,j<(n+1)*3->w.frozen? (Z g j)=false)
  (ax:∀j v,vs[j]?=some v->w.cell? (Z q j)=some v) (ah:∀v∈cs,v.oneCell'=true) (ai:∀v∈vs,v.oneCell'=true)
  (tA tB:TypeId) (kA kB:Nat) (au:w.shape? q=some (tA,kA)) (av:w.shape? g=some (tB,kB)) (ap:kB≠0) (am:w.frozen? (Z q 0)=false) (an:w.frozen? (Z q kA)=false) :
  Calls prog 127 #[.slice (some (Z g 0)) n c,I i,.slice (some (Z q 0)) 1 vc] w λe w'=>
   e=.returned (.slice (some (Z g 0)) (n+1) c)/\w'=(w.drew.setCells g ((i+1)*3) (cs.drop (i*3))).setCells g (i*3) vs:=by
 have ad:(prog.info? 80).map (·.size)=some 3:=zh;have ae:∀w,(Go.sizeOf 80).run prog w=.ok 3 w:=λw=>by
  obtain⟨i0,ao,h0,y,h2⟩:=flE.info_parts;have ag:i0.size=3:=y;have ab:prog.info? 80=some i0:=ao;simp[Go.sizeOf,typeInfo,ab,ag]
 have aq:∀lb cb,(callFunc 177 #[.slice (some (Z q 0)) 1 vc,.slice (some (Z g ((i+1)*3))) lb cb]).run prog w=.ok (.value (.bool false)) w:=λlb cb=>by
  rw[run_callFunc_extern func177 zh zh zh (e:=Extern.SlicesOverlaps.overlaps #[26,26] #[4]) zh,
   Lib.run_overlaps_apart w 26 4 80 Tryz.underlying26 3 ae ⟨q,0,none⟩ ⟨g,(i+1)*3,none⟩ 1 vc lb cb af tA tB kA kB au av ap am an]
  rfl
 have u:(cs.drop (i*3)).length=(n - i)*3:=by rw[zD,ak];omega
 have bj:IntKind.i64.wrap ((i:Int)+1)=(i:Int)+1:=IntWalk.i64_in _ U;have bk:IntKind.i64.wrap ((n:Int)+1)=(n:Int)+1:=IntWalk.i64_in _ U;have bl:¬((i:Int)=(n:Int)):=U;have bm:¬((c:Int)<(n:Int)+1):=U;have a9:(0:Int)<=(i:Int)+1:=U;have bf:i<=n:=U;have bi:((i:Int)+1).toNat=i+1:=U;have bh:((n:Int)+1).toNat=n+1:=U;have ba:¬(c=i+1):=U;have bb:(i:Int)<=(n:Int)+1:=U;have bc:¬(c=i):=U;have bd:i+1<=n+1:=U;have be:i<=n+1:=U;have F:∀Q G sc,(Builtin.copy_ #[26,26] Q #[.slice (some (Z g ((i+1)*3))) (n - i) G,.slice (some (Z g (i*3))) (n+1 - i) sc]).run prog w.drew=.ok (goInt (Nat.min (n+1 - i) (n - i))) (w.drew.setCells g ((i+1)*3) (cs.drop (i*3))):=λQ G sc=>
  FL w.drew _ _ Q 80 3 g ((i+1)*3) (n - i) G ⟨g,i*3,none⟩ (n+1 - i) sc (cs.drop (i*3)) Tryz.underlying26 ad (by rw[u];congr 1;simp only[Nat.min_def];split<;>omega)
   (λj v z=>by rw[Addr.add_lit];exact al (i*3+j) v (by rwa [List.getElem?_drop] at z))
   (λj z=>K _ U) (λj z=>aa _ U) (λv hv=>ah v (List.mem_of_mem_drop hv))
 obtain⟨R,D⟩:∃R,R=w.drew.setCells g ((i+1)*3) (cs.drop (i*3)):=⟨_,rfl⟩;have ac:∀k,k<(n+1)*3->(R.cell? (Z g k)).isSome=true:=λk hk=>by
  rw[D];exact isSome_setCells g (cs.drop (i*3)) ((i+1)*3) w.drew (λj z=>K _ (by rw[u] at z;omega)) _ (K k hk)
 have X:∀(W:World),(∀x,W.cell? x=R.cell? x)->(∀x,W.frozen? x=R.frozen? x)->∀Q G,(Builtin.copy_ #[26,26] Q #[.slice (some (Z g (i*3))) (n+1 - i) G,.slice (some (Z q 0)) 1 vc]).run prog W=.ok (goInt (Nat.min 1 (n+1 - i))) (W.setCells g (i*3) vs):=λW T aj Q G=>
  FL W _ _ Q 80 3 g (i*3) (n+1 - i) G ⟨q,0,none⟩ 1 vc vs Tryz.underlying26 ad (by rw[aw];simp only[Nat.min_def];split<;>omega)
   (λj v z=>by
    rw[Addr.add_lit,T,D,World.cell?_setCells_out g _ _ _ _ (λh _=>absurd h af),Nat.zero_add];exact ax j v z)
   (λj z=>by rw[T];exact ac _ U) (λj z=>by rw[aj,D,World.frozen?_setCells];exact aa _ U) ai
 rw[<-D] at F;have ay:prog.follows .mixedOrders=true:=zh;go_enter func127,ntmps127;go_wp2_with (simp only[aq])
 go_region_law_o (refine step_copy_runI rfl _ _ 26 26 rfl _ _ (by simp[Act.eval,Act.put]) (by simp[Act.eval,Act.put]) (F _ _ _) ?_)
 go_wp2_with (at_builtin;refine wpList_copy_runI _ rfl _ _ 26 26 rfl _ _ rfl rfl (X _ (λ_=>rfl) (λ_=>rfl) _ _) ?_);go_ret
 first|exact⟨rfl,rfl⟩|exact⟨rfl,by rw[D]⟩
theorem Vm(b n c i vb vc:Nat)(cs vs:List Value)(w:World)(hi:i<n)(bq:n<=c)(af:c<n+1)(bp:n<=1000000)
  (a9:cs.length=n*3) (ba:vs.length=3)
  (ac:∀j v,cs[j]?=some v->w.cell? (Z b j)=some v) (am:∀j v,vs[j]?=some v->w.cell? (Z vb j)=some v) (an:∀v∈cs,v.oneCell'=true) (ao:∀v∈vs,v.oneCell'=true) :
  Calls prog 127 #[.slice (some (Z b 0)) n c,I i,.slice (some (Z vb 0)) 1 vc] w λe w'=>
   e=.returned (.slice (some (Z w.heap.size 0)) (n+1) (grownCap w (n+1) c 80))/\
   w'=(((w.alloc (.cells ((cs.take (i*3)).toArray++Builtin.zeroCells flE.z.cells (n+1 - i)++Builtin.zeroCells flE.z.cells (grownCap w (n+1) c 80 - (n+1))) 80)).drew.setCells w.heap.size (i*3) vs).drew).setCells w.heap.size ((i+1)*3) (cs.drop (i*3)):=by
 have bd:prog.follows .mixedOrders=true:=zh;obtain⟨i0,ad,bc,ag,X⟩:=flE.info_parts;replace ad:prog.info? 80=some i0:=ad;replace ag:i0.size=3:=ag;replace X:i0.bytes=40:=X;have bw:¬((i:Int)=(n:Int)):=U;have bx:(c:Int)<(n:Int)+1:=U;have al:(prog.info? 80).map (·.size)=some 3:=zh;have az:b<w.heap.size:=block_lt_of_cell (ac 0 _ (zY U));have bb:vb<w.heap.size:=block_lt_of_cell (am 0 _ (zY U));have ak:(n:Int)+1 - (i:Int)=((n+1 - i:Nat):Int):=U;have ae:i+(n+1 - i)=n+1:=U;have aa:(Builtin.firstCells i0.size i (.slice (some (Z b 0)) i c)).run prog w.drew=.ok (cs.take (i*3)).toArray w.drew:=by
  rw[ag];exact run_firstCells_some w.drew 3 i ⟨b,0,none⟩ i c (cs.take (i*3)) (by rw[zT];omega) (λj v F=>by
   rw[Addr.add_lit,Nat.zero_add];rw[List.getElem?_take] at F;split at F
   .exact ac j v F
   .cases F)
 have T:∀R,(Builtin.append_ #[26,3] R #[.slice (some (Z b 0)) i c,I ((n:Int)+1 - (i:Int))]).run prog w =
   .ok (.slice (some (Y w 0)) (n+1) (grownCap w (n+1) c 80)) (w.drew.alloc (.cells ((cs.take (i*3)).toArray++Builtin.zeroCells flE.z.cells (n+1 - i)++Builtin.zeroCells flE.z.cells (grownCap w (n+1) c 80 - (n+1))) 80)):=λR=>by
  have h:=Lib.run_append_grow_zeros w 26 3 R 80 i0 _ .i64 .i64 Tryz.underlying26 Tryz.underlying3 ad bc (some (Z b 0)) i c (cs.take (i*3)) aa (n+1 - i) U U U U (by rw[X];omega) (by rw[X,ae];exact growslice_fits_wide af U);rw[ae] at h;rw[ak];exact h
 obtain⟨G,hG⟩:∃G,G=grownCap w (n+1) c 80:=⟨_,rfl⟩;obtain⟨q,y⟩:∃q:Array Value,q=(cs.take (i*3)).toArray++Builtin.zeroCells flE.z.cells (n+1 - i)++Builtin.zeroCells flE.z.cells (G - (n+1)):=⟨_,rfl⟩;rw[<-hG] at T|-;rw[<-y] at T|-;have ax:(n+1)*3<=q.size:=by
  rw[y];simp[Builtin.zeroCells,Value.cells,flE];omega
 obtain⟨K,D⟩:∃K,K=w.drew.alloc (.cells q 80):=⟨_,rfl⟩;rw[<-D] at T;have hN:∀j,j<(n+1)*3->(K.cell? (Y w j)).isSome=true:=λj F=>by
  exact Om
 have ah:∀j,K.frozen? (Y w j)=false:=λj=>by rw[D];exact World.frozen?_alloc_at (w:=w.drew) q _ w.heap.size j rfl
 have av:∀j v,w.cell? (Z b j)=some v->K.cell? (Z b j)=some v:=λj v h=>by rw[D,World.cell?_alloc_past (w:=w.drew) _ b j az];exact h
 have aw:∀j v,w.cell? (Z vb j)=some v->K.cell? (Z vb j)=some v:=λj v h=>by rw[D,World.cell?_alloc_past (w:=w.drew) _ vb j bb];exact h
 have ai:∀(W:World),(∀x,W.cell? x=K.cell? x)->(∀x,W.frozen? x=K.frozen? x)->∀R dc,(Builtin.copy_ #[26,26] R #[.slice (some (Y w (i*3))) (n+1 - i) dc,.slice (some (Z vb 0)) 1 vc]).run prog W=.ok (goInt (Nat.min 1 (n+1 - i))) (W.setCells w.heap.size (i*3) vs):=λW Q ab R dc=>
  FL W _ _ R 80 3 w.heap.size (i*3) (n+1 - i) dc ⟨vb,0,none⟩ 1 vc vs Tryz.underlying26 al (by rw[ba];simp only[Nat.min_def];split<;>omega)
   (λj v F=>by rw[Addr.add_lit,Q,Nat.zero_add];exact aw _ v (am j v F))
   (λj F=>by rw[Q];exact hN _ U) (λj F=>by rw[ab];exact ah _) ao
 have bh:n+1<=G:=by rw[hG];exact grownCap_ge w _ _ _
 have be:G<=9223372036854775807:=by
  have:=grownCap_le_maxLen w (n+1) c 80 (by unfold maxLen;omega);rw[<-hG] at this;unfold maxLen at this;omega
 have bg:¬(G=i):=U;have bf:¬(G=i+1):=U;have bk:¬(c=i):=U;have ay:b≠w.heap.size:=U;have u:(cs.drop (i*3)).length=(n - i)*3:=by rw[zD,a9];omega
 have aj:∀(W:World),(∀x,W.cell? x=(K.setCells w.heap.size (i*3) vs).cell? x)->(∀x,W.frozen? x=(K.setCells w.heap.size (i*3) vs).frozen? x)->∀R dc sc,(Builtin.copy_ #[26,26] R #[.slice (some (Y w ((i+1)*3))) (n - i) dc,.slice (some (Z b (i*3))) (n - i) sc]).run prog W=.ok (goInt (Nat.min (n - i) (n - i))) (W.setCells w.heap.size ((i+1)*3) (cs.drop (i*3))):=λW Q ab R dc sc=>
  FL W _ _ R 80 3 w.heap.size ((i+1)*3) (n - i) dc ⟨b,i*3,none⟩ (n - i) sc (cs.drop (i*3)) Tryz.underlying26 al (by rw[u];simp only[Nat.min_def];split<;>omega)
   (λj v F=>by
    rw[Addr.add_lit,Q,World.cell?_setCells_out _ _ _ _ _ (λh _=>absurd h ay)];exact av _ v (ac (i*3+j) v (by rwa [List.getElem?_drop] at F)))
   (λj F=>by rw[Q];exact isSome_setCells w.heap.size vs (i*3) K (λt ht=>hN _ U) _ (hN _ (by rw[u] at F;omega)))
   (λj F=>by rw[ab,World.frozen?_setCells];exact ah _) (λv hv=>an v (List.mem_of_mem_drop hv))
 subst D;have ap:∀x,((w.alloc (.cells q 80)).drew).cell? x=(w.drew.alloc (.cells q 80)).cell? x:=λx=>rfl;have aq:∀x,((w.alloc (.cells q 80)).drew).frozen? x=(w.drew.alloc (.cells q 80)).frozen? x:=λx=>rfl;have ar:∀x,(((w.alloc (.cells q 80)).drew.setCells w.heap.size (i*3) vs).drew).cell? x=((w.drew.alloc (.cells q 80)).setCells w.heap.size (i*3) vs).cell? x:=λx=>rfl;have au:∀x,(((w.alloc (.cells q 80)).drew.setCells w.heap.size (i*3) vs).drew).frozen? x=((w.drew.alloc (.cells q 80)).setCells w.heap.size (i*3) vs).frozen? x:=λx=>rfl;have bt:IntKind.i64.wrap ((i:Int)+1)=(i:Int)+1:=IntWalk.i64_in _ U;have bu:IntKind.i64.wrap ((n:Int)+1)=(n:Int)+1:=IntWalk.i64_in _ U;have bv:IntKind.i64.wrap ((n:Int)+1 - (i:Int))=(n:Int)+1 - (i:Int):=IntWalk.i64_in _ U;have bi:(0:Int)<=(i:Int)+1:=U;have bo:i<=n:=U;have br:((i:Int)+1).toNat=i+1:=U;have bj:(i:Int)<=(n:Int):=U;have bn:i<=c:=U;have bl:i<=n+1:=U;have bm:i+1<=n+1:=U;clear ak ae aa y hG ax;go_enter func127,ntmps127;go_wp2_with (first
  | (at_builtin;refine Lib.wpList_append_run _ rfl _ _ _ _ rfl _ _ rfl rfl _ _ (T _) ?_)
  | (at_builtin;refine wpList_copy_runI _ rfl _ _ 26 26 rfl _ _ rfl rfl (ai _ ap aq _ _) ?_))
 go_region_law_o (refine step_copy_runI rfl _ _ 26 26 rfl (.slice (some (Y w ((i+1)*3))) (n - i) (G - (i+1))) (.slice (some (Z b (i*3))) (n - i) (c - i)) (by simp[Act.eval,Act.put]) (by simp[Act.eval,Act.put]) (aj _ ar au 3 (G - (i+1)) (c - i)) ?_)
 go_wp2;go_ret;exact⟨rfl,rfl⟩
theorem UT(g n c i q vc:Nat)(cs vs:List Value)(w:World)(hi:i<n)(ar:n+1<=c)(az:c<=9223372036854775807)(bg:n<=1000000)(af:q≠g)
  (ak:cs.length=n*2) (aw:vs.length=2)
  (al:∀j v,cs[j]?=some v->w.cell? (Z g j)=some v) (K:∀j,j<(n+1)*2->(w.cell? (Z g j)).isSome=true) (aa:∀j,j<(n+1)*2->w.frozen? (Z g j)=false)
  (ax:∀j v,vs[j]?=some v->w.cell? (Z q j)=some v) (ah:∀v∈cs,v.oneCell'=true) (ai:∀v∈vs,v.oneCell'=true)
  (tA tB:TypeId) (kA kB:Nat) (au:w.shape? q=some (tA,kA)) (av:w.shape? g=some (tB,kB)) (ap:kB≠0) (am:w.frozen? (Z q 0)=false) (an:w.frozen? (Z q kA)=false) :
  Calls prog 186 #[.slice (some (Z g 0)) n c,I i,.slice (some (Z q 0)) 1 vc] w λe w'=>
   e=.returned (.slice (some (Z g 0)) (n+1) c)/\w'=(w.drew.setCells g ((i+1)*2) (cs.drop (i*2))).setCells g (i*2) vs:=by
 have ad:(prog.info? 123).map (·.size)=some 2:=zh;have ae:∀w,(Go.sizeOf 123).run prog w=.ok 2 w:=λw=>by
  obtain⟨i0,ao,h0,y,h2⟩:=AA.info_parts;have ag:i0.size=2:=y;have ab:prog.info? 123=some i0:=ao;simp[Go.sizeOf,typeInfo,ab,ag]
 have aq:∀lb cb,(callFunc 203 #[.slice (some (Z q 0)) 1 vc,.slice (some (Z g ((i+1)*2))) lb cb]).run prog w=.ok (.value (.bool false)) w:=λlb cb=>by
  rw[run_callFunc_extern func203 zh zh zh (e:=Extern.SlicesOverlaps.overlaps #[25,25] #[4]) zh,
   Lib.run_overlaps_apart w 25 4 123 Tryz.underlying25 2 ae ⟨q,0,none⟩ ⟨g,(i+1)*2,none⟩ 1 vc lb cb af tA tB kA kB au av ap am an]
  rfl
 have u:(cs.drop (i*2)).length=(n - i)*2:=by rw[zD,ak];omega
 have bj:IntKind.i64.wrap ((i:Int)+1)=(i:Int)+1:=IntWalk.i64_in _ U;have bk:IntKind.i64.wrap ((n:Int)+1)=(n:Int)+1:=IntWalk.i64_in _ U;have bl:¬((i:Int)=(n:Int)):=U;have bm:¬((c:Int)<(n:Int)+1):=U;have a9:(0:Int)<=(i:Int)+1:=U;have bf:i<=n:=U;have bi:((i:Int)+1).toNat=i+1:=U;have bh:((n:Int)+1).toNat=n+1:=U;have ba:¬(c=i+1):=U;have bb:(i:Int)<=(n:Int)+1:=U;have bc:¬(c=i):=U;have bd:i+1<=n+1:=U;have be:i<=n+1:=U;have F:∀Q G sc,(Builtin.copy_ #[25,25] Q #[.slice (some (Z g ((i+1)*2))) (n - i) G,.slice (some (Z g (i*2))) (n+1 - i) sc]).run prog w.drew=.ok (goInt (Nat.min (n+1 - i) (n - i))) (w.drew.setCells g ((i+1)*2) (cs.drop (i*2))):=λQ G sc=>
  FL w.drew _ _ Q 123 2 g ((i+1)*2) (n - i) G ⟨g,i*2,none⟩ (n+1 - i) sc (cs.drop (i*2)) Tryz.underlying25 ad (by rw[u];congr 1;simp only[Nat.min_def];split<;>omega)
   (λj v z=>by rw[Addr.add_lit];exact al (i*2+j) v (by rwa [List.getElem?_drop] at z))
   (λj z=>K _ U) (λj z=>aa _ U) (λv hv=>ah v (List.mem_of_mem_drop hv))
 obtain⟨R,D⟩:∃R,R=w.drew.setCells g ((i+1)*2) (cs.drop (i*2)):=⟨_,rfl⟩;have ac:∀k,k<(n+1)*2->(R.cell? (Z g k)).isSome=true:=λk hk=>by
  rw[D];exact isSome_setCells g (cs.drop (i*2)) ((i+1)*2) w.drew (λj z=>K _ (by rw[u] at z;omega)) _ (K k hk)
 have X:∀(W:World),(∀x,W.cell? x=R.cell? x)->(∀x,W.frozen? x=R.frozen? x)->∀Q G,(Builtin.copy_ #[25,25] Q #[.slice (some (Z g (i*2))) (n+1 - i) G,.slice (some (Z q 0)) 1 vc]).run prog W=.ok (goInt (Nat.min 1 (n+1 - i))) (W.setCells g (i*2) vs):=λW T aj Q G=>
  FL W _ _ Q 123 2 g (i*2) (n+1 - i) G ⟨q,0,none⟩ 1 vc vs Tryz.underlying25 ad (by rw[aw];simp only[Nat.min_def];split<;>omega)
   (λj v z=>by
    rw[Addr.add_lit,T,D,World.cell?_setCells_out g _ _ _ _ (λh _=>absurd h af),Nat.zero_add];exact ax j v z)
   (λj z=>by rw[T];exact ac _ U) (λj z=>by rw[aj,D,World.frozen?_setCells];exact aa _ U) ai
 rw[<-D] at F;have ay:prog.follows .mixedOrders=true:=zh;go_enter func186,ntmps186;go_wp2_with (simp only[aq])
 go_region_law_o (refine step_copy_runI rfl _ _ 25 25 rfl _ _ (by simp[Act.eval,Act.put]) (by simp[Act.eval,Act.put]) (F _ _ _) ?_)
 go_wp2_with (at_builtin;refine wpList_copy_runI _ rfl _ _ 25 25 rfl _ _ rfl rfl (X _ (λ_=>rfl) (λ_=>rfl) _ _) ?_);go_ret
 first|exact⟨rfl,rfl⟩|exact⟨rfl,by rw[D]⟩
theorem VX(b n c i vb vc:Nat)(cs vs:List Value)(w:World)(hi:i<n)(bq:n<=c)(af:c<n+1)(bp:n<=1000000)
  (a9:cs.length=n*2) (ba:vs.length=2)
  (ac:∀j v,cs[j]?=some v->w.cell? (Z b j)=some v) (am:∀j v,vs[j]?=some v->w.cell? (Z vb j)=some v) (an:∀v∈cs,v.oneCell'=true) (ao:∀v∈vs,v.oneCell'=true) :
  Calls prog 186 #[.slice (some (Z b 0)) n c,I i,.slice (some (Z vb 0)) 1 vc] w λe w'=>
   e=.returned (.slice (some (Z w.heap.size 0)) (n+1) (grownCap w (n+1) c 123))/\
   w'=(((w.alloc (.cells ((cs.take (i*2)).toArray++Builtin.zeroCells AA.z.cells (n+1 - i)++Builtin.zeroCells AA.z.cells (grownCap w (n+1) c 123 - (n+1))) 123)).drew.setCells w.heap.size (i*2) vs).drew).setCells w.heap.size ((i+1)*2) (cs.drop (i*2)):=by
 have bd:prog.follows .mixedOrders=true:=zh;obtain⟨i0,ad,bc,ag,X⟩:=AA.info_parts;replace ad:prog.info? 123=some i0:=ad;replace ag:i0.size=2:=ag;replace X:i0.bytes=16:=X;have bw:¬((i:Int)=(n:Int)):=U;have bx:(c:Int)<(n:Int)+1:=U;have al:(prog.info? 123).map (·.size)=some 2:=zh;have az:b<w.heap.size:=block_lt_of_cell (ac 0 _ (zY U));have bb:vb<w.heap.size:=block_lt_of_cell (am 0 _ (zY U));have ak:(n:Int)+1 - (i:Int)=((n+1 - i:Nat):Int):=U;have ae:i+(n+1 - i)=n+1:=U;have aa:(Builtin.firstCells i0.size i (.slice (some (Z b 0)) i c)).run prog w.drew=.ok (cs.take (i*2)).toArray w.drew:=by
  rw[ag];exact run_firstCells_some w.drew 2 i ⟨b,0,none⟩ i c (cs.take (i*2)) (by rw[zT];omega) (λj v F=>by
   rw[Addr.add_lit,Nat.zero_add];rw[List.getElem?_take] at F;split at F
   .exact ac j v F
   .cases F)
 have T:∀R,(Builtin.append_ #[25,3] R #[.slice (some (Z b 0)) i c,I ((n:Int)+1 - (i:Int))]).run prog w =
   .ok (.slice (some (Y w 0)) (n+1) (grownCap w (n+1) c 123)) (w.drew.alloc (.cells ((cs.take (i*2)).toArray++Builtin.zeroCells AA.z.cells (n+1 - i)++Builtin.zeroCells AA.z.cells (grownCap w (n+1) c 123 - (n+1))) 123)):=λR=>by
  have h:=Lib.run_append_grow_zeros w 25 3 R 123 i0 _ .i64 .i64 Tryz.underlying25 Tryz.underlying3 ad bc (some (Z b 0)) i c (cs.take (i*2)) aa (n+1 - i) U U U U (by rw[X];omega) (by rw[X,ae];exact growslice_fits_wide af U);rw[ae] at h;rw[ak];exact h
 obtain⟨G,hG⟩:∃G,G=grownCap w (n+1) c 123:=⟨_,rfl⟩;obtain⟨q,y⟩:∃q:Array Value,q=(cs.take (i*2)).toArray++Builtin.zeroCells AA.z.cells (n+1 - i)++Builtin.zeroCells AA.z.cells (G - (n+1)):=⟨_,rfl⟩;rw[<-hG] at T|-;rw[<-y] at T|-;have ax:(n+1)*2<=q.size:=by
  rw[y];simp[Builtin.zeroCells,Value.cells,AA];omega
 obtain⟨K,D⟩:∃K,K=w.drew.alloc (.cells q 123):=⟨_,rfl⟩;rw[<-D] at T;have hN:∀j,j<(n+1)*2->(K.cell? (Y w j)).isSome=true:=λj F=>by
  exact Om
 have ah:∀j,K.frozen? (Y w j)=false:=λj=>by rw[D];exact World.frozen?_alloc_at (w:=w.drew) q _ w.heap.size j rfl
 have av:∀j v,w.cell? (Z b j)=some v->K.cell? (Z b j)=some v:=λj v h=>by rw[D,World.cell?_alloc_past (w:=w.drew) _ b j az];exact h
 have aw:∀j v,w.cell? (Z vb j)=some v->K.cell? (Z vb j)=some v:=λj v h=>by rw[D,World.cell?_alloc_past (w:=w.drew) _ vb j bb];exact h
 have ai:∀(W:World),(∀x,W.cell? x=K.cell? x)->(∀x,W.frozen? x=K.frozen? x)->∀R dc,(Builtin.copy_ #[25,25] R #[.slice (some (Y w (i*2))) (n+1 - i) dc,.slice (some (Z vb 0)) 1 vc]).run prog W=.ok (goInt (Nat.min 1 (n+1 - i))) (W.setCells w.heap.size (i*2) vs):=λW Q ab R dc=>
  FL W _ _ R 123 2 w.heap.size (i*2) (n+1 - i) dc ⟨vb,0,none⟩ 1 vc vs Tryz.underlying25 al (by rw[ba];simp only[Nat.min_def];split<;>omega)
   (λj v F=>by rw[Addr.add_lit,Q,Nat.zero_add];exact aw _ v (am j v F))
   (λj F=>by rw[Q];exact hN _ U) (λj F=>by rw[ab];exact ah _) ao
 have bh:n+1<=G:=by rw[hG];exact grownCap_ge w _ _ _
 have be:G<=9223372036854775807:=by
  have:=grownCap_le_maxLen w (n+1) c 123 (by unfold maxLen;omega);rw[<-hG] at this;unfold maxLen at this;omega
 have bg:¬(G=i):=U;have bf:¬(G=i+1):=U;have bk:¬(c=i):=U;have ay:b≠w.heap.size:=U;have u:(cs.drop (i*2)).length=(n - i)*2:=by rw[zD,a9];omega
 have aj:∀(W:World),(∀x,W.cell? x=(K.setCells w.heap.size (i*2) vs).cell? x)->(∀x,W.frozen? x=(K.setCells w.heap.size (i*2) vs).frozen? x)->∀R dc sc,(Builtin.copy_ #[25,25] R #[.slice (some (Y w ((i+1)*2))) (n - i) dc,.slice (some (Z b (i*2))) (n - i) sc]).run prog W=.ok (goInt (Nat.min (n - i) (n - i))) (W.setCells w.heap.size ((i+1)*2) (cs.drop (i*2))):=λW Q ab R dc sc=>
  FL W _ _ R 123 2 w.heap.size ((i+1)*2) (n - i) dc ⟨b,i*2,none⟩ (n - i) sc (cs.drop (i*2)) Tryz.underlying25 al (by rw[u];simp only[Nat.min_def];split<;>omega)
   (λj v F=>by
    rw[Addr.add_lit,Q,World.cell?_setCells_out _ _ _ _ _ (λh _=>absurd h ay)];exact av _ v (ac (i*2+j) v (by rwa [List.getElem?_drop] at F)))
   (λj F=>by rw[Q];exact isSome_setCells w.heap.size vs (i*2) K (λt ht=>hN _ U) _ (hN _ (by rw[u] at F;omega)))
   (λj F=>by rw[ab,World.frozen?_setCells];exact ah _) (λv hv=>an v (List.mem_of_mem_drop hv))
 subst D;have ap:∀x,((w.alloc (.cells q 123)).drew).cell? x=(w.drew.alloc (.cells q 123)).cell? x:=λx=>rfl;have aq:∀x,((w.alloc (.cells q 123)).drew).frozen? x=(w.drew.alloc (.cells q 123)).frozen? x:=λx=>rfl;have ar:∀x,(((w.alloc (.cells q 123)).drew.setCells w.heap.size (i*2) vs).drew).cell? x=((w.drew.alloc (.cells q 123)).setCells w.heap.size (i*2) vs).cell? x:=λx=>rfl;have au:∀x,(((w.alloc (.cells q 123)).drew.setCells w.heap.size (i*2) vs).drew).frozen? x=((w.drew.alloc (.cells q 123)).setCells w.heap.size (i*2) vs).frozen? x:=λx=>rfl;have bt:IntKind.i64.wrap ((i:Int)+1)=(i:Int)+1:=IntWalk.i64_in _ U;have bu:IntKind.i64.wrap ((n:Int)+1)=(n:Int)+1:=IntWalk.i64_in _ U;have bv:IntKind.i64.wrap ((n:Int)+1 - (i:Int))=(n:Int)+1 - (i:Int):=IntWalk.i64_in _ U;have bi:(0:Int)<=(i:Int)+1:=U;have bo:i<=n:=U;have br:((i:Int)+1).toNat=i+1:=U;have bj:(i:Int)<=(n:Int):=U;have bn:i<=c:=U;have bl:i<=n+1:=U;have bm:i+1<=n+1:=U;clear ak ae aa y hG ax;go_enter func186,ntmps186;go_wp2_with (first
  | (at_builtin;refine Lib.wpList_append_run _ rfl _ _ _ _ rfl _ _ rfl rfl _ _ (T _) ?_)
  | (at_builtin;refine wpList_copy_runI _ rfl _ _ 25 25 rfl _ _ rfl rfl (ai _ ap aq _ _) ?_))
 go_region_law_o (refine step_copy_runI rfl _ _ 25 25 rfl (.slice (some (Y w ((i+1)*2))) (n - i) (G - (i+1))) (.slice (some (Z b (i*2))) (n - i) (c - i)) (by simp[Act.eval,Act.put]) (by simp[Act.eval,Act.put]) (aj _ ar au 3 (G - (i+1)) (c - i)) ?_)
 go_wp2;go_ret;exact⟨rfl,rfl⟩
section
variable {α:Type} (E:Elem α)
theorem Elem.cells_ins(l:List α)(i:Nat)(x:α):E.cells (l.take i++x::l.drop i)=(E.cells l).take (i*E.k)++E.f x++(E.cells l).drop (i*E.k):=by
 rw[E.cells_append,E.cells_cons,E.cells_take l i,E.cells_drop l i,List.append_assoc]
end
theorem Qo{L C fx:List Value}{a k N:Nat}(q:L.take N=C)(h:C.length=N)(u:a<=N)(D:fx.length=k)(G:N+k<=L.length) :
  (BZ (BZ L (a+k) (C.drop a)) a fx).take (N+k)=C.take a++fx++C.drop a:=by
 have z:(C.drop a).length=N - a:=by rw[zD,h]
 have e1:(BZ L (a+k) (C.drop a)).take a=C.take a:=by
  unfold BZ;rw[List.append_assoc,List.take_append_of_le_length (by rw[zT];omega),List.take_take,Nat.min_eq_left U,<-q,List.take_take,Nat.min_eq_left u]
 have j:(BZ L (a+k) (C.drop a)).drop (a+k)=C.drop a++L.drop (N+k):=by
  unfold BZ;have y:(L.take (a+k)).length=a+k:=by rw[zT];omega
  rw[List.append_assoc,List.drop_append,y,List.drop_of_length_le U,z,show a+k - (a+k)=0 by omega,show a+k+(N - a)=N+k by omega];simp
 unfold BZ at *;rw[e1,D,j];have F:(C.take a).length=a:=by rw[zT];omega
 rw[<-List.append_assoc,List.take_append_of_le_length (by simp only[zA];omega),List.take_of_length_le (by simp only[zA];omega)]
theorem NA{P:Prop}(h:P:=by
 unfold BZ at *;rw[e1,List.take_append_of_le_length (by simp only[zA,R,D,u];omega),List.take_of_length_le (by simp only[zA,R,D,u];omega)]):P:=h
theorem Ol{P:Prop}(h:P:=by
 unfold BZ;rw[af,List.take_append_of_le_length (by rw[zA,R,D];omega),List.take_of_length_le (by rw[zA,R,D];omega)]):P:=h
theorem NQ{P:Prop}(h:P:=by
 rw[y];simp only[Array.toList_append,List.append_assoc];rw[List.take_append_of_le_length U,List.take_of_length_le U]):P:=h
theorem Oa{P:Prop}(h:P:=by
 exact((Wrote.of (p:=F) zW).trans (F7 F _ _ _)).trans (F7 F _ _ _)):P:=h
theorem F7(b:Nat):∀(vs:List Value) (o:Nat) (w:World),Wrote b w (w.setCells b o vs)
 | [],_,w=>Wrote.refl b w
 | u::vs,o,w=>(Wrote.set b o w u).trans (F7 b vs (o+1) _)
theorem Xj(B:Nat)(A:Option Addr)(c:Nat)(l:List FlM)(x:FlM)(i:Nat)(w:World)(ho:flE.Own w B (.slice A l.length c) l)(hB:B<=w.heap.size)(g c2:Nat)(hg:BIs w g (flE.f x).toArray 80)(ap:∀k,(Value.slice A l.length c).ownBlock=some k->k≠g)(hi:i<l.length)(hn:l.length<=100000) :
  Calls prog 127 #[.slice A l.length c,I i,.slice (some (Z g 0)) 1 c2] w λe w'=>∃v',e=.returned v'/\flE.Own w' B v' (l.take i++x::l.drop i)/\Grew w w' (.slice A l.length c)/\Stems w (.slice A l.length c) v':=by
 obtain⟨av,h2⟩:=ho;rcases h2 with ⟨_,h3⟩|⟨F,cap,K,hv,h3,hh,h4,h5,h6,h7⟩
 .omega
 cases hv;have hb:BIs w F K 80:=hh;have hk:flE.k=3:=rfl;have W:(l.take i++x::l.drop i).length=l.length+1:=by simp only[zA,zT,zK,zD];omega
 have T:flE.cells (l.take i++x::l.drop i)=(flE.cells l).take (i*3)++flE.f x++(flE.cells l).drop (i*3):=flE.cells_ins l i x;have X:(flE.cells l).length=l.length*3:=flE.cells_len l;have D:(flE.f x).length=3:=flE.len x;have am:K.size=c*3:=h6;have ad:K.toList.take (l.length*3)=flE.cells l:=h7;have aj:∀j v,(flE.cells l)[j]?=some v->w.cell? (Z F j)=some v:=λj v hj=>by
  rw[hb.cell,<-ad,List.getElem?_take] at *;split at hj
  .simpa using hj
  .cases hj
 have al:∀j v,(flE.f x)[j]?=some v->w.cell? (Z g j)=some v:=λj v hj=>by rw[hg.cell];simpa using hj
 have aw:maxLen<=9223372036854775807:=by unfold maxLen;decide
 have ak:F≠g:=ap F rfl;by_cases ac:l.length+1<=c
 .have ar:(l.length+1)*3<=K.size:=by rw[am];omega
  refine(Ue F l.length c i g c2 (flE.cells l) (flE.f x) w hi ac U U (Ne.symm ak) X D aj (λj hj=>?_) (λj _=>hb.free j) al (flE.cells_one l) (flE.one x) 80 80 (flE.f x).toArray.size K.size ?_ ?_ U (hg.free 0) (hg.free _)).mono ?_
  .rw[hb.cell,Array.getElem?_eq_getElem U];rfl
  .unfold World.shape?;rw[show w.heap[g]?=_ from hg]
  .unfold World.shape?;rw[show w.heap[F]?=_ from hb]
  rintro e w' ⟨rfl,rfl⟩;have u:((flE.cells l).drop (i*3)).length=(l.length - i)*3:=by rw[zD,X];omega
  have aa:BIs (w.drew.setCells F ((i+1)*3) ((flE.cells l).drop (i*3))) F (BZ K.toList ((i+1)*3) ((flE.cells l).drop (i*3))).toArray 80:=Fo _ F _ _ w.drew K hb (by rw[u];omega);have hX:(i+1)*3+(l.length - i)*3<=K.size:=U;have hY:l.length*3+3<=K.size:=U;have hT:K.toList.length=K.size:=zj;have Q:(BZ K.toList ((i+1)*3) ((flE.cells l).drop (i*3))).length=K.size:=by rw[FR (by rw[u,hT];exact hX),hT]
  have ab:=Fo 80 F (flE.f x) (i*3) _ _ aa (by rw[List.size_toArray,Q,D];have:=Nat.mul_le_mul_right 3 (show i+1<=l.length+1 by omega);omega);refine⟨.slice (some (Z F 0)) (l.length+1) c,rfl,⟨by rw[flE.cells_len],.inr ⟨F,c,_,by rw[W],h3,ab,U,h5,?_,?_⟩⟩,?_,.inl rfl⟩
  .simp only[List.size_toArray];rw[FR (by rw[D,Q];omega),Q];exact h6
  .rw[W,T];have:=Qo (L:=K.toList) (C:=flE.cells l) (fx:=flE.f x) (a:=i*3) (k:=3) (N:=l.length*3) ad X (Nat.mul_le_mul_right 3 U) D (by rw[hT];exact hY);rw[show i*3+3=(i+1)*3 by omega,show l.length*3+3=(l.length+1)*flE.k by rw[hk];omega] at this;simpa using this
  .exact Oa
 .refine(Vm F l.length c i g c2 (flE.cells l) (flE.f x) w hi h4 U U X D aj al (flE.cells_one l) (flE.one x)).mono ?_;rintro e w' ⟨rfl,rfl⟩;obtain⟨G,hG⟩:∃G,G=grownCap w (l.length+1) c 80:=⟨_,rfl⟩;have au:l.length+1<=G:=by rw[hG];exact grownCap_ge w _ _ _
  have ae:G<=maxLen:=by
   have:=grownCap_le_maxLen w (l.length+1) c 80 (by unfold maxLen;omega);rw[<-hG] at this;exact this
  rw[<-hG];clear hG;have aq:flE.z.cells.size=3:=flE.zk;have R:((flE.cells l).take (i*3)).length=i*3:=by rw[zT,X];omega
  obtain⟨q,y⟩:∃q:Array Value,q=((flE.cells l).take (i*3)).toArray++Builtin.zeroCells flE.z.cells (l.length+1 - i)++Builtin.zeroCells flE.z.cells (G - (l.length+1)):=⟨_,rfl⟩;rw[<-y];have an:q.size=G*3:=by
   rw[y];simp only[Array.size_append,List.size_toArray,R,size_zeroCells,aq];omega
  have af:q.toList.take (i*3)=(flE.cells l).take (i*3):=by
   exact NQ
  clear y;have u:((flE.cells l).drop (i*3)).length=(l.length - i)*3:=by rw[zD,X];omega
  have hT:q.toList.length=q.size:=zj;have ag:i*3+3<=q.size:=U;have ah:(i+1)*3+(l.length - i)*3<=q.size:=U;have ao:BIs (w.alloc (.cells q 80)).drew w.heap.size q 80:=BIs.new w q 80;have aa:=Fo 80 w.heap.size (flE.f x) (i*3) _ _ ao (by rw[D];exact ag);have Q:(BZ q.toList (i*3) (flE.f x)).length=q.size:=by rw[FR (by rw[D,hT];exact ag),hT]
  have ai:BIs (((w.alloc (.cells q 80)).drew.setCells w.heap.size (i*3) (flE.f x)).drew) w.heap.size (BZ q.toList (i*3) (flE.f x)).toArray 80:=aa;have ab:=Fo 80 w.heap.size ((flE.cells l).drop (i*3)) ((i+1)*3) _ _ ai (by rw[List.size_toArray,Q,u];exact ah);have hx:V w ((((w.alloc (.cells q 80)).drew.setCells w.heap.size (i*3) (flE.f x)).drew).setCells w.heap.size ((i+1)*3) ((flE.cells l).drop (i*3))):=
   (F7 w.heap.size _ _ _).ext (((F7 w.heap.size _ _ _).ext ((V.new w (.cells q 80)).trans zW) (zR _)).trans zW) (zR _)
  refine⟨.slice (some (Y w 0)) (l.length+1) G,rfl,⟨by rw[flE.cells_len],.inr ⟨w.heap.size,G,_,by rw[W],hB,ab,U,ae,?_,?_⟩⟩,Wrote.of hx,.inr ⟨w.heap.size,rfl,zR _⟩⟩
  .simp only[List.size_toArray];rw[FR (by rw[u,Q];exact ah),Q];exact an
  .rw[W,T];have e1:(BZ q.toList (i*3) (flE.f x)).take ((i+1)*3)=(flE.cells l).take (i*3)++flE.f x:=by
    exact Ol
   show (BZ (BZ q.toList (i*3) (flE.f x)) ((i+1)*3) ((flE.cells l).drop (i*3))).take ((l.length+1)*3)=_;exact NA
theorem Ww(B:Nat)(A:Option Addr)(c:Nat)(l:List (Int×Int))(x:(Int×Int))(i:Nat)(w:World)(ho:AA.Own w B (.slice A l.length c) l)(hB:B<=w.heap.size)(g c2:Nat)(hg:BIs w g (AA.f x).toArray 123)(ap:∀k,(Value.slice A l.length c).ownBlock=some k->k≠g)(hi:i<l.length)(hn:l.length<=100000) :
  Calls prog 186 #[.slice A l.length c,I i,.slice (some (Z g 0)) 1 c2] w λe w'=>∃v',e=.returned v'/\AA.Own w' B v' (l.take i++x::l.drop i)/\Grew w w' (.slice A l.length c)/\Stems w (.slice A l.length c) v':=by
 obtain⟨av,h2⟩:=ho;rcases h2 with ⟨_,h3⟩|⟨F,cap,K,hv,h3,hh,h4,h5,h6,h7⟩
 .omega
 cases hv;have hb:BIs w F K 123:=hh;have hk:AA.k=2:=rfl;have W:(l.take i++x::l.drop i).length=l.length+1:=by simp only[zA,zT,zK,zD];omega
 have T:AA.cells (l.take i++x::l.drop i)=(AA.cells l).take (i*2)++AA.f x++(AA.cells l).drop (i*2):=AA.cells_ins l i x;have X:(AA.cells l).length=l.length*2:=AA.cells_len l;have D:(AA.f x).length=2:=AA.len x;have am:K.size=c*2:=h6;have ad:K.toList.take (l.length*2)=AA.cells l:=h7;have aj:∀j v,(AA.cells l)[j]?=some v->w.cell? (Z F j)=some v:=λj v hj=>by
  rw[hb.cell,<-ad,List.getElem?_take] at *;split at hj
  .simpa using hj
  .cases hj
 have al:∀j v,(AA.f x)[j]?=some v->w.cell? (Z g j)=some v:=λj v hj=>by rw[hg.cell];simpa using hj
 have aw:maxLen<=9223372036854775807:=by unfold maxLen;decide
 have ak:F≠g:=ap F rfl;by_cases ac:l.length+1<=c
 .have ar:(l.length+1)*2<=K.size:=by rw[am];omega
  refine(UT F l.length c i g c2 (AA.cells l) (AA.f x) w hi ac U U (Ne.symm ak) X D aj (λj hj=>?_) (λj _=>hb.free j) al (AA.cells_one l) (AA.one x) 123 123 (AA.f x).toArray.size K.size ?_ ?_ U (hg.free 0) (hg.free _)).mono ?_
  .rw[hb.cell,Array.getElem?_eq_getElem U];rfl
  .unfold World.shape?;rw[show w.heap[g]?=_ from hg]
  .unfold World.shape?;rw[show w.heap[F]?=_ from hb]
  rintro e w' ⟨rfl,rfl⟩;have u:((AA.cells l).drop (i*2)).length=(l.length - i)*2:=by rw[zD,X];omega
  have aa:BIs (w.drew.setCells F ((i+1)*2) ((AA.cells l).drop (i*2))) F (BZ K.toList ((i+1)*2) ((AA.cells l).drop (i*2))).toArray 123:=Fo _ F _ _ w.drew K hb (by rw[u];omega);have hX:(i+1)*2+(l.length - i)*2<=K.size:=U;have hY:l.length*2+2<=K.size:=U;have hT:K.toList.length=K.size:=zj;have Q:(BZ K.toList ((i+1)*2) ((AA.cells l).drop (i*2))).length=K.size:=by rw[FR (by rw[u,hT];exact hX),hT]
  have ab:=Fo 123 F (AA.f x) (i*2) _ _ aa (by rw[List.size_toArray,Q,D];have:=Nat.mul_le_mul_right 2 (show i+1<=l.length+1 by omega);omega);refine⟨.slice (some (Z F 0)) (l.length+1) c,rfl,⟨by rw[AA.cells_len],.inr ⟨F,c,_,by rw[W],h3,ab,U,h5,?_,?_⟩⟩,?_,.inl rfl⟩
  .simp only[List.size_toArray];rw[FR (by rw[D,Q];omega),Q];exact h6
  .rw[W,T];have:=Qo (L:=K.toList) (C:=AA.cells l) (fx:=AA.f x) (a:=i*2) (k:=2) (N:=l.length*2) ad X (Nat.mul_le_mul_right 2 U) D (by rw[hT];exact hY);rw[show i*2+2=(i+1)*2 by omega,show l.length*2+2=(l.length+1)*AA.k by rw[hk];omega] at this;simpa using this
  .exact Oa
 .refine(VX F l.length c i g c2 (AA.cells l) (AA.f x) w hi h4 U U X D aj al (AA.cells_one l) (AA.one x)).mono ?_;rintro e w' ⟨rfl,rfl⟩;obtain⟨G,hG⟩:∃G,G=grownCap w (l.length+1) c 123:=⟨_,rfl⟩;have au:l.length+1<=G:=by rw[hG];exact grownCap_ge w _ _ _
  have ae:G<=maxLen:=by
   have:=grownCap_le_maxLen w (l.length+1) c 123 (by unfold maxLen;omega);rw[<-hG] at this;exact this
  rw[<-hG];clear hG;have aq:AA.z.cells.size=2:=AA.zk;have R:((AA.cells l).take (i*2)).length=i*2:=by rw[zT,X];omega
  obtain⟨q,y⟩:∃q:Array Value,q=((AA.cells l).take (i*2)).toArray++Builtin.zeroCells AA.z.cells (l.length+1 - i)++Builtin.zeroCells AA.z.cells (G - (l.length+1)):=⟨_,rfl⟩;rw[<-y];have an:q.size=G*2:=by
   rw[y];simp only[Array.size_append,List.size_toArray,R,size_zeroCells,aq];omega
  have af:q.toList.take (i*2)=(AA.cells l).take (i*2):=by
   exact NQ
  clear y;have u:((AA.cells l).drop (i*2)).length=(l.length - i)*2:=by rw[zD,X];omega
  have hT:q.toList.length=q.size:=zj;have ag:i*2+2<=q.size:=U;have ah:(i+1)*2+(l.length - i)*2<=q.size:=U;have ao:BIs (w.alloc (.cells q 123)).drew w.heap.size q 123:=BIs.new w q 123;have aa:=Fo 123 w.heap.size (AA.f x) (i*2) _ _ ao (by rw[D];exact ag);have Q:(BZ q.toList (i*2) (AA.f x)).length=q.size:=by rw[FR (by rw[D,hT];exact ag),hT]
  have ai:BIs (((w.alloc (.cells q 123)).drew.setCells w.heap.size (i*2) (AA.f x)).drew) w.heap.size (BZ q.toList (i*2) (AA.f x)).toArray 123:=aa;have ab:=Fo 123 w.heap.size ((AA.cells l).drop (i*2)) ((i+1)*2) _ _ ai (by rw[List.size_toArray,Q,u];exact ah);have hx:V w ((((w.alloc (.cells q 123)).drew.setCells w.heap.size (i*2) (AA.f x)).drew).setCells w.heap.size ((i+1)*2) ((AA.cells l).drop (i*2))):=
   (F7 w.heap.size _ _ _).ext (((F7 w.heap.size _ _ _).ext ((V.new w (.cells q 123)).trans zW) (zR _)).trans zW) (zR _)
  refine⟨.slice (some (Y w 0)) (l.length+1) G,rfl,⟨by rw[AA.cells_len],.inr ⟨w.heap.size,G,_,by rw[W],hB,ab,U,ae,?_,?_⟩⟩,Wrote.of hx,.inr ⟨w.heap.size,rfl,zR _⟩⟩
  .simp only[List.size_toArray];rw[FR (by rw[u,Q];exact ah),Q];exact an
  .rw[W,T];have e1:(BZ q.toList (i*2) (AA.f x)).take ((i+1)*2)=(AA.cells l).take (i*2)++AA.f x:=by
    exact Ol
   show (BZ (BZ q.toList (i*2) (AA.f x)) ((i+1)*2) ((AA.cells l).drop (i*2))).take ((l.length+1)*2)=_;exact NA
theorem PG{P:Prop}(h:P:=by
 clear u y;go_wp2;go_roundw
 case rel=>exact⟨k+1,A,c,l,U,by go_num,rfl,ab,ae,K,Q,G.o.e D.o,z.o.t D.o⟩
 case measure=>simp[intOf];omega):P:=h
theorem Qj{P:Prop}(h:P:=by
 rw[hh] at q;go_wp2;go_roundw
 case rel=>exact⟨k+1,U,by go_num,by rw[q.o];simp,D⟩
 case measure=>simp[intOf];omega):P:=h
theorem TK{α:Type}{l:List α}{k:Nat}{x:α}(q:α->Bool)(h:l[k]?=some x):(l.take (k+1)).countP q=(l.take k).countP q+(if q x then 1 else 0):=by
 rw[List.take_add_one,h,List.countP_append];simp[List.countP_cons]
theorem XG(h:List FlM)(n:Int)(xs:List Int):Eb (h.map FlM.v) (n,xs)=decide (Bs xs.length<=((h.countP λf=>AG xs f.m:Nat):Int)):=by
 unfold Eb;rw[List.countP_map];rfl
theorem TV(m:CM)(B:Nat)(col:Nat->Nat)(p:Nat)(n:Int)(A:Option Addr)(c:Nat)(xs:List Int)(w:World)(h:CS w B col p m)(hr:Row w A (Ai xs))(hx:xs.length<=1000000) :
  Calls prog 128 #[.pointer (some (Z p 0)),.agg #[I n,.slice A xs.length c]] w λQ w'=>Q=.returned (.bool (Eb (m.b.fls.map FlM.v) (n,xs)))/\V w w':=by
 have HB:=J h.lies.reads.fls;have q8:=h.cell 8;have W:=h.fits.fls;have ae:=h.lt;have HR:=J hr;obtain⟨⟨self,base,F,ac,Av,cv,vs,Al,cl,ah,Ap,cp,ab,Am,cm,aa,Af,cf,j⟩,Ak,ck,pk,Ad,cd,dl⟩:=m;simp only at W HB|-;rw[XG];replace q8:w.cell? (Z p 8)=some (.slice Af j.length cf):=q8;clear h hr;have G:O (V w (w.alloc (.cells #[I n,.slice A xs.length c] 46))):=J (V.new _ _);have K:O (BIs (w.alloc (.cells #[I n,.slice A xs.length c] 46)) w.heap.size #[I n,.slice A xs.length c] 46):=J (BIs.new _ _ _);go_enter func128,ntmps128;go_wp2;generalize w.alloc (.cells #[I n,.slice A xs.length c] 46)=u0 at *;go_loopw [5,14] (λs i wr=>∃(k:Nat),k<=j.length/\i=I k/\s=I (((j.take k).countP λf=>AG xs f.m:Nat):Int)/\O (V u0 wr)) (λ_ i _=>j.length - (intOf i).toNat)
 case atStart=>exact⟨0,zO _,rfl,zj,J (V.refl _)⟩
 case round=>
  obtain⟨k,hk,rfl,rfl,z⟩:=hrel;have R:(j.take k).countP (λf=>AG xs f.m)<=k:=zL List.countP_le_length (by rw[zT];omega);obtain⟨ct,y⟩:∃x,x=(j.take k).countP (λf=>AG xs f.m):=⟨_,rfl⟩;rw[<-y] at R|-;have u:=J y;clear y;by_cases X:k<j.length
  .obtain⟨bb,ai,f,rfl,hb,c0,c1,c2,ad,HF⟩:=Fd ((HB.o.ext G.o).ext z.o) X;have v1:wr.cell? (Y w 1)=some (.slice A xs.length c):=(K.o.ext z.o).cell 1;have af:w.heap.size<wr.heap.size:=(K.o.ext z.o).lt;have q:=J (TK (λf=>AG xs f.m) HF.o);have D:O (V u0 (wr.alloc (.cells #[I f.m,I f.b,.slice f.A f.log.length f.c] 80))):=z.o.t (V.new _ _);have ag:IntKind.i64.wrap ((ct:Int)+1)=(ct:Int)+1:=IntWalk.i64_in _ U;go_wp2_with fail;refine(GK A c xs f.m _ (((HR.o.ext G.o).ext D.o)) U).mono ?_;rintro Q w2 ⟨rfl,rfl⟩;rw[<-u.o] at q;cases hh:AG xs f.m with
   | true=>
    exact Qj
   | false=>
    exact Qj
  .have T:k=j.length:=U;subst T;rw[List.take_length] at u;have v1:wr.cell? (Y w 1)=some (.slice A xs.length c):=(K.o.ext z.o).cell 1;go_wp2_with fail;refine(Mz _ _).mono ?_;rintro Q w2 ⟨rfl,rfl⟩;go_wp2;go_ret;exact⟨AC (by rw[u.o]),G.o.trans z.o⟩
def chK(fls:List FlM)(base:Int)(k:Nat):List Ent:=(fls.take k).foldl (λout f=>if f.b=base/\out.length<f.log.length then f.log else out) []
theorem Y8(h:List FlM)(base:Int):Cn (h.map FlM.v) base=chK h base h.length:=by
 unfold Cn chK;rw[List.foldl_map,List.take_length];rfl
theorem Wx{j:List FlM}{base:Int}{k:Nat}{f:FlM}(h:j[k]?=some f):chK j base (k+1)=if f.b=base/\(chK j base k).length<f.log.length then f.log else chK j base k:=by
 unfold chK;rw[List.take_add_one,h,List.foldl_append];rfl
theorem U2(m:CM)(B:Nat)(col:Nat->Nat)(p:Nat)(bs:Int)(w:World)(h:CS w B col p m) :
  Calls prog 129 #[.pointer (some (Z p 0)),I bs] w λen w'=>∃A c,en=.returned (.slice A (Cn (m.b.fls.map FlM.v) bs).length c)/\(Cn (m.b.fls.map FlM.v) bs).length<=c/\c<=maxLen/\Row w' A (Aa.cells (Cn (m.b.fls.map FlM.v) bs))/\V w w':=by
 have W:=J h.lies.reads.fls;have q8:=h.cell 8;have af:=h.fits.fls;have F:=J h.fits.fl;obtain⟨⟨self,base,T,aj,Av,cv,vs,Al,cl,ak,Ap,cp,ai,Am,cm,ah,Af,cf,j⟩,Ak,ck,pk,Ad,cd,dl⟩:=m;simp only at af W F|-;rw[Y8];replace q8:w.cell? (Z p 8)=some (.slice Af j.length cf):=q8;clear h;go_enter func129,ntmps129;go_wp2;go_loopw [5,14] (λs i wr=>∃(k:Nat) (A:Option Addr) (c:Nat) (l:List Ent),k<=j.length/\i=I k/\s=.slice A l.length c/\O (l=chK j bs k)/\l.length<=100000/\l.length<=c/\c<=maxLen/\O (Row wr A (Aa.cells l))/\O (V w wr)) (λ_ i _=>j.length - (intOf i).toNat)
 case atStart=>exact⟨0,none,0,[],zO _,rfl,rfl,J rfl,zO _,zR _,zO _,J (Row.nil _ _),J (V.refl _)⟩
 case round=>
  obtain⟨k,A,c,l,hk,rfl,rfl,HL,ae,K,Q,G,z⟩:=hrel;by_cases ag:k<j.length
  .obtain⟨bb,al,f,rfl,hb,c0,c1,c2,aa,X⟩:=Fd (W.o.ext z.o) ag;have q:=J (Wx (base:=bs) X.o);rw[<-HL.o] at q;have ac:=(F.o f (zX X.o)).1;have R:=(W.o.2 f (zX X.o)).1;have D:O (V wr (wr.alloc (.cells #[I f.m,I f.b,.slice f.A f.log.length f.c] 80))):=J (V.new _ _);by_cases u:f.b=bs/\l.length<f.log.length
   .have d1:(f.b == bs)=true:=by simpa using u.1
    have d2:decide ((l.length:Int)<(f.log.length:Int))=true:=zm;rw[if_pos u] at q;have d3:l.length<f.log.length:=u.2;clear u;go_wp2;go_roundw
    case rel=>exact⟨k+1,f.A,f.c,f.log,U,by go_num,rfl,J q.o.symm,ac,R.1,R.2,aa.o.e D.o,z.o.t D.o⟩
    case measure=>simp[intOf];omega
   .rw[if_neg u] at q;have ab:O (l=chK j bs (k+1)):=J q.o.symm;by_cases y:f.b=bs
    .have d1:(f.b == bs)=true:=by simpa using y
     have d2:decide ((l.length:Int)<(f.log.length:Int))=false:=by simp only[decide_eq_false_iff_not];intro e;exact u ⟨y,U⟩
     have d3:¬l.length<f.log.length:=λe=>u ⟨y,e⟩;exact PG
    .have d1:(f.b == bs)=false:=by simpa using y
     exact PG
  .have ad:k=j.length:=U;subst ad;go_wp2;go_ret;rw[<-HL.o];exact⟨A,c,rfl,K,Q,G.o,z.o⟩
theorem KQ{α:Type}(q:α->Bool):∀(l:List α) (k:Nat),(∀i y,i<k->l[i]?=some y->q y=true)->k<=l.length->(∀y,l[k]?=some y->q y=false)->(l.takeWhile q).length=k
 | [],k,_,hk,_=>by simp at hk;simp[hk]
 | x::l,0,_,_,hn=>by
  have:=hn x rfl;simp[this]
 | x::l,k+1,h,hk,hn=>by
  have j:=h 0 x U rfl;rw[List.takeWhile_cons,j];simp only[if_true,zK,Nat.add_right_cancel_iff];exact KQ q l k (λi y u hy=>h (i+1) y U (by simpa using hy)) (by simpa using hk) (λy hy=>hn y (by simpa using hy))
theorem Pp{l:List FlM}{k:Nat}{mb:Int}(h:∀i y,i<k->l[i]?=some y->y.m<mb)(u:k<=l.length)(z:∀y,l[k]?=some y->¬y.m<mb):ED (l.map FlM.v) mb=k:=by
 unfold ED;refine KQ _ _ k (λi y q hy=>?_) (by simpa using u) (λy hy=>?_)
 .rw[zM] at hy;obtain⟨f,j,rfl⟩:=Option.map_eq_some_iff.1 hy;exact decide_eq_true (h i f q j)
 .rw[zM] at hy;obtain⟨f,j,rfl⟩:=Option.map_eq_some_iff.1 hy;exact decide_eq_false (z f j)
theorem OR{l:List (Int×Int)}{k:Nat}{mb:Int}(h:∀i y,i<k->l[i]?=some y->y.1<mb)(q:k<=l.length)(u:∀y,l[k]?=some y->¬y.1<mb):Dx l mb=k:=by
 unfold Dx;exact KQ _ _ k (λi y j hy=>by simpa using h i y j hy) q (λy hy=>by simpa using u y hy)
theorem Xm{l:List FlM}{k:Nat}{f g:FlM}(q:ED (l.map FlM.v) f.m=k)(j:l[k]?=some g)(h:g.m=f.m):Bz (l.map FlM.v) f.v=(l.set k f).map FlM.v:=by
 unfold Bz;rw[show f.v.1=f.m from rfl,q,zM,j];simp only[Option.map_some,FlM.v,h,if_true];rw[List.map_set];rfl
theorem OU{l:List FlM}{k:Nat}{f:FlM}(j:ED (l.map FlM.v) f.m=k)(h:∀g,l[k]?=some g->g.m≠f.m):Bz (l.map FlM.v) f.v=(l.take k++f::l.drop k).map FlM.v:=by
 unfold Bz;rw[show f.v.1=f.m from rfl,j,zM];rw[if_neg]
 .simp[List.map_append,List.map_take,List.map_drop]
 .intro e;cases hg:l[k]? with
  | none=>rw[hg] at e;cases e
  | some g=>rw[hg] at e;simp only[Option.map_some,zJ] at e;exact h g hg e
theorem Ti:∀(l:List FlM) (k:Nat) (x f:FlM),l[k]?=some x->flE.cells (l.set k f)=(((flE.cells l).set (k*3) (I f.m)).set (k*3+1) (I f.b)).set (k*3+2) (.slice f.A f.log.length f.c):=by
 intro l;induction l with
 | nil=>intro k x f h;simp at h
 | cons y l u=>
  intro k x f h
  match k,h with
  | 0,h=>rfl
  | k+1,h=>
   rw[List.set_cons_succ,flE.cells_cons,flE.cells_cons,u k x f (by simpa using h)];have e1:(k+1)*3+2=k*3+2+1+1+1:=U;have j:(k+1)*3+1=k*3+1+1+1+1:=U;have q:(k+1)*3=k*3+1+1+1:=U;rw[e1,j,q];rfl
theorem Zu{w:World}{B g cap:Nat}{l:List FlM}{k:Nat}{x:FlM}(f:FlM)(h:flE.Own w B (.slice (some (Z g 0)) l.length cap) l)(R:l[k]?=some x) :
  flE.Own (((w.setCell (Z g (k*3)) (I f.m)).setCell (Z g (k*3+1)) (I f.b)).setCell (Z g (k*3+2)) (.slice f.A f.log.length f.c)) B (.slice (some (Z g 0)) (l.set k f).length cap) (l.set k f):=by
 obtain⟨y,q⟩:=h;refine⟨by rw[flE.cells_len],.inr ?_⟩;rcases q with ⟨q,_⟩|⟨T,u,j,z,D,hh,F,G,K,Q⟩
 .cases q
 .simp only[Value.slice.injEq,zJ,Addr.mk.injEq,and_true,true_and] at z;obtain⟨rfl,rfl⟩:=z;refine⟨g,cap,((j.setIfInBounds (k*3) (I f.m)).setIfInBounds (k*3+1) (I f.b)).setIfInBounds (k*3+2) (.slice f.A f.log.length f.c),by rw[List.length_set],D,?_,by rw[List.length_set];exact F,G,by simpa using K,?_⟩
  .exact heap_setCell_same _ _ _ _ _ _ (heap_setCell_same _ _ _ _ _ _ (heap_setCell_same _ _ _ _ _ _ hh))
  .rw[List.length_set,Array.toList_setIfInBounds,List.take_set,Array.toList_setIfInBounds,List.take_set,Array.toList_setIfInBounds,List.take_set,Q,Ti l k x f R]
theorem MN{w:World}{B:Nat}{v:Value}{l:List FlM}(h:flE.Own w B v l)(Q:0<l.length):∃g c,v=.slice (some (Z g 0)) l.length c/\l.length<=c/\c<=maxLen/\B<=g/\g<w.heap.size/\∀i,w.frozen? (Z g i)=false:=by
 have u:=h;obtain⟨_,y⟩:=h;rcases y with ⟨_,q⟩|⟨g,cap,j,F,q,hh,z,D,G,K⟩
 .omega
 .subst F;exact⟨g,cap,rfl,z,D,q,(u.lt g rfl).2,λi=>(show BIs w g j _ from hh).free i⟩
theorem CS.fl_ob{w:World}{B:Nat}{col:Nat->Nat}{p:Nat}{m:CM}(h:CS w B col p m):flE.OB w B (.slice m.b.Af m.b.fls.length m.b.cf) m.b.fls:=⟨h.lies.fls,λf j=>⟨(h.lies.fi f j).1,λr D=>by
 simp only[flE,zC,zN,or_false] at D;subst D;exact⟨(h.lies.fi f j).2.1,λK q u F G e=>by have y:=(h.lies.fi f j).2.2 K u F;have z:=h.lies.fc q G;rw[e,y] at z;cases z⟩⟩⟩
theorem FT(a b:Int)(A:Option Addr)(c:Nat)(l:List Ent)(w:World):BIs (w.alloc (.cells #[I a,I b,.slice A l.length c] 80)) w.heap.size (flE.f ⟨a,b,A,c,l⟩).toArray 80:=BIs.new _ _ _
theorem Gn{w:World}{g:Nat}{x:FlM}(h:BIs w g (flE.f x).toArray 80):Row w (some (Z g 0)) (flE.cells [x]):=by
 intro _;refine⟨g,0,rfl,h.lt,λj q y=>?_⟩;rw[flE.cells_cons] at y;have u:(flE.f x)[j]?=some q:=by simpa[Elem.cells] using y
 rw[h.cell];simpa using u
theorem WI(B:Nat)(A:Option Addr)(c:Nat)(l:List FlM)(x:FlM)(w:World)(R:flE.OB w B (.slice A l.length c) l)(Q:B<=w.heap.size)(g c2:Nat)(W:Row w (some (Z g 0)) (flE.cells [x]))(X:flE.ok x/\∀r∈flE.inn x,Row w r.1 r.2/\Apt (.slice A l.length c) r)(hn:l.length<=1000000)(u:l.length<=c/\c<=maxLen) :
  Calls prog 127 #[.slice A l.length c,I (l.length:Int),.slice (some (Z g 0)) 1 c2] w λe w'=>∃F,e=.returned F/\flE.Own w' B F (l++[x])/\Grew w w' (.slice A l.length c)/\Stems w (.slice A l.length c) F:=by
 have G:=J R;have K:=J W;have z:O (∀q∈[x],flE.ok q/\∀r∈flE.inn q,Row w r.1 r.2/\Apt (.slice A l.length c) r):=J (λq T=>by simp only[zC,zN,or_false] at T;subst T;exact X);clear R W X;obtain⟨aa,ab⟩:=u;rcases A with _|ad
 .go_enter func127,ntmps127;go_wp2_with (first
   | (at_builtin;refine By flE rfl (.tmp 23) (.tmp 24) rfl _ B _ l zi _ _ _ [x] zi rfl K.o G.o z.o zm Q ?_;intro v1 w1 y j D))
  all_goals (go_ret;exact⟨v1,rfl,y.1,j,D⟩)
 .go_enter func127,ntmps127;go_wp2_with (first
   | (at_builtin;refine By flE rfl (.tmp 23) (.tmp 24) rfl _ B _ l zi _ _ _ [x] zi rfl K.o G.o z.o zm Q ?_;intro v1 w1 y j D))
  all_goals (go_ret;exact⟨v1,rfl,y.1,j,D⟩)
theorem Ky{l:List Ent}{e:Ent}{i:Nat}(h:i<=l.length)(j:0<i):Fg (l++[e]) i=Fg l i:=by
 unfold Fg;rw[List.getElem?_append_left U]
theorem Wh{l:List Ent}{e x:Ent}{i:Nat}(h:i<l.length):Di (l++[e]) i x=Di l i x:=by
 unfold Di;by_cases j:i=0
 .subst j;simp
 .rw[Ky U U,List.take_append_of_le_length U]
theorem NE{l:List Ent}{e:Ent}(h:Bc l=true)(D:l.length<2000)(u:Di (l++[e]) l.length e=true):Bc (l++[e])=true:=by
 unfold Bc at *;simp only[zB,zE,List.all_eq_true,List.mem_range] at h|-;refine⟨zm,λi z=>?_⟩;simp only[zA,zK,List.length_nil] at z;by_cases j:i<l.length
 .obtain⟨x,q⟩:∃x,l[i]?=some x:=⟨l[i],by simp[j]⟩;have y:=h.2 i j;rw[GX q] at y;rw[GX (e:=x) (by rw[List.getElem?_append_left j];exact q),Wh j];exact y
 .have:i=l.length:=U;subst this;rw[GX (e:=e) zj];exact u
theorem Ox{l:List Ent}{base self:Int}{p:List UInt8}(h:Bc l=true)(z:l.length<2000)(q:0<l.length)(u:CK l=base)(y:AQ self=true)(D:p.length<=6000) :
  Bc (l++[⟨base,self,(Aq l self:Int)+1,p⟩])=true/\CK (l++[⟨base,self,(Aq l self:Int)+1,p⟩])=base:=by
 have j:Fg (l++[⟨base,self,(Aq l self:Int)+1,p⟩]) l.length=base:=by
  rw[Ky (zR _) q];exact u
 refine⟨NE h z ?_,?_⟩
 .unfold Di;rw[j,if_neg (by rintro(h|h)<;>first|omega|exact h rfl),List.take_left];simp[y,D]
 .unfold CK;simp
theorem Ud(s:St)(j:Nat):AI s (j+1)=AI s j++[⟨s.base,s.self,(Aq (AI s j) s.self:Int)+1,Do s (Aq s.log s.self+1+j)⟩]:=by
 rw[JL,show ((Aq s.log s.self+j:Nat):Int)+1=(Aq s.log s.self:Int)+1+j by omega];unfold AI;rw[List.range_succ,List.map_append,<-List.append_assoc];simp only[List.map_cons,List.map_nil]
theorem Vk{s:St}(h:∀p∈s.pend,p.length<=6000)(q:Int):(Do s q).length<=6000:=by
 unfold Do;cases hx:s.pend[((s.pend.length:Int) - 1 - (s.sent - q)).toNat]? with
 | none=>simp
 | some p=>exact h p (zX hx)
theorem TT{s:St}(h:Bc s.log=true)(G:0<s.log.length)(u:CK s.log=s.base)(z:AQ s.self=true)(D:∀p∈s.pend,p.length<=6000):∀j,s.log.length+j<=2000->Bc (AI s j)=true/\CK (AI s j)=s.base:=by
 intro j;induction j with
 | zero=>intro _;simp only[AI,List.range_zero,List.map_nil,List.append_nil];exact⟨h,u⟩
 | succ j F=>
  intro K;obtain⟨y,q⟩:=F U;rw[Ud];exact Ox y (by rw[Fr];omega) (by rw[Fr];omega) q z (Vk D _)
theorem TB(l:List Nat):∀c:Cs,(l.foldl Df c).s=c.s/\(l.foldl Df c).dl=c.dl:=by
 induction l with
 | nil=>intro c;exact⟨rfl,rfl⟩
 | cons x l j=>intro c;obtain⟨y,h⟩:=j (Df c x);exact⟨y,h⟩
end Go.Proofs.YtponbabbabnaeaaGreat
