/- Part 16 of the proof: contracts of functions that the statement reaches. Conditions: as each theorem says. -/
import Derived.Laws.IdiomCopy
import Derived.Lib.Overlaps
import Derived.Lib.AppendZerosOnto
import Derived.Shelf.Spec.SlicesInsert
import Derived.Laws.NewBlocks
import Derived.Deep.DeepAppendWide
import Derived.Test.YtponbabbabnaeaaGreatQf01
import Derived.Test.YtponbabbabnaeaaGreatQf14
import Derived.Test.YtponbabbabnaeaaGreatQf15
import Derived.Test.YtponbabbabnaeaaGreatQf13
set_option maxRecDepth 100000
set_option maxHeartbeats 40000000
namespace Go.Proofs.YtponbabbabnaeaaGreat
open Go.RowKit
def qmf(w:World)(r:Cs)(er:Int)(en:Ending)(w':World):Prop:=
 ∃m:CM,en=.returned (.tuple #[.agg m.b.cells,.slice m.Ak m.pk.length m.ck,.slice m.Ad m.dl.length m.cd,Jq er])∧m.cs=r∧m.b.Reads w'∧m.b.Fits∧pkE.Box w' m.Ak m.pk∧Row w' m.Ad (qaH.cells m.dl)∧Ext w w'∧m.b.New w.heap.size∧NewAt w.heap.size m.Ad (qaH.cells m.dl)∧qsP w.heap.size m
theorem qqm{w wE W:World}{B p:Nat}{col col':Nat→Nat}{m:CM}{r:Cs}(h:CS wE B col p m)(s:Stp w.heap.size [8] col wE col' W)(hr:m.cs=r)(hx:Ext w W)(hc:∀k,k<w.heap.size→col k=8):qmf w r 0 (.returned (.tuple #[.agg m.b.cells,.slice m.Ak m.pk.length m.ck,.slice m.Ad m.dl.length m.cd,Jq 0])) W:=by
 refine⟨m,rfl,hr,?_⟩;refine⟨?_,h.fits,⟨?_,fun k hk=>⟨(h.ki k hk).1,fun r hr=>?_⟩⟩,s.row h.dl.row (h.dc.row h.dl) (by simp),hx,h.lies.new hc,(h.dc.row h.dl).new hc (by decide),(h.kc.row h.pk).new hc (by decide),fun k hk=>(h.ki k hk).2.2.new hc (by decide)⟩
 ·have:=h.lies;exact⟨⟨s.row this.vs.1 this.vc (by simp),fun v hv=>⟨(this.vs.2 v hv).1,fun r hr=>by have hr':=hr;simp only[qaC,zC,zN,or_false] at hr;subst hr;exact s.row ((this.vs.2 v hv).2 _ hr') (this.vi v hv) (by simp)⟩⟩,s.row this.log.row (this.lc.row this.log) (by simp),s.row this.pend this.pc (by simp),s.row this.marks.row (this.mc.row this.marks) (by simp),s.row this.fls.row (this.fc.row this.fls) (by simp),fun f hf=>⟨(this.fi f hf).1,fun r hr=>by simp only[flE,zC,zN,or_false] at hr;subst hr;exact s.row (this.fi f hf).2.1 (this.fi f hf).2.2 (by simp)⟩⟩
 ·exact s.row h.pk.row (h.kc.row h.pk) (by simp)
 ·simp only[pkE,zC,zN,or_false] at hr;subst hr;exact s.row (h.ki k hk).2.1 (h.ki k hk).2.2 (by simp)
theorem qsp{w:World}{B:Nat}{col:Nat→Nat}{b:BM}(hl:b.Lies w B col)(hf:b.Fits)(hp:b.pend.length≤b.cp)(hB:B≤w.heap.size) :
  CS (w.alloc (.cells (⟨b,none,0,[],none,0,[]⟩:CM).cells 86)) B (qai (qai col w.heap.size 1) (w.heap.size+1) 8) w.heap.size ⟨b,none,0,[],none,0,[]⟩:=by
 refine⟨BIs.new _ _ _,by rw[qah (by omega),qbB (zR _)],hB,hl.ext (Ext.new _ _) (fun k hk=>by rw[qah (by omega),qah hk]),Elem.Own.nil _ _,fun q hq=>by simp[Value.ownBlock] at hq,fun k hk=>by simp at hk,Elem.Own.nil _ _,fun q hq=>by simp[Value.ownBlock] at hq,hf,hp⟩
def qqb(r:Nat)(A:Option Addr)(xs:List Value):Prop:=∀p,xs≠[]→A=some p→p.block≠r
structure BM.Far(b:BM)(r:Nat):Prop where
 vs:qqb r b.Av (qaC.cells b.vs)
 vi:∀v∈b.vs,qqb r v.A (qaq v.xs)
 log:qqb r b.Al (qaH.cells b.log)
 pend:qqb r b.Ap (qdC.cells b.pend)
 marks:qqb r b.Am (qat.cells b.marks)
 fls:qqb r b.Af (flE.cells b.fls)
 fi:∀f∈b.fls,qqb r f.A (qaH.cells f.log)
section
variable {r N:Nat} {A:Option Addr} {xs:List Value} {w w':World} {b:BM}
theorem NewAt.far(h:NewAt N A xs)(hr:r<N):qqb r A xs:=fun p hx hp e=>by have:=h p hx hp;omega
theorem Row.far(h:Row w A xs)(hr:w.heap.size≤r):qqb r A xs:=fun p hx hp e=>by have:=qgV h hx hp;omega
theorem Row.wrote(h:Row w A xs)(hf:qqb r A xs)(hw:Wrote r w w'):Row w' A xs:=by
 intro hx;obtain⟨b,off,h1,h2,h3⟩:=h hx;refine⟨b,off,h1,Nat.lt_of_lt_of_le h2 hw.size,fun j u hj=>?_⟩;exact(World.cell?_of_block (a:=⟨b,off+j,none⟩) (hw.blk h2 (hf ⟨b,off,none⟩ hx h1))).trans (h3 j u hj)
theorem BM.New.far(h:b.New N)(hr:r<N):b.Far r:=
 ⟨h.vs.far hr,fun v hv=>(h.vi v hv).far hr,h.log.far hr,h.pend.far hr,h.marks.far hr,h.fls.far hr,fun f hf=>(h.fi f hf).far hr⟩
theorem BM.Reads.far(h:b.Reads w)(hr:w.heap.size≤r):b.Far r:=
 ⟨h.vs.1.far hr,fun v hv=>((h.vs.2 v hv).2 (v.A,qaq v.xs) (by simp[qaC])).far hr,h.log.far hr,h.pend.far hr,h.marks.far hr,h.fls.1.far hr,fun f hf=>((h.fls.2 f hf).2 (f.A,qaH.cells f.log) (by simp[flE])).far hr⟩
theorem BM.Reads.wrote(h:b.Reads w)(hf:b.Far r)(hw:Wrote r w w'):b.Reads w':=by
 refine⟨⟨h.vs.1.wrote hf.vs hw,fun v hv=>⟨(h.vs.2 v hv).1,fun q hq=>?_⟩⟩,h.log.wrote hf.log hw,h.pend.wrote hf.pend hw,h.marks.wrote hf.marks hw,⟨h.fls.1.wrote hf.fls hw,fun f hq=>⟨(h.fls.2 f hq).1,fun q hq'=>?_⟩⟩⟩
 ·have hq':=hq;simp only[qaC,zC,zN,or_false] at hq;subst hq;exact((h.vs.2 v hv).2 _ hq').wrote (hf.vi v hv) hw
 ·have hq'':=hq';simp only[flE,zC,zN,or_false] at hq';subst hq';exact((h.fls.2 f hq).2 _ hq'').wrote (hf.fi f hq) hw
theorem BIs.newAt{k:Nat}(vals:Array Value)(t:TypeId)(h:w.heap.size=k):BIs (w.alloc (.cells vals t)) k vals t:=h▸BIs.new w vals t
theorem BIs.wrote{p:Nat}{vals:Array Value}{t:TypeId}(h:BIs w p vals t)(hne:p≠r)(hw:Wrote r w w'):BIs w' p vals t:=h.same (hw.blk h.lt hne)
theorem Row.get{ab off:Nat}(h:Row w (some (Pq ab off)) xs){j:Nat}{v:Value}(hj:xs[j]?=some v):w.cell? (Pq ab (off+j))=some v:=by
 obtain⟨b,o,h1,_,h3⟩:=h (by intro e;rw[e] at hj;simp at hj);cases h1;exact h3 j v hj
end
section
variable {P:Program} {ops:Array Oper} {Q:Exit→Act→World→Prop} {md:Region.Mode} {S S':World→Prop} {n:Nat}
theorem qse(hi:∀w,S' w→S w):∀(fuel:Nat) (listed:Array Bool) (a:Act) (w:World),wpE P md ops Q S' n fuel listed a w→wpE P md ops Q S n fuel listed a w
 | 0,_,_,_,h=>h
 | fuel+1,_,_,_,h=>⟨h.1,fun i hi'=>wpOp_mono (fun a' w' h'=>⟨fun hin=>hi _ (h'.1 hin),qse hi fuel _ a' w' h'.2⟩) (h.2 i hi')⟩
theorem qjx(S':World→Prop){fuel:Nat}{listed:Array Bool}{a:Act}{w:World}(hi:∀w,S' w→S w)(hS:S' w)(h:S' w→wpE P md ops Q S' n fuel listed a w):wpE P md ops Q S n fuel listed a w:=qse hi _ _ _ _ (h hS)
end
theorem qci{P:Program}(w:World)(dT sT ty elem:TypeId)(k b o dLen dCap:Nat)(a:Addr)(sLen sCap:Nat)(cs:List Value)
  (hu:P.underlying dT=some (.slice elem)) (hs:(P.info? elem).map (·.size)=some k) (hn:cs.length=Nat.min sLen dLen*k)
  (hsrc:∀j v,cs[j]?=some v→w.cell? (a.add j)=some v) (hc:∀j,j<cs.length→(w.cell? (Pq b (o+j))).isSome=true) (hf:∀j,j<cs.length→w.frozen? (Pq b (o+j))=false) (h1:∀v∈cs,v.oneCell'=true) :
  (Builtin.copy_ #[dT,sT] ty #[.slice (some (Pq b o)) dLen dCap,.slice (some a) sLen sCap]).run P w=.ok (goInt (Nat.min sLen dLen)) (w.setCells b o cs):=by
 have hl:=run_loadCells_list (P:=P) w a cs hsrc;have hst:=run_storeCells_cells (P:=P) b o cs 0 w (by simpa using hc) (by simpa using hf) h1;cases hq:P.info? elem with
 | none=>simp[hq] at hs
 | some i=>
  have hi:i.size=k:=by simpa[hq] using hs
  simp[Builtin.copy_,run_underlying hu,Builtin.lenOf,Builtin.firstCells,sizeOf,typeInfo,hq,hi,←hn,hl,hst]
def qfE(l:List Value)(o:Nat)(vs:List Value):List Value:=l.take o++vs++l.drop (o+vs.length)
theorem qdJ{l vs:List Value}{o:Nat}(h:o+vs.length≤l.length):(qfE l o vs).length=l.length:=by
 unfold qfE;simp;omega
theorem qbx(t:TypeId)(b:Nat):∀(vs:List Value) (o:Nat) (w:World) (cur:Array Value),BIs w b cur t→o+vs.length≤cur.size→BIs (w.setCells b o vs) b (qfE cur.toList o vs).toArray t
 | [],o,w,cur,h,_=>by
  have:(qfE cur.toList o []).toArray=cur:=by unfold qfE;simp
  rw[this];exact h
 | v::vs,o,w,cur,h,hl=>by
  simp only[zK] at hl;have h1:=h.set o v;have h2:=qbx t b vs (o+1) _ _ h1 (by simp;omega);have e:(qfE (cur.setIfInBounds o v).toList (o+1) vs).toArray=(qfE cur.toList o (v::vs)).toArray:=by
   congr 1;unfold qfE;rw[Array.toList_setIfInBounds];have hlt:o<cur.toList.length:=by simp;omega
   rw[List.set_eq_take_append_cons_drop,if_pos hlt];have h3:(cur.toList.take o).length=o:=by rw[zT];omega
   have a1:(cur.toList.take o++v::cur.toList.drop (o+1)).take (o+1)=cur.toList.take o++[v]:=by
    rw[List.take_append,h3,List.take_of_length_le (by omega),show o+1 - o=1 by omega];rfl
   have a2:(cur.toList.take o++v::cur.toList.drop (o+1)).drop (o+1+vs.length)=cur.toList.drop (o+(v::vs).length):=by
    rw[List.drop_append,h3,List.drop_of_length_le (by omega),List.nil_append,show o+1+vs.length - o=vs.length+1 by omega,List.drop_succ_cons,List.drop_drop];congr 1;simp only[zK];omega
   rw[a1,a2];simp
  rw[e] at h2;exact h2
theorem qjQ {P : Prop} (h : P := by
 rw[hW1,World.cell?_alloc_at (w:=w.drew) ROW _ w.heap.size j rfl,Array.getElem?_eq_getElem (by omega)];rfl) : P := h
theorem qnB(g n c i vb vc:Nat)(cs vs:List Value)(w:World)(hi:i<n)(hroom:n+1≤c)(hc63:c≤9223372036854775807)(hn6:n≤1000000)(hvb:vb≠g)
  (hcl:cs.length=n*3) (hvl:vs.length=3)
  (hcs:∀j v,cs[j]?=some v→w.cell? (Pq g j)=some v) (hsp:∀j,j<(n+1)*3→(w.cell? (Pq g j)).isSome=true) (hfz:∀j,j<(n+1)*3→w.frozen? (Pq g j)=false)
  (hvs:∀j v,vs[j]?=some v→w.cell? (Pq vb j)=some v) (h1c:∀v∈cs,v.oneCell'=true) (h1v:∀v∈vs,v.oneCell'=true)
  (tA tB:TypeId) (kA kB:Nat) (hsa:w.shape? vb=some (tA,kA)) (hsb:w.shape? g=some (tB,kB)) (hkB:kB≠0) (hfa:w.frozen? (Pq vb 0)=false) (hfe:w.frozen? (Pq vb kA)=false) :
  Calls Tryz.prog 127 #[.slice (some (Pq g 0)) n c,Jq i,.slice (some (Pq vb 0)) 1 vc] w fun e w'=>
   e=.returned (.slice (some (Pq g 0)) (n+1) c)∧w'=(w.drew.setCells g ((i+1)*3) (cs.drop (i*3))).setCells g (i*3) vs:=by
 have hsz:(Tryz.prog.info? 80).map (·.size)=some 3:=by kernel_rfl
 have hsz2:∀w,(Go.sizeOf 80).run Tryz.prog w=.ok 3 w:=fun w=>by
  obtain⟨i0,hi0,h0,h1,h2⟩:=flE.info_parts;have h1':i0.size=3:=h1;have hi0':Tryz.prog.info? 80=some i0:=hi0;simp[Go.sizeOf,typeInfo,hi0',h1']
 have hov:∀lb cb,(callFunc 177 #[.slice (some (Pq vb 0)) 1 vc,.slice (some (Pq g ((i+1)*3))) lb cb]).run Tryz.prog w=.ok (.value (.bool false)) w:=fun lb cb=>by
  rw[run_callFunc_extern Tryz.func177 (by kernel_rfl) (by kernel_rfl) (by kernel_rfl) (e:=Extern.SlicesOverlaps.overlaps #[26,26] #[4]) (by kernel_rfl),
   Lib.run_overlaps_apart w 26 4 80 Tryz.underlying26 3 hsz2 ⟨vb,0,none⟩ ⟨g,(i+1)*3,none⟩ 1 vc lb cb hvb tA tB kA kB hsa hsb hkB hfa hfe]
  rfl
 have hdl:(cs.drop (i*3)).length=(n - i)*3:=by rw[zD,hcl];omega
 have hw1:IntKind.i64.wrap ((i:Int)+1)=(i:Int)+1:=IntWalk.i64_in _ (by omega);have hw2:IntKind.i64.wrap ((n:Int)+1)=(n:Int)+1:=IntWalk.i64_in _ (by omega);have hz2:¬((i:Int)=(n:Int)):=by omega
 have hz3:¬((c:Int)<(n:Int)+1):=by omega
 have hb1:(0:Int)≤(i:Int)+1:=by omega
 have hin:i≤n:=by omega
 have htn:((i:Int)+1).toNat=i+1:=by omega
 have htm:((n:Int)+1).toNat=n+1:=by omega
 have hb2:¬(c=i+1):=by omega
 have hb3:(i:Int)≤(n:Int)+1:=by omega
 have hb4:¬(c=i):=by omega
 have hb5:i+1≤n+1:=by omega
 have hb6:i≤n+1:=by omega
 have hcp1:∀ty dc sc,(Builtin.copy_ #[26,26] ty #[.slice (some (Pq g ((i+1)*3))) (n - i) dc,.slice (some (Pq g (i*3))) (n+1 - i) sc]).run Tryz.prog w.drew=.ok (goInt (Nat.min (n+1 - i) (n - i))) (w.drew.setCells g ((i+1)*3) (cs.drop (i*3))):=fun ty dc sc=>
  qci w.drew _ _ ty 80 3 g ((i+1)*3) (n - i) dc ⟨g,i*3,none⟩ (n+1 - i) sc (cs.drop (i*3)) Tryz.underlying26 hsz (by rw[hdl];congr 1;simp only[Nat.min_def];split<;>omega)
   (fun j v hj=>by rw[Addr.add_lit];exact hcs (i*3+j) v (by rwa [List.getElem?_drop] at hj))
   (fun j hj=>hsp _ (by omega)) (fun j hj=>hfz _ (by omega)) (fun v hv=>h1c v (List.mem_of_mem_drop hv))
 obtain⟨W1,hW1⟩:∃W1,W1=w.drew.setCells g ((i+1)*3) (cs.drop (i*3)):=⟨_,rfl⟩;have hsp1:∀k,k<(n+1)*3→(W1.cell? (Pq g k)).isSome=true:=fun k hk=>by
  rw[hW1];exact isSome_setCells g (cs.drop (i*3)) ((i+1)*3) w.drew (fun j hj=>hsp _ (by rw[hdl] at hj;omega)) _ (hsp k hk)
 have hcp2:∀(W:World),(∀x,W.cell? x=W1.cell? x)→(∀x,W.frozen? x=W1.frozen? x)→∀ty dc,(Builtin.copy_ #[26,26] ty #[.slice (some (Pq g (i*3))) (n+1 - i) dc,.slice (some (Pq vb 0)) 1 vc]).run Tryz.prog W=.ok (goInt (Nat.min 1 (n+1 - i))) (W.setCells g (i*3) vs):=fun W hWc hWf ty dc=>
  qci W _ _ ty 80 3 g (i*3) (n+1 - i) dc ⟨vb,0,none⟩ 1 vc vs Tryz.underlying26 hsz (by rw[hvl];simp only[Nat.min_def];split<;>omega)
   (fun j v hj=>by
    rw[Addr.add_lit,hWc,hW1,World.cell?_setCells_out g _ _ _ _ (fun h _=>absurd h hvb),Nat.zero_add];exact hvs j v hj)
   (fun j hj=>by rw[hWc];exact hsp1 _ (by omega)) (fun j hj=>by rw[hWf,hW1,World.frozen?_setCells];exact hfz _ (by omega)) h1v
 rw[←hW1] at hcp1;have mixed:Tryz.prog.follows .mixedOrders=true:=by kernel_rfl
 go_enter Tryz.func127,Tryz.ntmps127;go_wp2_with (simp only[hov])
 go_region_law_o (refine step_copy_runI rfl _ _ 26 26 rfl _ _ (by simp[Act.eval,Act.put]) (by simp[Act.eval,Act.put]) (hcp1 _ _ _) ?_)
 go_wp2_with (at_builtin;refine wpList_copy_runI _ rfl _ _ 26 26 rfl _ _ rfl rfl (hcp2 _ (fun _=>rfl) (fun _=>rfl) _ _) ?_);go_ret
 first|exact⟨rfl,rfl⟩|exact⟨rfl,by rw[hW1]⟩
theorem qp2(b n c i vb vc:Nat)(cs vs:List Value)(w:World)(hi:i<n)(hnc:n≤c)(hroom:c<n+1)(hn6:n≤1000000)
  (hcl:cs.length=n*3) (hvl:vs.length=3)
  (hcs:∀j v,cs[j]?=some v→w.cell? (Pq b j)=some v) (hvs:∀j v,vs[j]?=some v→w.cell? (Pq vb j)=some v) (h1c:∀v∈cs,v.oneCell'=true) (h1v:∀v∈vs,v.oneCell'=true) :
  Calls Tryz.prog 127 #[.slice (some (Pq b 0)) n c,Jq i,.slice (some (Pq vb 0)) 1 vc] w fun e w'=>
   e=.returned (.slice (some (Pq w.heap.size 0)) (n+1) (grownCap w (n+1) c 80))∧
   w'=(((w.alloc (.cells ((cs.take (i*3)).toArray++Builtin.zeroCells flE.z.cells (n+1 - i)++Builtin.zeroCells flE.z.cells (grownCap w (n+1) c 80 - (n+1))) 80)).drew.setCells w.heap.size (i*3) vs).drew).setCells w.heap.size ((i+1)*3) (cs.drop (i*3)):=by
 have mixed:Tryz.prog.follows .mixedOrders=true:=by kernel_rfl
 obtain⟨i0,hi0,hz0,hzs,hzb⟩:=flE.info_parts;replace hi0:Tryz.prog.info? 80=some i0:=hi0;replace hzs:i0.size=3:=hzs;replace hzb:i0.bytes=40:=hzb;have hz2:¬((i:Int)=(n:Int)):=by omega
 have hz3:(c:Int)<(n:Int)+1:=by omega
 have hsz:(Tryz.prog.info? 80).map (·.size)=some 3:=by kernel_rfl
 have hbw:b<w.heap.size:=block_lt_of_cell (hcs 0 _ (zY (by omega)));have hvw:vb<w.heap.size:=block_lt_of_cell (hvs 0 _ (zY (by omega)));have hkk:(n:Int)+1 - (i:Int)=((n+1 - i:Nat):Int):=by omega
 have hik:i+(n+1 - i)=n+1:=by omega
 have hold:(Builtin.firstCells i0.size i (.slice (some (Pq b 0)) i c)).run Tryz.prog w.drew=.ok (cs.take (i*3)).toArray w.drew:=by
  rw[hzs];exact run_firstCells_some w.drew 3 i ⟨b,0,none⟩ i c (cs.take (i*3)) (by rw[zT];omega) (fun j v hj=>by
   rw[Addr.add_lit,Nat.zero_add];rw[List.getElem?_take] at hj;split at hj
   ·exact hcs j v hj
   ·cases hj)
 have hrz:∀ty,(Builtin.append_ #[26,3] ty #[.slice (some (Pq b 0)) i c,Jq ((n:Int)+1 - (i:Int))]).run Tryz.prog w =
   .ok (.slice (some (Pw w 0)) (n+1) (grownCap w (n+1) c 80)) (w.drew.alloc (.cells ((cs.take (i*3)).toArray++Builtin.zeroCells flE.z.cells (n+1 - i)++Builtin.zeroCells flE.z.cells (grownCap w (n+1) c 80 - (n+1))) 80)):=fun ty=>by
  have h:=Lib.run_append_grow_zeros w 26 3 ty 80 i0 _ .i64 .i64 Tryz.underlying26 Tryz.underlying3 hi0 hz0 (some (Pq b 0)) i c (cs.take (i*3)) hold (n+1 - i) (by omega) (by omega) (by omega) (by omega) (by rw[hzb];omega) (by rw[hzb,hik];exact growslice_fits_wide hroom (by omega));rw[hik] at h;rw[hkk];exact h
 obtain⟨G,hG⟩:∃G,G=grownCap w (n+1) c 80:=⟨_,rfl⟩;obtain⟨ROW,hROW⟩:∃ROW:Array Value,ROW=(cs.take (i*3)).toArray++Builtin.zeroCells flE.z.cells (n+1 - i)++Builtin.zeroCells flE.z.cells (G - (n+1)):=⟨_,rfl⟩;rw[←hG] at hrz⊢;rw[←hROW] at hrz⊢;have hRl:(n+1)*3≤ROW.size:=by
  rw[hROW];simp[Builtin.zeroCells,Value.cells,flE];omega
 obtain⟨W1,hW1⟩:∃W1,W1=w.drew.alloc (.cells ROW 80):=⟨_,rfl⟩;rw[←hW1] at hrz;have hN:∀j,j<(n+1)*3→(W1.cell? (Pw w j)).isSome=true:=fun j hj=>by
  exact qjQ
 have hNf:∀j,W1.frozen? (Pw w j)=false:=fun j=>by rw[hW1];exact World.frozen?_alloc_at (w:=w.drew) ROW _ w.heap.size j rfl
 have hOb:∀j v,w.cell? (Pq b j)=some v→W1.cell? (Pq b j)=some v:=fun j v h=>by rw[hW1,World.cell?_alloc_past (w:=w.drew) _ b j hbw];exact h
 have hOv:∀j v,w.cell? (Pq vb j)=some v→W1.cell? (Pq vb j)=some v:=fun j v h=>by rw[hW1,World.cell?_alloc_past (w:=w.drew) _ vb j hvw];exact h
 have hcpA:∀(W:World),(∀x,W.cell? x=W1.cell? x)→(∀x,W.frozen? x=W1.frozen? x)→∀ty dc,(Builtin.copy_ #[26,26] ty #[.slice (some (Pw w (i*3))) (n+1 - i) dc,.slice (some (Pq vb 0)) 1 vc]).run Tryz.prog W=.ok (goInt (Nat.min 1 (n+1 - i))) (W.setCells w.heap.size (i*3) vs):=fun W hWc hWf ty dc=>
  qci W _ _ ty 80 3 w.heap.size (i*3) (n+1 - i) dc ⟨vb,0,none⟩ 1 vc vs Tryz.underlying26 hsz (by rw[hvl];simp only[Nat.min_def];split<;>omega)
   (fun j v hj=>by rw[Addr.add_lit,hWc,Nat.zero_add];exact hOv _ v (hvs j v hj))
   (fun j hj=>by rw[hWc];exact hN _ (by omega)) (fun j hj=>by rw[hWf];exact hNf _) h1v
 have hGn:n+1≤G:=by rw[hG];exact grownCap_ge w _ _ _
 have hG63:G≤9223372036854775807:=by
  have:=grownCap_le_maxLen w (n+1) c 80 (by unfold maxLen;omega);rw[←hG] at this;unfold maxLen at this;omega
 have hGi:¬(G=i):=by omega
 have hGim:¬(G=i+1):=by omega
 have hci:¬(c=i):=by omega
 have hbN:b≠w.heap.size:=by omega
 have hdl:(cs.drop (i*3)).length=(n - i)*3:=by rw[zD,hcl];omega
 have hcpB:∀(W:World),(∀x,W.cell? x=(W1.setCells w.heap.size (i*3) vs).cell? x)→(∀x,W.frozen? x=(W1.setCells w.heap.size (i*3) vs).frozen? x)→∀ty dc sc,(Builtin.copy_ #[26,26] ty #[.slice (some (Pw w ((i+1)*3))) (n - i) dc,.slice (some (Pq b (i*3))) (n - i) sc]).run Tryz.prog W=.ok (goInt (Nat.min (n - i) (n - i))) (W.setCells w.heap.size ((i+1)*3) (cs.drop (i*3))):=fun W hWc hWf ty dc sc=>
  qci W _ _ ty 80 3 w.heap.size ((i+1)*3) (n - i) dc ⟨b,i*3,none⟩ (n - i) sc (cs.drop (i*3)) Tryz.underlying26 hsz (by rw[hdl];simp only[Nat.min_def];split<;>omega)
   (fun j v hj=>by
    rw[Addr.add_lit,hWc,World.cell?_setCells_out _ _ _ _ _ (fun h _=>absurd h hbN)];exact hOb _ v (hcs (i*3+j) v (by rwa [List.getElem?_drop] at hj)))
   (fun j hj=>by rw[hWc];exact isSome_setCells w.heap.size vs (i*3) W1 (fun t ht=>hN _ (by omega)) _ (hN _ (by rw[hdl] at hj;omega)))
   (fun j hj=>by rw[hWf,World.frozen?_setCells];exact hNf _) (fun v hv=>h1c v (List.mem_of_mem_drop hv))
 subst hW1;have hE1:∀x,((w.alloc (.cells ROW 80)).drew).cell? x=(w.drew.alloc (.cells ROW 80)).cell? x:=fun x=>rfl;have hE2:∀x,((w.alloc (.cells ROW 80)).drew).frozen? x=(w.drew.alloc (.cells ROW 80)).frozen? x:=fun x=>rfl;have hF1:∀x,(((w.alloc (.cells ROW 80)).drew.setCells w.heap.size (i*3) vs).drew).cell? x=((w.drew.alloc (.cells ROW 80)).setCells w.heap.size (i*3) vs).cell? x:=fun x=>rfl;have hF2:∀x,(((w.alloc (.cells ROW 80)).drew.setCells w.heap.size (i*3) vs).drew).frozen? x=((w.drew.alloc (.cells ROW 80)).setCells w.heap.size (i*3) vs).frozen? x:=fun x=>rfl;have hw1:IntKind.i64.wrap ((i:Int)+1)=(i:Int)+1:=IntWalk.i64_in _ (by omega);have hw2:IntKind.i64.wrap ((n:Int)+1)=(n:Int)+1:=IntWalk.i64_in _ (by omega);have hw3:IntKind.i64.wrap ((n:Int)+1 - (i:Int))=(n:Int)+1 - (i:Int):=IntWalk.i64_in _ (by omega);have hb1:(0:Int)≤(i:Int)+1:=by omega
 have hin:i≤n:=by omega
 have htn:((i:Int)+1).toNat=i+1:=by omega
 have hb3:(i:Int)≤(n:Int):=by omega
 have hic:i≤c:=by omega
 have hi1:i≤n+1:=by omega
 have hi2:i+1≤n+1:=by omega
 clear hkk hik hold hROW hG hRl;go_enter Tryz.func127,Tryz.ntmps127;go_wp2_with (first
  | (at_builtin;refine Lib.wpList_append_run _ rfl _ _ _ _ rfl _ _ rfl rfl _ _ (hrz _) ?_)
  | (at_builtin;refine wpList_copy_runI _ rfl _ _ 26 26 rfl _ _ rfl rfl (hcpA _ hE1 hE2 _ _) ?_))
 go_region_law_o (refine step_copy_runI rfl _ _ 26 26 rfl (.slice (some (Pw w ((i+1)*3))) (n - i) (G - (i+1))) (.slice (some (Pq b (i*3))) (n - i) (c - i)) (by simp[Act.eval,Act.put]) (by simp[Act.eval,Act.put]) (hcpB _ hF1 hF2 3 (G - (i+1)) (c - i)) ?_)
 go_wp2;go_ret;exact⟨rfl,rfl⟩
theorem qna(g n c i vb vc:Nat)(cs vs:List Value)(w:World)(hi:i<n)(hroom:n+1≤c)(hc63:c≤9223372036854775807)(hn6:n≤1000000)(hvb:vb≠g)
  (hcl:cs.length=n*2) (hvl:vs.length=2)
  (hcs:∀j v,cs[j]?=some v→w.cell? (Pq g j)=some v) (hsp:∀j,j<(n+1)*2→(w.cell? (Pq g j)).isSome=true) (hfz:∀j,j<(n+1)*2→w.frozen? (Pq g j)=false)
  (hvs:∀j v,vs[j]?=some v→w.cell? (Pq vb j)=some v) (h1c:∀v∈cs,v.oneCell'=true) (h1v:∀v∈vs,v.oneCell'=true)
  (tA tB:TypeId) (kA kB:Nat) (hsa:w.shape? vb=some (tA,kA)) (hsb:w.shape? g=some (tB,kB)) (hkB:kB≠0) (hfa:w.frozen? (Pq vb 0)=false) (hfe:w.frozen? (Pq vb kA)=false) :
  Calls Tryz.prog 186 #[.slice (some (Pq g 0)) n c,Jq i,.slice (some (Pq vb 0)) 1 vc] w fun e w'=>
   e=.returned (.slice (some (Pq g 0)) (n+1) c)∧w'=(w.drew.setCells g ((i+1)*2) (cs.drop (i*2))).setCells g (i*2) vs:=by
 have hsz:(Tryz.prog.info? 123).map (·.size)=some 2:=by kernel_rfl
 have hsz2:∀w,(Go.sizeOf 123).run Tryz.prog w=.ok 2 w:=fun w=>by
  obtain⟨i0,hi0,h0,h1,h2⟩:=qat.info_parts;have h1':i0.size=2:=h1;have hi0':Tryz.prog.info? 123=some i0:=hi0;simp[Go.sizeOf,typeInfo,hi0',h1']
 have hov:∀lb cb,(callFunc 203 #[.slice (some (Pq vb 0)) 1 vc,.slice (some (Pq g ((i+1)*2))) lb cb]).run Tryz.prog w=.ok (.value (.bool false)) w:=fun lb cb=>by
  rw[run_callFunc_extern Tryz.func203 (by kernel_rfl) (by kernel_rfl) (by kernel_rfl) (e:=Extern.SlicesOverlaps.overlaps #[25,25] #[4]) (by kernel_rfl),
   Lib.run_overlaps_apart w 25 4 123 Tryz.underlying25 2 hsz2 ⟨vb,0,none⟩ ⟨g,(i+1)*2,none⟩ 1 vc lb cb hvb tA tB kA kB hsa hsb hkB hfa hfe]
  rfl
 have hdl:(cs.drop (i*2)).length=(n - i)*2:=by rw[zD,hcl];omega
 have hw1:IntKind.i64.wrap ((i:Int)+1)=(i:Int)+1:=IntWalk.i64_in _ (by omega);have hw2:IntKind.i64.wrap ((n:Int)+1)=(n:Int)+1:=IntWalk.i64_in _ (by omega);have hz2:¬((i:Int)=(n:Int)):=by omega
 have hz3:¬((c:Int)<(n:Int)+1):=by omega
 have hb1:(0:Int)≤(i:Int)+1:=by omega
 have hin:i≤n:=by omega
 have htn:((i:Int)+1).toNat=i+1:=by omega
 have htm:((n:Int)+1).toNat=n+1:=by omega
 have hb2:¬(c=i+1):=by omega
 have hb3:(i:Int)≤(n:Int)+1:=by omega
 have hb4:¬(c=i):=by omega
 have hb5:i+1≤n+1:=by omega
 have hb6:i≤n+1:=by omega
 have hcp1:∀ty dc sc,(Builtin.copy_ #[25,25] ty #[.slice (some (Pq g ((i+1)*2))) (n - i) dc,.slice (some (Pq g (i*2))) (n+1 - i) sc]).run Tryz.prog w.drew=.ok (goInt (Nat.min (n+1 - i) (n - i))) (w.drew.setCells g ((i+1)*2) (cs.drop (i*2))):=fun ty dc sc=>
  qci w.drew _ _ ty 123 2 g ((i+1)*2) (n - i) dc ⟨g,i*2,none⟩ (n+1 - i) sc (cs.drop (i*2)) Tryz.underlying25 hsz (by rw[hdl];congr 1;simp only[Nat.min_def];split<;>omega)
   (fun j v hj=>by rw[Addr.add_lit];exact hcs (i*2+j) v (by rwa [List.getElem?_drop] at hj))
   (fun j hj=>hsp _ (by omega)) (fun j hj=>hfz _ (by omega)) (fun v hv=>h1c v (List.mem_of_mem_drop hv))
 obtain⟨W1,hW1⟩:∃W1,W1=w.drew.setCells g ((i+1)*2) (cs.drop (i*2)):=⟨_,rfl⟩;have hsp1:∀k,k<(n+1)*2→(W1.cell? (Pq g k)).isSome=true:=fun k hk=>by
  rw[hW1];exact isSome_setCells g (cs.drop (i*2)) ((i+1)*2) w.drew (fun j hj=>hsp _ (by rw[hdl] at hj;omega)) _ (hsp k hk)
 have hcp2:∀(W:World),(∀x,W.cell? x=W1.cell? x)→(∀x,W.frozen? x=W1.frozen? x)→∀ty dc,(Builtin.copy_ #[25,25] ty #[.slice (some (Pq g (i*2))) (n+1 - i) dc,.slice (some (Pq vb 0)) 1 vc]).run Tryz.prog W=.ok (goInt (Nat.min 1 (n+1 - i))) (W.setCells g (i*2) vs):=fun W hWc hWf ty dc=>
  qci W _ _ ty 123 2 g (i*2) (n+1 - i) dc ⟨vb,0,none⟩ 1 vc vs Tryz.underlying25 hsz (by rw[hvl];simp only[Nat.min_def];split<;>omega)
   (fun j v hj=>by
    rw[Addr.add_lit,hWc,hW1,World.cell?_setCells_out g _ _ _ _ (fun h _=>absurd h hvb),Nat.zero_add];exact hvs j v hj)
   (fun j hj=>by rw[hWc];exact hsp1 _ (by omega)) (fun j hj=>by rw[hWf,hW1,World.frozen?_setCells];exact hfz _ (by omega)) h1v
 rw[←hW1] at hcp1;have mixed:Tryz.prog.follows .mixedOrders=true:=by kernel_rfl
 go_enter Tryz.func186,Tryz.ntmps186;go_wp2_with (simp only[hov])
 go_region_law_o (refine step_copy_runI rfl _ _ 25 25 rfl _ _ (by simp[Act.eval,Act.put]) (by simp[Act.eval,Act.put]) (hcp1 _ _ _) ?_)
 go_wp2_with (at_builtin;refine wpList_copy_runI _ rfl _ _ 25 25 rfl _ _ rfl rfl (hcp2 _ (fun _=>rfl) (fun _=>rfl) _ _) ?_);go_ret
 first|exact⟨rfl,rfl⟩|exact⟨rfl,by rw[hW1]⟩
theorem qoj(b n c i vb vc:Nat)(cs vs:List Value)(w:World)(hi:i<n)(hnc:n≤c)(hroom:c<n+1)(hn6:n≤1000000)
  (hcl:cs.length=n*2) (hvl:vs.length=2)
  (hcs:∀j v,cs[j]?=some v→w.cell? (Pq b j)=some v) (hvs:∀j v,vs[j]?=some v→w.cell? (Pq vb j)=some v) (h1c:∀v∈cs,v.oneCell'=true) (h1v:∀v∈vs,v.oneCell'=true) :
  Calls Tryz.prog 186 #[.slice (some (Pq b 0)) n c,Jq i,.slice (some (Pq vb 0)) 1 vc] w fun e w'=>
   e=.returned (.slice (some (Pq w.heap.size 0)) (n+1) (grownCap w (n+1) c 123))∧
   w'=(((w.alloc (.cells ((cs.take (i*2)).toArray++Builtin.zeroCells qat.z.cells (n+1 - i)++Builtin.zeroCells qat.z.cells (grownCap w (n+1) c 123 - (n+1))) 123)).drew.setCells w.heap.size (i*2) vs).drew).setCells w.heap.size ((i+1)*2) (cs.drop (i*2)):=by
 have mixed:Tryz.prog.follows .mixedOrders=true:=by kernel_rfl
 obtain⟨i0,hi0,hz0,hzs,hzb⟩:=qat.info_parts;replace hi0:Tryz.prog.info? 123=some i0:=hi0;replace hzs:i0.size=2:=hzs;replace hzb:i0.bytes=16:=hzb;have hz2:¬((i:Int)=(n:Int)):=by omega
 have hz3:(c:Int)<(n:Int)+1:=by omega
 have hsz:(Tryz.prog.info? 123).map (·.size)=some 2:=by kernel_rfl
 have hbw:b<w.heap.size:=block_lt_of_cell (hcs 0 _ (zY (by omega)));have hvw:vb<w.heap.size:=block_lt_of_cell (hvs 0 _ (zY (by omega)));have hkk:(n:Int)+1 - (i:Int)=((n+1 - i:Nat):Int):=by omega
 have hik:i+(n+1 - i)=n+1:=by omega
 have hold:(Builtin.firstCells i0.size i (.slice (some (Pq b 0)) i c)).run Tryz.prog w.drew=.ok (cs.take (i*2)).toArray w.drew:=by
  rw[hzs];exact run_firstCells_some w.drew 2 i ⟨b,0,none⟩ i c (cs.take (i*2)) (by rw[zT];omega) (fun j v hj=>by
   rw[Addr.add_lit,Nat.zero_add];rw[List.getElem?_take] at hj;split at hj
   ·exact hcs j v hj
   ·cases hj)
 have hrz:∀ty,(Builtin.append_ #[25,3] ty #[.slice (some (Pq b 0)) i c,Jq ((n:Int)+1 - (i:Int))]).run Tryz.prog w =
   .ok (.slice (some (Pw w 0)) (n+1) (grownCap w (n+1) c 123)) (w.drew.alloc (.cells ((cs.take (i*2)).toArray++Builtin.zeroCells qat.z.cells (n+1 - i)++Builtin.zeroCells qat.z.cells (grownCap w (n+1) c 123 - (n+1))) 123)):=fun ty=>by
  have h:=Lib.run_append_grow_zeros w 25 3 ty 123 i0 _ .i64 .i64 Tryz.underlying25 Tryz.underlying3 hi0 hz0 (some (Pq b 0)) i c (cs.take (i*2)) hold (n+1 - i) (by omega) (by omega) (by omega) (by omega) (by rw[hzb];omega) (by rw[hzb,hik];exact growslice_fits_wide hroom (by omega));rw[hik] at h;rw[hkk];exact h
 obtain⟨G,hG⟩:∃G,G=grownCap w (n+1) c 123:=⟨_,rfl⟩;obtain⟨ROW,hROW⟩:∃ROW:Array Value,ROW=(cs.take (i*2)).toArray++Builtin.zeroCells qat.z.cells (n+1 - i)++Builtin.zeroCells qat.z.cells (G - (n+1)):=⟨_,rfl⟩;rw[←hG] at hrz⊢;rw[←hROW] at hrz⊢;have hRl:(n+1)*2≤ROW.size:=by
  rw[hROW];simp[Builtin.zeroCells,Value.cells,qat];omega
 obtain⟨W1,hW1⟩:∃W1,W1=w.drew.alloc (.cells ROW 123):=⟨_,rfl⟩;rw[←hW1] at hrz;have hN:∀j,j<(n+1)*2→(W1.cell? (Pw w j)).isSome=true:=fun j hj=>by
  exact qjQ
 have hNf:∀j,W1.frozen? (Pw w j)=false:=fun j=>by rw[hW1];exact World.frozen?_alloc_at (w:=w.drew) ROW _ w.heap.size j rfl
 have hOb:∀j v,w.cell? (Pq b j)=some v→W1.cell? (Pq b j)=some v:=fun j v h=>by rw[hW1,World.cell?_alloc_past (w:=w.drew) _ b j hbw];exact h
 have hOv:∀j v,w.cell? (Pq vb j)=some v→W1.cell? (Pq vb j)=some v:=fun j v h=>by rw[hW1,World.cell?_alloc_past (w:=w.drew) _ vb j hvw];exact h
 have hcpA:∀(W:World),(∀x,W.cell? x=W1.cell? x)→(∀x,W.frozen? x=W1.frozen? x)→∀ty dc,(Builtin.copy_ #[25,25] ty #[.slice (some (Pw w (i*2))) (n+1 - i) dc,.slice (some (Pq vb 0)) 1 vc]).run Tryz.prog W=.ok (goInt (Nat.min 1 (n+1 - i))) (W.setCells w.heap.size (i*2) vs):=fun W hWc hWf ty dc=>
  qci W _ _ ty 123 2 w.heap.size (i*2) (n+1 - i) dc ⟨vb,0,none⟩ 1 vc vs Tryz.underlying25 hsz (by rw[hvl];simp only[Nat.min_def];split<;>omega)
   (fun j v hj=>by rw[Addr.add_lit,hWc,Nat.zero_add];exact hOv _ v (hvs j v hj))
   (fun j hj=>by rw[hWc];exact hN _ (by omega)) (fun j hj=>by rw[hWf];exact hNf _) h1v
 have hGn:n+1≤G:=by rw[hG];exact grownCap_ge w _ _ _
 have hG63:G≤9223372036854775807:=by
  have:=grownCap_le_maxLen w (n+1) c 123 (by unfold maxLen;omega);rw[←hG] at this;unfold maxLen at this;omega
 have hGi:¬(G=i):=by omega
 have hGim:¬(G=i+1):=by omega
 have hci:¬(c=i):=by omega
 have hbN:b≠w.heap.size:=by omega
 have hdl:(cs.drop (i*2)).length=(n - i)*2:=by rw[zD,hcl];omega
 have hcpB:∀(W:World),(∀x,W.cell? x=(W1.setCells w.heap.size (i*2) vs).cell? x)→(∀x,W.frozen? x=(W1.setCells w.heap.size (i*2) vs).frozen? x)→∀ty dc sc,(Builtin.copy_ #[25,25] ty #[.slice (some (Pw w ((i+1)*2))) (n - i) dc,.slice (some (Pq b (i*2))) (n - i) sc]).run Tryz.prog W=.ok (goInt (Nat.min (n - i) (n - i))) (W.setCells w.heap.size ((i+1)*2) (cs.drop (i*2))):=fun W hWc hWf ty dc sc=>
  qci W _ _ ty 123 2 w.heap.size ((i+1)*2) (n - i) dc ⟨b,i*2,none⟩ (n - i) sc (cs.drop (i*2)) Tryz.underlying25 hsz (by rw[hdl];simp only[Nat.min_def];split<;>omega)
   (fun j v hj=>by
    rw[Addr.add_lit,hWc,World.cell?_setCells_out _ _ _ _ _ (fun h _=>absurd h hbN)];exact hOb _ v (hcs (i*2+j) v (by rwa [List.getElem?_drop] at hj)))
   (fun j hj=>by rw[hWc];exact isSome_setCells w.heap.size vs (i*2) W1 (fun t ht=>hN _ (by omega)) _ (hN _ (by rw[hdl] at hj;omega)))
   (fun j hj=>by rw[hWf,World.frozen?_setCells];exact hNf _) (fun v hv=>h1c v (List.mem_of_mem_drop hv))
 subst hW1;have hE1:∀x,((w.alloc (.cells ROW 123)).drew).cell? x=(w.drew.alloc (.cells ROW 123)).cell? x:=fun x=>rfl;have hE2:∀x,((w.alloc (.cells ROW 123)).drew).frozen? x=(w.drew.alloc (.cells ROW 123)).frozen? x:=fun x=>rfl;have hF1:∀x,(((w.alloc (.cells ROW 123)).drew.setCells w.heap.size (i*2) vs).drew).cell? x=((w.drew.alloc (.cells ROW 123)).setCells w.heap.size (i*2) vs).cell? x:=fun x=>rfl;have hF2:∀x,(((w.alloc (.cells ROW 123)).drew.setCells w.heap.size (i*2) vs).drew).frozen? x=((w.drew.alloc (.cells ROW 123)).setCells w.heap.size (i*2) vs).frozen? x:=fun x=>rfl;have hw1:IntKind.i64.wrap ((i:Int)+1)=(i:Int)+1:=IntWalk.i64_in _ (by omega);have hw2:IntKind.i64.wrap ((n:Int)+1)=(n:Int)+1:=IntWalk.i64_in _ (by omega);have hw3:IntKind.i64.wrap ((n:Int)+1 - (i:Int))=(n:Int)+1 - (i:Int):=IntWalk.i64_in _ (by omega);have hb1:(0:Int)≤(i:Int)+1:=by omega
 have hin:i≤n:=by omega
 have htn:((i:Int)+1).toNat=i+1:=by omega
 have hb3:(i:Int)≤(n:Int):=by omega
 have hic:i≤c:=by omega
 have hi1:i≤n+1:=by omega
 have hi2:i+1≤n+1:=by omega
 clear hkk hik hold hROW hG hRl;go_enter Tryz.func186,Tryz.ntmps186;go_wp2_with (first
  | (at_builtin;refine Lib.wpList_append_run _ rfl _ _ _ _ rfl _ _ rfl rfl _ _ (hrz _) ?_)
  | (at_builtin;refine wpList_copy_runI _ rfl _ _ 25 25 rfl _ _ rfl rfl (hcpA _ hE1 hE2 _ _) ?_))
 go_region_law_o (refine step_copy_runI rfl _ _ 25 25 rfl (.slice (some (Pw w ((i+1)*2))) (n - i) (G - (i+1))) (.slice (some (Pq b (i*2))) (n - i) (c - i)) (by simp[Act.eval,Act.put]) (by simp[Act.eval,Act.put]) (hcpB _ hF1 hF2 3 (G - (i+1)) (c - i)) ?_)
 go_wp2;go_ret;exact⟨rfl,rfl⟩
section
variable {α:Type} (E:Elem α)
theorem Elem.cells_ins(l:List α)(i:Nat)(x:α):E.cells (l.take i++x::l.drop i)=(E.cells l).take (i*E.k)++E.f x++(E.cells l).drop (i*E.k):=by
 rw[E.cells_append,E.cells_cons,E.cells_take l i,E.cells_drop l i,List.append_assoc]
end
theorem qn7{L C fx:List Value}{a k N:Nat}(hC:L.take N=C)(hCl:C.length=N)(ha:a≤N)(hf:fx.length=k)(hL:N+k≤L.length) :
  (qfE (qfE L (a+k) (C.drop a)) a fx).take (N+k)=C.take a++fx++C.drop a:=by
 have hd:(C.drop a).length=N - a:=by rw[zD,hCl]
 have e1:(qfE L (a+k) (C.drop a)).take a=C.take a:=by
  unfold qfE;rw[List.append_assoc,List.take_append_of_le_length (by rw[zT];omega),List.take_take,Nat.min_eq_left (by omega),←hC,List.take_take,Nat.min_eq_left ha]
 have e2:(qfE L (a+k) (C.drop a)).drop (a+k)=C.drop a++L.drop (N+k):=by
  unfold qfE;have h1:(L.take (a+k)).length=a+k:=by rw[zT];omega
  rw[List.append_assoc,List.drop_append,h1,List.drop_of_length_le (by omega),hd,show a+k - (a+k)=0 by omega,show a+k+(N - a)=N+k by omega];simp
 unfold qfE at *;rw[e1,hf,e2];have h2:(C.take a).length=a:=by rw[zT];omega
 rw[←List.append_assoc,List.take_append_of_le_length (by simp only[zA];omega),List.take_of_length_le (by simp only[zA];omega)]
theorem qke {P : Prop} (h : P := by
 unfold qfE at *;rw[e1,List.take_append_of_le_length (by simp only[zA,htk,hfx,hdl];omega),List.take_of_length_le (by simp only[zA,htk,hfx,hdl];omega)]) : P := h
theorem qj5 {P : Prop} (h : P := by
 unfold qfE;rw[hRt,List.take_append_of_le_length (by rw[zA,htk,hfx];omega),List.take_of_length_le (by rw[zA,htk,hfx];omega)]) : P := h
theorem qky {P : Prop} (h : P := by
 rw[hROW];simp only[Array.toList_append,List.append_assoc];rw[List.take_append_of_le_length (by omega),List.take_of_length_le (by omega)]) : P := h
theorem qjR {P : Prop} (h : P := by
 exact((Wrote.of (p:=g0) zW).trans (qbz g0 _ _ _)).trans (qbz g0 _ _ _)) : P := h
theorem qbz(b:Nat):∀(vs:List Value) (o:Nat) (w:World),Wrote b w (w.setCells b o vs)
 | [],_,w=>Wrote.refl b w
 | u::vs,o,w=>(Wrote.set b o w u).trans (qbz b vs (o+1) _)
theorem qqo(B:Nat)(A:Option Addr)(c:Nat)(l:List FlM)(x:FlM)(i:Nat)(w:World)(ho:flE.Own w B (.slice A l.length c) l)(hB:B≤w.heap.size)(g c2:Nat)(hg:BIs w g (flE.f x).toArray 80)(hgo:∀k,(Value.slice A l.length c).ownBlock=some k→k≠g)(hi:i<l.length)(hn:l.length≤100000) :
  Calls Tryz.prog 127 #[.slice A l.length c,Jq i,.slice (some (Pq g 0)) 1 c2] w fun e w'=>∃v',e=.returned v'∧flE.Own w' B v' (l.take i++x::l.drop i)∧Grew w w' (.slice A l.length c)∧Stems w (.slice A l.length c) v':=by
 obtain⟨hcl,h2⟩:=ho;rcases h2 with ⟨_,h3⟩|⟨g0,cap,cur,hv,h3,hh,h4,h5,h6,h7⟩
 ·omega
 cases hv;have hb:BIs w g0 cur 80:=hh;have hk:flE.k=3:=rfl;have hlen:(l.take i++x::l.drop i).length=l.length+1:=by simp only[zA,zT,zK,zD];omega
 have hcells:flE.cells (l.take i++x::l.drop i)=(flE.cells l).take (i*3)++flE.f x++(flE.cells l).drop (i*3):=flE.cells_ins l i x;have hCl:(flE.cells l).length=l.length*3:=flE.cells_len l;have hfx:(flE.f x).length=3:=flE.len x;have h6':cur.size=c*3:=h6;have h7':cur.toList.take (l.length*3)=flE.cells l:=h7;have hcs:∀j v,(flE.cells l)[j]?=some v→w.cell? (Pq g0 j)=some v:=fun j v hj=>by
  rw[hb.cell,←h7',List.getElem?_take] at *;split at hj
  ·simpa using hj
  ·cases hj
 have hvs:∀j v,(flE.f x)[j]?=some v→w.cell? (Pq g j)=some v:=fun j v hj=>by rw[hg.cell];simpa using hj
 have hml:maxLen≤9223372036854775807:=by unfold maxLen;decide
 have hgne:g0≠g:=hgo g0 rfl;by_cases hroom:l.length+1≤c
 ·have hsz0:(l.length+1)*3≤cur.size:=by rw[h6'];omega
  refine(qnB g0 l.length c i g c2 (flE.cells l) (flE.f x) w hi hroom (by omega) (by omega) (Ne.symm hgne) hCl hfx hcs (fun j hj=>?_) (fun j _=>hb.free j) hvs (flE.cells_one l) (flE.one x) 80 80 (flE.f x).toArray.size cur.size ?_ ?_ (by omega) (hg.free 0) (hg.free _)).mono ?_
  ·rw[hb.cell,Array.getElem?_eq_getElem (by omega)];rfl
  ·unfold World.shape?;rw[show w.heap[g]?=_ from hg]
  ·unfold World.shape?;rw[show w.heap[g0]?=_ from hb]
  rintro e w' ⟨rfl,rfl⟩;have hdl:((flE.cells l).drop (i*3)).length=(l.length - i)*3:=by rw[zD,hCl];omega
  have hb1:BIs (w.drew.setCells g0 ((i+1)*3) ((flE.cells l).drop (i*3))) g0 (qfE cur.toList ((i+1)*3) ((flE.cells l).drop (i*3))).toArray 80:=qbx _ g0 _ _ w.drew cur hb (by rw[hdl];omega);have hX:(i+1)*3+(l.length - i)*3≤cur.size:=by omega
  have hY:l.length*3+3≤cur.size:=by omega
  have hT:cur.toList.length=cur.size:=by simp
  have hp1:(qfE cur.toList ((i+1)*3) ((flE.cells l).drop (i*3))).length=cur.size:=by rw[qdJ (by rw[hdl,hT];exact hX),hT]
  have hb2:=qbx 80 g0 (flE.f x) (i*3) _ _ hb1 (by rw[List.size_toArray,hp1,hfx];have:=Nat.mul_le_mul_right 3 (show i+1≤l.length+1 by omega);omega);refine⟨.slice (some (Pq g0 0)) (l.length+1) c,rfl,⟨by rw[flE.cells_len],.inr ⟨g0,c,_,by rw[hlen],h3,hb2,by omega,h5,?_,?_⟩⟩,?_,.inl rfl⟩
  ·simp only[List.size_toArray];rw[qdJ (by rw[hfx,hp1];omega),hp1];exact h6
  ·rw[hlen,hcells];have:=qn7 (L:=cur.toList) (C:=flE.cells l) (fx:=flE.f x) (a:=i*3) (k:=3) (N:=l.length*3) h7' hCl (Nat.mul_le_mul_right 3 (by omega)) hfx (by rw[hT];exact hY);rw[show i*3+3=(i+1)*3 by omega,show l.length*3+3=(l.length+1)*flE.k by rw[hk];omega] at this;simpa using this
  ·exact qjR
 ·refine(qp2 g0 l.length c i g c2 (flE.cells l) (flE.f x) w hi h4 (by omega) (by omega) hCl hfx hcs hvs (flE.cells_one l) (flE.one x)).mono ?_;rintro e w' ⟨rfl,rfl⟩;obtain⟨G,hG⟩:∃G,G=grownCap w (l.length+1) c 80:=⟨_,rfl⟩;have hGn:l.length+1≤G:=by rw[hG];exact grownCap_ge w _ _ _
  have hG63:G≤maxLen:=by
   have:=grownCap_le_maxLen w (l.length+1) c 80 (by unfold maxLen;omega);rw[←hG] at this;exact this
  rw[←hG];clear hG;have hzk:flE.z.cells.size=3:=flE.zk;have htk:((flE.cells l).take (i*3)).length=i*3:=by rw[zT,hCl];omega
  obtain⟨ROW,hROW⟩:∃ROW:Array Value,ROW=((flE.cells l).take (i*3)).toArray++Builtin.zeroCells flE.z.cells (l.length+1 - i)++Builtin.zeroCells flE.z.cells (G - (l.length+1)):=⟨_,rfl⟩;rw[←hROW];have hRs:ROW.size=G*3:=by
   rw[hROW];simp only[Array.size_append,List.size_toArray,htk,size_zeroCells,hzk];omega
  have hRt:ROW.toList.take (i*3)=(flE.cells l).take (i*3):=by
   exact qky
  clear hROW;have hdl:((flE.cells l).drop (i*3)).length=(l.length - i)*3:=by rw[zD,hCl];omega
  have hT:ROW.toList.length=ROW.size:=by simp
  have hX1:i*3+3≤ROW.size:=by omega
  have hX2:(i+1)*3+(l.length - i)*3≤ROW.size:=by omega
  have hb0:BIs (w.alloc (.cells ROW 80)).drew w.heap.size ROW 80:=BIs.new w ROW 80;have hb1:=qbx 80 w.heap.size (flE.f x) (i*3) _ _ hb0 (by rw[hfx];exact hX1);have hp1:(qfE ROW.toList (i*3) (flE.f x)).length=ROW.size:=by rw[qdJ (by rw[hfx,hT];exact hX1),hT]
  have hb1':BIs (((w.alloc (.cells ROW 80)).drew.setCells w.heap.size (i*3) (flE.f x)).drew) w.heap.size (qfE ROW.toList (i*3) (flE.f x)).toArray 80:=hb1;have hb2:=qbx 80 w.heap.size ((flE.cells l).drop (i*3)) ((i+1)*3) _ _ hb1' (by rw[List.size_toArray,hp1,hdl];exact hX2);have hx:Ext w ((((w.alloc (.cells ROW 80)).drew.setCells w.heap.size (i*3) (flE.f x)).drew).setCells w.heap.size ((i+1)*3) ((flE.cells l).drop (i*3))):=
   (qbz w.heap.size _ _ _).ext (((qbz w.heap.size _ _ _).ext ((Ext.new w (.cells ROW 80)).trans zW) (zR _)).trans zW) (zR _)
  refine⟨.slice (some (Pw w 0)) (l.length+1) G,rfl,⟨by rw[flE.cells_len],.inr ⟨w.heap.size,G,_,by rw[hlen],hB,hb2,by omega,hG63,?_,?_⟩⟩,Wrote.of hx,.inr ⟨w.heap.size,rfl,zR _⟩⟩
  ·simp only[List.size_toArray];rw[qdJ (by rw[hdl,hp1];exact hX2),hp1];exact hRs
  ·rw[hlen,hcells];have e1:(qfE ROW.toList (i*3) (flE.f x)).take ((i+1)*3)=(flE.cells l).take (i*3)++flE.f x:=by
    exact qj5
   show (qfE (qfE ROW.toList (i*3) (flE.f x)) ((i+1)*3) ((flE.cells l).drop (i*3))).take ((l.length+1)*3)=_;exact qke
theorem qq0(B:Nat)(A:Option Addr)(c:Nat)(l:List (Int×Int))(x:(Int×Int))(i:Nat)(w:World)(ho:qat.Own w B (.slice A l.length c) l)(hB:B≤w.heap.size)(g c2:Nat)(hg:BIs w g (qat.f x).toArray 123)(hgo:∀k,(Value.slice A l.length c).ownBlock=some k→k≠g)(hi:i<l.length)(hn:l.length≤100000) :
  Calls Tryz.prog 186 #[.slice A l.length c,Jq i,.slice (some (Pq g 0)) 1 c2] w fun e w'=>∃v',e=.returned v'∧qat.Own w' B v' (l.take i++x::l.drop i)∧Grew w w' (.slice A l.length c)∧Stems w (.slice A l.length c) v':=by
 obtain⟨hcl,h2⟩:=ho;rcases h2 with ⟨_,h3⟩|⟨g0,cap,cur,hv,h3,hh,h4,h5,h6,h7⟩
 ·omega
 cases hv;have hb:BIs w g0 cur 123:=hh;have hk:qat.k=2:=rfl;have hlen:(l.take i++x::l.drop i).length=l.length+1:=by simp only[zA,zT,zK,zD];omega
 have hcells:qat.cells (l.take i++x::l.drop i)=(qat.cells l).take (i*2)++qat.f x++(qat.cells l).drop (i*2):=qat.cells_ins l i x;have hCl:(qat.cells l).length=l.length*2:=qat.cells_len l;have hfx:(qat.f x).length=2:=qat.len x;have h6':cur.size=c*2:=h6;have h7':cur.toList.take (l.length*2)=qat.cells l:=h7;have hcs:∀j v,(qat.cells l)[j]?=some v→w.cell? (Pq g0 j)=some v:=fun j v hj=>by
  rw[hb.cell,←h7',List.getElem?_take] at *;split at hj
  ·simpa using hj
  ·cases hj
 have hvs:∀j v,(qat.f x)[j]?=some v→w.cell? (Pq g j)=some v:=fun j v hj=>by rw[hg.cell];simpa using hj
 have hml:maxLen≤9223372036854775807:=by unfold maxLen;decide
 have hgne:g0≠g:=hgo g0 rfl;by_cases hroom:l.length+1≤c
 ·have hsz0:(l.length+1)*2≤cur.size:=by rw[h6'];omega
  refine(qna g0 l.length c i g c2 (qat.cells l) (qat.f x) w hi hroom (by omega) (by omega) (Ne.symm hgne) hCl hfx hcs (fun j hj=>?_) (fun j _=>hb.free j) hvs (qat.cells_one l) (qat.one x) 123 123 (qat.f x).toArray.size cur.size ?_ ?_ (by omega) (hg.free 0) (hg.free _)).mono ?_
  ·rw[hb.cell,Array.getElem?_eq_getElem (by omega)];rfl
  ·unfold World.shape?;rw[show w.heap[g]?=_ from hg]
  ·unfold World.shape?;rw[show w.heap[g0]?=_ from hb]
  rintro e w' ⟨rfl,rfl⟩;have hdl:((qat.cells l).drop (i*2)).length=(l.length - i)*2:=by rw[zD,hCl];omega
  have hb1:BIs (w.drew.setCells g0 ((i+1)*2) ((qat.cells l).drop (i*2))) g0 (qfE cur.toList ((i+1)*2) ((qat.cells l).drop (i*2))).toArray 123:=qbx _ g0 _ _ w.drew cur hb (by rw[hdl];omega);have hX:(i+1)*2+(l.length - i)*2≤cur.size:=by omega
  have hY:l.length*2+2≤cur.size:=by omega
  have hT:cur.toList.length=cur.size:=by simp
  have hp1:(qfE cur.toList ((i+1)*2) ((qat.cells l).drop (i*2))).length=cur.size:=by rw[qdJ (by rw[hdl,hT];exact hX),hT]
  have hb2:=qbx 123 g0 (qat.f x) (i*2) _ _ hb1 (by rw[List.size_toArray,hp1,hfx];have:=Nat.mul_le_mul_right 2 (show i+1≤l.length+1 by omega);omega);refine⟨.slice (some (Pq g0 0)) (l.length+1) c,rfl,⟨by rw[qat.cells_len],.inr ⟨g0,c,_,by rw[hlen],h3,hb2,by omega,h5,?_,?_⟩⟩,?_,.inl rfl⟩
  ·simp only[List.size_toArray];rw[qdJ (by rw[hfx,hp1];omega),hp1];exact h6
  ·rw[hlen,hcells];have:=qn7 (L:=cur.toList) (C:=qat.cells l) (fx:=qat.f x) (a:=i*2) (k:=2) (N:=l.length*2) h7' hCl (Nat.mul_le_mul_right 2 (by omega)) hfx (by rw[hT];exact hY);rw[show i*2+2=(i+1)*2 by omega,show l.length*2+2=(l.length+1)*qat.k by rw[hk];omega] at this;simpa using this
  ·exact qjR
 ·refine(qoj g0 l.length c i g c2 (qat.cells l) (qat.f x) w hi h4 (by omega) (by omega) hCl hfx hcs hvs (qat.cells_one l) (qat.one x)).mono ?_;rintro e w' ⟨rfl,rfl⟩;obtain⟨G,hG⟩:∃G,G=grownCap w (l.length+1) c 123:=⟨_,rfl⟩;have hGn:l.length+1≤G:=by rw[hG];exact grownCap_ge w _ _ _
  have hG63:G≤maxLen:=by
   have:=grownCap_le_maxLen w (l.length+1) c 123 (by unfold maxLen;omega);rw[←hG] at this;exact this
  rw[←hG];clear hG;have hzk:qat.z.cells.size=2:=qat.zk;have htk:((qat.cells l).take (i*2)).length=i*2:=by rw[zT,hCl];omega
  obtain⟨ROW,hROW⟩:∃ROW:Array Value,ROW=((qat.cells l).take (i*2)).toArray++Builtin.zeroCells qat.z.cells (l.length+1 - i)++Builtin.zeroCells qat.z.cells (G - (l.length+1)):=⟨_,rfl⟩;rw[←hROW];have hRs:ROW.size=G*2:=by
   rw[hROW];simp only[Array.size_append,List.size_toArray,htk,size_zeroCells,hzk];omega
  have hRt:ROW.toList.take (i*2)=(qat.cells l).take (i*2):=by
   exact qky
  clear hROW;have hdl:((qat.cells l).drop (i*2)).length=(l.length - i)*2:=by rw[zD,hCl];omega
  have hT:ROW.toList.length=ROW.size:=by simp
  have hX1:i*2+2≤ROW.size:=by omega
  have hX2:(i+1)*2+(l.length - i)*2≤ROW.size:=by omega
  have hb0:BIs (w.alloc (.cells ROW 123)).drew w.heap.size ROW 123:=BIs.new w ROW 123;have hb1:=qbx 123 w.heap.size (qat.f x) (i*2) _ _ hb0 (by rw[hfx];exact hX1);have hp1:(qfE ROW.toList (i*2) (qat.f x)).length=ROW.size:=by rw[qdJ (by rw[hfx,hT];exact hX1),hT]
  have hb1':BIs (((w.alloc (.cells ROW 123)).drew.setCells w.heap.size (i*2) (qat.f x)).drew) w.heap.size (qfE ROW.toList (i*2) (qat.f x)).toArray 123:=hb1;have hb2:=qbx 123 w.heap.size ((qat.cells l).drop (i*2)) ((i+1)*2) _ _ hb1' (by rw[List.size_toArray,hp1,hdl];exact hX2);have hx:Ext w ((((w.alloc (.cells ROW 123)).drew.setCells w.heap.size (i*2) (qat.f x)).drew).setCells w.heap.size ((i+1)*2) ((qat.cells l).drop (i*2))):=
   (qbz w.heap.size _ _ _).ext (((qbz w.heap.size _ _ _).ext ((Ext.new w (.cells ROW 123)).trans zW) (zR _)).trans zW) (zR _)
  refine⟨.slice (some (Pw w 0)) (l.length+1) G,rfl,⟨by rw[qat.cells_len],.inr ⟨w.heap.size,G,_,by rw[hlen],hB,hb2,by omega,hG63,?_,?_⟩⟩,Wrote.of hx,.inr ⟨w.heap.size,rfl,zR _⟩⟩
  ·simp only[List.size_toArray];rw[qdJ (by rw[hdl,hp1];exact hX2),hp1];exact hRs
  ·rw[hlen,hcells];have e1:(qfE ROW.toList (i*2) (qat.f x)).take ((i+1)*2)=(qat.cells l).take (i*2)++qat.f x:=by
    exact qj5
   show (qfE (qfE ROW.toList (i*2) (qat.f x)) ((i+1)*2) ((qat.cells l).drop (i*2))).take ((l.length+1)*2)=_;exact qke
theorem qog {P : Prop} (h : P := by
 clear hc h1;go_wp2;go_roundw
 case rel=>exact⟨k+1,A,c,l,by omega,by go_num,rfl,HS',hl0,hl1,hl2,hJ (HRL.out.ext X1.out),hJ (HX.out.trans X1.out)⟩
 case measure=>simp[intOf];omega) : P := h
theorem qpw {P : Prop} (h : P := by
 rw[hh] at HS;go_wp2;go_roundw
 case rel=>exact⟨k+1,by omega,by go_num,by rw[HS.out];simp,X1⟩
 case measure=>simp[intOf];omega) : P := h
theorem qkR{α:Type}{l:List α}{k:Nat}{x:α}(q:α→Bool)(h:l[k]?=some x):(l.take (k+1)).countP q=(l.take k).countP q+(if q x then 1 else 0):=by
 rw[List.take_add_one,h,List.countP_append];simp[List.countP_cons]
theorem qrI(fls:List FlM)(n:Int)(xs:List Int):qc0 (fls.map FlM.v) (n,xs)=decide (qfB xs.length≤((fls.countP fun f=>qbN xs f.m:Nat):Int)):=by
 unfold qc0;rw[List.countP_map];rfl
theorem qlK(m:CM)(B:Nat)(col:Nat→Nat)(p:Nat)(n:Int)(A:Option Addr)(c:Nat)(xs:List Int)(w:World)(h:CS w B col p m)(hr:Row w A (qaq xs))(hx:xs.length≤1000000) :
  Calls Tryz.prog 128 #[.pointer (some (Pq p 0)),.agg #[Jq n,.slice A xs.length c]] w fun en w'=>en=.returned (.bool (qc0 (m.b.fls.map FlM.v) (n,xs)))∧Ext w w':=by
 have HB:=hJ h.lies.reads.fls;have q8:=h.cell 8;have hln:=h.fits.fls;have hpl:=h.lt;have HR:=hJ hr;obtain⟨⟨self,base,stable,sent,Av,cv,vs,Al,cl,log,Ap,cp,pend,Am,cm,marks,Af,cf,fls⟩,Ak,ck,pk,Ad,cd,dl⟩:=m;simp only at hln HB⊢;rw[qrI];replace q8:w.cell? (Pq p 8)=some (.slice Af fls.length cf):=q8;clear h hr;have E0:Hid (Ext w (w.alloc (.cells #[Jq n,.slice A xs.length c] 46))):=hJ (Ext.new _ _);have V0:Hid (BIs (w.alloc (.cells #[Jq n,.slice A xs.length c] 46)) w.heap.size #[Jq n,.slice A xs.length c] 46):=hJ (BIs.new _ _ _);go_enter Tryz.func128,Tryz.ntmps128;go_wp2;generalize w.alloc (.cells #[Jq n,.slice A xs.length c] 46)=u0 at *;go_loopw [5,14] (fun s i wr=>∃(k:Nat),k≤fls.length∧i=Jq k∧s=Jq (((fls.take k).countP fun f=>qbN xs f.m:Nat):Int)∧Hid (Ext u0 wr)) (fun _ i _=>fls.length - (intOf i).toNat)
 case atStart=>exact⟨0,zO _,rfl,by simp,hJ (Ext.refl _)⟩
 case round=>
  obtain⟨k,hk,rfl,rfl,HX⟩:=hrel;have hcl:(fls.take k).countP (fun f=>qbN xs f.m)≤k:=zL List.countP_le_length (by rw[zT];omega);obtain⟨ct,hct⟩:∃x,x=(fls.take k).countP (fun f=>qbN xs f.m):=⟨_,rfl⟩;rw[←hct] at hcl⊢;have HCT:=hJ hct;clear hct;by_cases hlt:k<fls.length
  ·obtain⟨bb,off,f,rfl,hb,c0,c1,c2,HFR,HF⟩:=qie ((HB.out.ext E0.out).ext HX.out) hlt;have v1:wr.cell? (Pw w 1)=some (.slice A xs.length c):=(V0.out.ext HX.out).cell 1;have hvl:w.heap.size<wr.heap.size:=(V0.out.ext HX.out).lt;have HS:=hJ (qkR (fun f=>qbN xs f.m) HF.out);have X1:Hid (Ext u0 (wr.alloc (.cells #[Jq f.m,Jq f.b,.slice f.A f.log.length f.c] 80))):=hJ (HX.out.trans (Ext.new _ _));have hw1:IntKind.i64.wrap ((ct:Int)+1)=(ct:Int)+1:=IntWalk.i64_in _ (by omega);go_wp2_with fail;refine(qce A c xs f.m _ (((HR.out.ext E0.out).ext X1.out)) (by omega)).mono ?_;rintro en w2 ⟨rfl,rfl⟩;rw[←HCT.out] at HS;cases hh:qbN xs f.m with
   | true=>
    exact qpw
   | false=>
    exact qpw
  ·have hkl:k=fls.length:=by omega
   subst hkl;rw[List.take_length] at HCT;have v1:wr.cell? (Pw w 1)=some (.slice A xs.length c):=(V0.out.ext HX.out).cell 1;go_wp2_with fail;refine(qgQ _ _).mono ?_;rintro en w2 ⟨rfl,rfl⟩;go_wp2;go_ret;exact⟨qae (by rw[HCT.out]),E0.out.trans HX.out⟩
def chK(fls:List FlM)(base:Int)(k:Nat):List Ent:=(fls.take k).foldl (fun out f=>if f.b=base∧out.length<f.log.length then f.log else out) []
theorem qta(fls:List FlM)(base:Int):qa0 (fls.map FlM.v) base=chK fls base fls.length:=by
 unfold qa0 chK;rw[List.foldl_map,List.take_length];rfl
theorem qqu{fls:List FlM}{base:Int}{k:Nat}{f:FlM}(h:fls[k]?=some f):chK fls base (k+1)=if f.b=base∧(chK fls base k).length<f.log.length then f.log else chK fls base k:=by
 unfold chK;rw[List.take_add_one,h,List.foldl_append];rfl
theorem qnK(m:CM)(B:Nat)(col:Nat→Nat)(p:Nat)(bs:Int)(w:World)(h:CS w B col p m) :
  Calls Tryz.prog 129 #[.pointer (some (Pq p 0)),Jq bs] w fun en w'=>∃A c,en=.returned (.slice A (qa0 (m.b.fls.map FlM.v) bs).length c)∧(qa0 (m.b.fls.map FlM.v) bs).length≤c∧c≤maxLen∧Row w' A (qaH.cells (qa0 (m.b.fls.map FlM.v) bs))∧Ext w w':=by
 have HB:=hJ h.lies.reads.fls;have q8:=h.cell 8;have hln:=h.fits.fls;have HFL:=hJ h.fits.fl;obtain⟨⟨self,base,stable,sent,Av,cv,vs,Al,cl,log,Ap,cp,pend,Am,cm,marks,Af,cf,fls⟩,Ak,ck,pk,Ad,cd,dl⟩:=m;simp only at hln HB HFL⊢;rw[qta];replace q8:w.cell? (Pq p 8)=some (.slice Af fls.length cf):=q8;clear h;go_enter Tryz.func129,Tryz.ntmps129;go_wp2;go_loopw [5,14] (fun s i wr=>∃(k:Nat) (A:Option Addr) (c:Nat) (l:List Ent),k≤fls.length∧i=Jq k∧s=.slice A l.length c∧Hid (l=chK fls bs k)∧l.length≤100000∧l.length≤c∧c≤maxLen∧Hid (Row wr A (qaH.cells l))∧Hid (Ext w wr)) (fun _ i _=>fls.length - (intOf i).toNat)
 case atStart=>exact⟨0,none,0,[],zO _,rfl,rfl,hJ rfl,zO _,zR _,zO _,hJ (Row.nil _ _),hJ (Ext.refl _)⟩
 case round=>
  obtain⟨k,A,c,l,hk,rfl,rfl,HL,hl0,hl1,hl2,HRL,HX⟩:=hrel;by_cases hlt:k<fls.length
  ·obtain⟨bb,off,f,rfl,hb,c0,c1,c2,HFR,HF⟩:=qie (HB.out.ext HX.out) hlt;have HS:=hJ (qqu (base:=bs) HF.out);rw[←HL.out] at HS;have hfl:=(HFL.out f (zX HF.out)).1;have hok:=(HB.out.2 f (zX HF.out)).1;have X1:Hid (Ext wr (wr.alloc (.cells #[Jq f.m,Jq f.b,.slice f.A f.log.length f.c] 80))):=hJ (Ext.new _ _);by_cases hc:f.b=bs∧l.length<f.log.length
   ·have d1:(f.b == bs)=true:=by simpa using hc.1
    have d2:decide ((l.length:Int)<(f.log.length:Int))=true:=by simp;omega
    rw[if_pos hc] at HS;have d3:l.length<f.log.length:=hc.2;clear hc;go_wp2;go_roundw
    case rel=>exact⟨k+1,f.A,f.c,f.log,by omega,by go_num,rfl,hJ HS.out.symm,hfl,hok.1,hok.2,hJ (HFR.out.ext X1.out),hJ (HX.out.trans X1.out)⟩
    case measure=>simp[intOf];omega
   ·rw[if_neg hc] at HS;have HS':Hid (l=chK fls bs (k+1)):=hJ HS.out.symm;by_cases h1:f.b=bs
    ·have d1:(f.b == bs)=true:=by simpa using h1
     have d2:decide ((l.length:Int)<(f.log.length:Int))=false:=by simp only[decide_eq_false_iff_not];intro e;exact hc ⟨h1,by omega⟩
     have d3:¬l.length<f.log.length:=fun e=>hc ⟨h1,e⟩;exact qog
    ·have d1:(f.b == bs)=false:=by simpa using h1
     exact qog
  ·have hkl:k=fls.length:=by omega
   subst hkl;go_wp2;go_ret;rw[←HL.out];exact⟨A,c,rfl,hl1,hl2,HRL.out,HX.out⟩
theorem qjC{α:Type}(q:α→Bool):∀(l:List α) (k:Nat),(∀i y,i<k→l[i]?=some y→q y=true)→k≤l.length→(∀y,l[k]?=some y→q y=false)→(l.takeWhile q).length=k
 | [],k,_,hk,_=>by simp at hk;simp[hk]
 | x::l,0,_,_,hn=>by
  have:=hn x rfl;simp[this]
 | x::l,k+1,h,hk,hn=>by
  have h0:=h 0 x (by omega) rfl;rw[List.takeWhile_cons,h0];simp only[if_true,zK,Nat.add_right_cancel_iff];exact qjC q l k (fun i y hi hy=>h (i+1) y (by omega) (by simpa using hy)) (by simpa using hk) (fun y hy=>hn y (by simpa using hy))
theorem qmD{l:List FlM}{k:Nat}{mb:Int}(h:∀i y,i<k→l[i]?=some y→y.m<mb)(hk:k≤l.length)(hn:∀y,l[k]?=some y→¬y.m<mb):qf5 (l.map FlM.v) mb=k:=by
 unfold qf5;refine qjC _ _ k (fun i y hi hy=>?_) (by simpa using hk) (fun y hy=>?_)
 ·rw[zM] at hy;obtain⟨f,hf,rfl⟩:=Option.map_eq_some_iff.1 hy;exact decide_eq_true (h i f hi hf)
 ·rw[zM] at hy;obtain⟨f,hf,rfl⟩:=Option.map_eq_some_iff.1 hy;exact decide_eq_false (hn f hf)
theorem ql9{l:List (Int×Int)}{k:Nat}{mb:Int}(h:∀i y,i<k→l[i]?=some y→y.1<mb)(hk:k≤l.length)(hn:∀y,l[k]?=some y→¬y.1<mb):qdF l mb=k:=by
 unfold qdF;exact qjC _ _ k (fun i y hi hy=>by simpa using h i y hi hy) hk (fun y hy=>by simpa using hn y hy)
theorem qru{l:List FlM}{k:Nat}{f g:FlM}(hs:qf5 (l.map FlM.v) f.m=k)(hg:l[k]?=some g)(he:g.m=f.m):putF (l.map FlM.v) f.v=(l.set k f).map FlM.v:=by
 unfold putF;rw[show f.v.1=f.m from rfl,hs,zM,hg];simp only[Option.map_some,FlM.v,he,if_true];rw[List.map_set];rfl
theorem qmh{l:List FlM}{k:Nat}{f:FlM}(hs:qf5 (l.map FlM.v) f.m=k)(hn:∀g,l[k]?=some g→g.m≠f.m):putF (l.map FlM.v) f.v=(l.take k++f::l.drop k).map FlM.v:=by
 unfold putF;rw[show f.v.1=f.m from rfl,hs,zM];rw[if_neg]
 ·simp[List.map_append,List.map_take,List.map_drop]
 ·intro e;cases hg:l[k]? with
  | none=>rw[hg] at e;cases e
  | some g=>rw[hg] at e;simp only[Option.map_some,zJ] at e;exact hn g hg e
theorem qka:∀(l:List FlM) (k:Nat) (x f:FlM),l[k]?=some x→flE.cells (l.set k f)=(((flE.cells l).set (k*3) (Jq f.m)).set (k*3+1) (Jq f.b)).set (k*3+2) (.slice f.A f.log.length f.c):=by
 intro l;induction l with
 | nil=>intro k x f h;simp at h
 | cons y l ih=>
  intro k x f h
  match k,h with
  | 0,h=>rfl
  | k+1,h=>
   rw[List.set_cons_succ,flE.cells_cons,flE.cells_cons,ih k x f (by simpa using h)];have e1:(k+1)*3+2=k*3+2+1+1+1:=by omega
   have e2:(k+1)*3+1=k*3+1+1+1+1:=by omega
   have e3:(k+1)*3=k*3+1+1+1:=by omega
   rw[e1,e2,e3];rfl
theorem qtj{w:World}{B g cap:Nat}{l:List FlM}{k:Nat}{x:FlM}(f:FlM)(h:flE.Own w B (.slice (some (Pq g 0)) l.length cap) l)(hx:l[k]?=some x) :
  flE.Own (((w.setCell (Pq g (k*3)) (Jq f.m)).setCell (Pq g (k*3+1)) (Jq f.b)).setCell (Pq g (k*3+2)) (.slice f.A f.log.length f.c)) B (.slice (some (Pq g 0)) (l.set k f).length cap) (l.set k f):=by
 obtain⟨h1,h2⟩:=h;refine⟨by rw[flE.cells_len],.inr ?_⟩;rcases h2 with ⟨h2,_⟩|⟨g',cap',cur,hv,h3,hh,h4,h5,h6,h7⟩
 ·cases h2
 ·simp only[Value.slice.injEq,zJ,Addr.mk.injEq,and_true,true_and] at hv;obtain⟨rfl,rfl⟩:=hv;refine⟨g,cap,((cur.setIfInBounds (k*3) (Jq f.m)).setIfInBounds (k*3+1) (Jq f.b)).setIfInBounds (k*3+2) (.slice f.A f.log.length f.c),by rw[List.length_set],h3,?_,by rw[List.length_set];exact h4,h5,by simpa using h6,?_⟩
  ·exact heap_setCell_same _ _ _ _ _ _ (heap_setCell_same _ _ _ _ _ _ (heap_setCell_same _ _ _ _ _ _ hh))
  ·rw[List.length_set,Array.toList_setIfInBounds,List.take_set,Array.toList_setIfInBounds,List.take_set,Array.toList_setIfInBounds,List.take_set,h7,qka l k x f hx]
theorem qhr{w:World}{B:Nat}{v:Value}{l:List FlM}(h:flE.Own w B v l)(hl:0<l.length):∃g c,v=.slice (some (Pq g 0)) l.length c∧l.length≤c∧c≤maxLen∧B≤g∧g<w.heap.size∧∀i,w.frozen? (Pq g i)=false:=by
 have h':=h;obtain⟨_,h2⟩:=h;rcases h2 with ⟨_,h3⟩|⟨g,cap,cur,hv,h3,hh,h4,h5,h6,h7⟩
 ·omega
 ·subst hv;exact⟨g,cap,rfl,h4,h5,h3,(h'.lt g rfl).2,fun i=>(show BIs w g cur _ from hh).free i⟩
theorem CS.fl_ob{w:World}{B:Nat}{col:Nat→Nat}{p:Nat}{m:CM}(h:CS w B col p m):flE.OB w B (.slice m.b.Af m.b.fls.length m.b.cf) m.b.fls:=⟨h.lies.fls,fun f hf=>⟨(h.lies.fi f hf).1,fun r hr=>by
 simp only[flE,zC,zN,or_false] at hr;subst hr;exact⟨(h.lies.fi f hf).2.1,fun p' q hne hp hq e=>by have h1:=(h.lies.fi f hf).2.2 p' hne hp;have h2:=h.lies.fc q hq;rw[e,h1] at h2;cases h2⟩⟩⟩
theorem qoQ(a b:Int)(A:Option Addr)(c:Nat)(l:List Ent)(w:World):BIs (w.alloc (.cells #[Jq a,Jq b,.slice A l.length c] 80)) w.heap.size (flE.f ⟨a,b,A,c,l⟩).toArray 80:=BIs.new _ _ _
theorem qs6{w:World}{g:Nat}{x:FlM}(h:BIs w g (flE.f x).toArray 80):Row w (some (Pq g 0)) (flE.cells [x]):=by
 intro _;refine⟨g,0,rfl,h.lt,fun j q hj=>?_⟩;rw[flE.cells_cons] at hj;have hj':(flE.f x)[j]?=some q:=by simpa[Elem.cells] using hj
 rw[h.cell];simpa using hj'
theorem qqH(B:Nat)(A:Option Addr)(c:Nat)(l:List FlM)(x:FlM)(w:World)(ho:flE.OB w B (.slice A l.length c) l)(hB:B≤w.heap.size)(g c2:Nat)(hr:Row w (some (Pq g 0)) (flE.cells [x]))(hx:flE.ok x∧∀r∈flE.inn x,Row w r.1 r.2∧Apt (.slice A l.length c) r)(hn:l.length≤1000000)(hc:l.length≤c∧c≤maxLen) :
  Calls Tryz.prog 127 #[.slice A l.length c,Jq (l.length:Int),.slice (some (Pq g 0)) 1 c2] w fun e w'=>∃v',e=.returned v'∧flE.Own w' B v' (l++[x])∧Grew w w' (.slice A l.length c)∧Stems w (.slice A l.length c) v':=by
 have HO:=hJ ho;have HR:=hJ hr;have HX:Hid (∀q∈[x],flE.ok q∧∀r∈flE.inn q,Row w r.1 r.2∧Apt (.slice A l.length c) r):=hJ (fun q hq=>by simp only[zC,zN,or_false] at hq;subst hq;exact hx);clear ho hr hx;obtain⟨hc1,hc2⟩:=hc;rcases A with _|ad
 ·go_enter Tryz.func127,Tryz.ntmps127;go_wp2_with (first
   | (at_builtin;refine qcr flE rfl (.tmp 23) (.tmp 24) rfl _ B _ l (by rfl) _ _ _ [x] (by rfl) rfl HR.out HO.out HX.out (by simp;omega) hB ?_;intro v1 w1 ho1 hg1 hs1))
  all_goals (go_ret;exact⟨v1,rfl,ho1.1,hg1,hs1⟩)
 ·go_enter Tryz.func127,Tryz.ntmps127;go_wp2_with (first
   | (at_builtin;refine qcr flE rfl (.tmp 23) (.tmp 24) rfl _ B _ l (by rfl) _ _ _ [x] (by rfl) rfl HR.out HO.out HX.out (by simp;omega) hB ?_;intro v1 w1 ho1 hg1 hs1))
  all_goals (go_ret;exact⟨v1,rfl,ho1.1,hg1,hs1⟩)
end Go.Proofs.YtponbabbabnaeaaGreat
