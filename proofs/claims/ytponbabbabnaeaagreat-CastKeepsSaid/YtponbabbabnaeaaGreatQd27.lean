/- Part 27 of the proof: contracts of functions that the statement reaches. Conditions: as each theorem says. -/
import Derived.Test.YtponbabbabnaeaaGreatQd01
import Derived.Test.YtponbabbabnaeaaGreatQd26
import Derived.Test.YtponbabbabnaeaaGreatQd10
import Derived.Test.YtponbabbabnaeaaGreatQd09
set_option maxRecDepth 100000
namespace Go.Proofs.YtponbabbabnaeaaGreat
open Go.RowKit
theorem qqo {P : Prop} (h : P := by
 rcases Nat.lt_or_ge i l.length with hi|hi
 ·rw[List.getElem?_append_left hi] at ht;exact h i t ht
 ·rw[List.getElem?_append_right hi] at ht
  have:=List.mem_of_getElem? ht
  simp only[List.mem_cons,List.not_mem_nil,or_false] at this
  subst this;subst hb
  exact⟨Elem.Own.nil _ _,fun q hq=>by simp[Value.ownBlock] at hq⟩) : P := h
theorem qqO {P : Prop} (h : P := by
 have:=s.bis h.box (by rw[h.pc];decide)
 unfold WM.cells at this⊢
 rw[List.length_set];exact this) : P := h
theorem ToldI.snoc{w:World}{B:Nat}{col:Nat→Nat}{l:List TlM}{b:TlM}(h:ToldI w B col l)(hb:b=⟨none,0,[]⟩):ToldI w B col (l++[b]):=fun i t ht=>by
 exact qqo
theorem SentI.snoc{w:World}{B:Nat}{col:Nat→Nat}{l:List SnM}{b:SnM}(h:SentI w B col l)(hb:b=⟨none,0,[]⟩):SentI w B col (l++[b]):=fun i t ht=>by
 exact qqo
section
variable {u w':World} {B p:Nat} {col:Nat→Nat} {m:WM}
theorem WS.push_vs{v:Value}{b:VwM}(h:WS u B col p m)(hb:qas.ok b∧∀r∈qas.inn b,Row u r.1 r.2∧ColR col 0 r.1 r.2){l':List VwM}(hl:l'=m.vs++[b])(ho:qas.OB w' B v l')(g:Grew u w' (.slice m.Av m.vs.length m.cv))(hs:Stems u (.slice m.Av m.vs.length m.cv) v) :
  ∃A c col',v=.slice A l'.length c∧BIs w' p m.cells 59∧WS (w'.setCell (Pq p 0) v) B col' p {m with Av:=A,cv:=c,vs:=l'}∧Stp B [1,2] col u col' (w'.setCell (Pq p 0) v):=by
 subst hl
 obtain⟨s,a,z⟩:=h.vs.pushed (news:=[b]) (fun x hx=>by simp only[List.mem_cons,List.not_mem_nil,or_false] at hx;subst hx;exact hb) ho g hs h.Bsz
 obtain⟨A,c,rfl,_⟩:=a.slice
 have bx:=s.bis h.box (by rw[h.pc];decide)
 have pc':=(s.hue p h.lt).trans h.pc
 have s2:Stp B [1] (qbf col u.heap.size w'.heap.size 2) w' (qbf col u.heap.size w'.heap.size 2) (w'.setCell (Pq p 0) (.slice A (m.vs++[b]).length c)):=Stp.wrote (Wrote.set _ _ _ _) h.bp (Nat.le_trans h.Bsz s.size) (by rw[pc'];simp)
 have s12:Stp B [1,2] col u (qbf col u.heap.size w'.heap.size 2) (w'.setCell (Pq p 0) (.slice A (m.vs++[b]).length c)):=(s.mono (by simp)).trans (s2.mono (by simp))
 exact⟨A,c,_,rfl,bx,⟨bx.set 0 _,pc',h.bp,fun k hk=>z k (Nat.le_trans s2.size hk),a.keep s2 (by decide) (by decide),h.mem.keep s12 (by decide) (by decide),h.down.keep s12 (by decide) (by decide),h.told.keep s12 (by decide) (by decide),h.sent.keep s12 (by decide) (by decide),h.fly.keep s12 (by decide) (by decide),h.ti.keep s12 (by decide),h.si.keep s12 (by decide)⟩,s12⟩
theorem WS.push_mem{v:Value}{b:BM}(h:WS u B col p m)(hb:qb8.ok b∧∀r∈qb8.inn b,Row u r.1 r.2∧ColR col 0 r.1 r.2){l':List BM}(hl:l'=m.mem++[b])(ho:qb8.OB w' B v l')(g:Grew u w' (.slice m.Am m.mem.length m.cm))(hs:Stems u (.slice m.Am m.mem.length m.cm) v) :
  ∃A c col',v=.slice A l'.length c∧BIs w' p m.cells 59∧WS (w'.setCell (Pq p 1) v) B col' p {m with Am:=A,cm:=c,mem:=l'}∧Stp B [1,3] col u col' (w'.setCell (Pq p 1) v):=by
 subst hl
 obtain⟨s,a,z⟩:=h.mem.pushed (news:=[b]) (fun x hx=>by simp only[List.mem_cons,List.not_mem_nil,or_false] at hx;subst hx;exact hb) ho g hs h.Bsz
 obtain⟨A,c,rfl,_⟩:=a.slice
 have bx:=s.bis h.box (by rw[h.pc];decide)
 have pc':=(s.hue p h.lt).trans h.pc
 have s2:Stp B [1] (qbf col u.heap.size w'.heap.size 3) w' (qbf col u.heap.size w'.heap.size 3) (w'.setCell (Pq p 1) (.slice A (m.mem++[b]).length c)):=Stp.wrote (Wrote.set _ _ _ _) h.bp (Nat.le_trans h.Bsz s.size) (by rw[pc'];simp)
 have s12:Stp B [1,3] col u (qbf col u.heap.size w'.heap.size 3) (w'.setCell (Pq p 1) (.slice A (m.mem++[b]).length c)):=(s.mono (by simp)).trans (s2.mono (by simp))
 exact⟨A,c,_,rfl,bx,⟨bx.set 1 _,pc',h.bp,fun k hk=>z k (Nat.le_trans s2.size hk),h.vs.keep s12 (by decide) (by decide),a.keep s2 (by decide) (by decide),h.down.keep s12 (by decide) (by decide),h.told.keep s12 (by decide) (by decide),h.sent.keep s12 (by decide) (by decide),h.fly.keep s12 (by decide) (by decide),h.ti.keep s12 (by decide),h.si.keep s12 (by decide)⟩,s12⟩
theorem WS.push_down{v:Value}{b:Bool}(h:WS u B col p m)(hb:qcX.ok b∧∀r∈qcX.inn b,Row u r.1 r.2∧ColR col 0 r.1 r.2){l':List Bool}(hl:l'=m.down++[b])(ho:qcX.OB w' B v l')(g:Grew u w' (.slice m.Ad m.down.length m.cd))(hs:Stems u (.slice m.Ad m.down.length m.cd) v) :
  ∃A c col',v=.slice A l'.length c∧BIs w' p m.cells 59∧WS (w'.setCell (Pq p 2) v) B col' p {m with Ad:=A,cd:=c,down:=l'}∧Stp B [1,4] col u col' (w'.setCell (Pq p 2) v):=by
 subst hl
 obtain⟨s,a,z⟩:=h.down.pushed (news:=[b]) (fun x hx=>by simp only[List.mem_cons,List.not_mem_nil,or_false] at hx;subst hx;exact hb) ho g hs h.Bsz
 obtain⟨A,c,rfl,_⟩:=a.slice
 have bx:=s.bis h.box (by rw[h.pc];decide)
 have pc':=(s.hue p h.lt).trans h.pc
 have s2:Stp B [1] (qbf col u.heap.size w'.heap.size 4) w' (qbf col u.heap.size w'.heap.size 4) (w'.setCell (Pq p 2) (.slice A (m.down++[b]).length c)):=Stp.wrote (Wrote.set _ _ _ _) h.bp (Nat.le_trans h.Bsz s.size) (by rw[pc'];simp)
 have s12:Stp B [1,4] col u (qbf col u.heap.size w'.heap.size 4) (w'.setCell (Pq p 2) (.slice A (m.down++[b]).length c)):=(s.mono (by simp)).trans (s2.mono (by simp))
 exact⟨A,c,_,rfl,bx,⟨bx.set 2 _,pc',h.bp,fun k hk=>z k (Nat.le_trans s2.size hk),h.vs.keep s12 (by decide) (by decide),h.mem.keep s12 (by decide) (by decide),a.keep s2 (by decide) (by decide),h.told.keep s12 (by decide) (by decide),h.sent.keep s12 (by decide) (by decide),h.fly.keep s12 (by decide) (by decide),h.ti.keep s12 (by decide),h.si.keep s12 (by decide)⟩,s12⟩
theorem WS.push_told{v:Value}{b:TlM}(h:WS u B col p m)(hb:tlE.ok b∧∀r∈tlE.inn b,Row u r.1 r.2∧ColR col 0 r.1 r.2)(hn:b=⟨none,0,[]⟩){l':List TlM}(hl:l'=m.told++[b])(ho:tlE.OB w' B v l')(g:Grew u w' (.slice m.At m.told.length m.ct))(hs:Stems u (.slice m.At m.told.length m.ct) v) :
  ∃A c col',v=.slice A l'.length c∧BIs w' p m.cells 59∧WS (w'.setCell (Pq p 3) v) B col' p {m with At:=A,ct:=c,told:=l'}∧Stp B [1,5] col u col' (w'.setCell (Pq p 3) v):=by
 subst hl
 obtain⟨s,a,z⟩:=h.told.pushed (news:=[b]) (fun x hx=>by simp only[List.mem_cons,List.not_mem_nil,or_false] at hx;subst hx;exact hb) ho g hs h.Bsz
 obtain⟨A,c,rfl,_⟩:=a.slice
 have bx:=s.bis h.box (by rw[h.pc];decide)
 have pc':=(s.hue p h.lt).trans h.pc
 have s2:Stp B [1] (qbf col u.heap.size w'.heap.size 5) w' (qbf col u.heap.size w'.heap.size 5) (w'.setCell (Pq p 3) (.slice A (m.told++[b]).length c)):=Stp.wrote (Wrote.set _ _ _ _) h.bp (Nat.le_trans h.Bsz s.size) (by rw[pc'];simp)
 have s12:Stp B [1,5] col u (qbf col u.heap.size w'.heap.size 5) (w'.setCell (Pq p 3) (.slice A (m.told++[b]).length c)):=(s.mono (by simp)).trans (s2.mono (by simp))
 exact⟨A,c,_,rfl,bx,⟨bx.set 3 _,pc',h.bp,fun k hk=>z k (Nat.le_trans s2.size hk),h.vs.keep s12 (by decide) (by decide),h.mem.keep s12 (by decide) (by decide),h.down.keep s12 (by decide) (by decide),a.keep s2 (by decide) (by decide),h.sent.keep s12 (by decide) (by decide),h.fly.keep s12 (by decide) (by decide),ToldI.snoc (h.ti.keep s12 (by decide)) hn,h.si.keep s12 (by decide)⟩,s12⟩
theorem WS.push_sent{v:Value}{b:SnM}(h:WS u B col p m)(hb:snE.ok b∧∀r∈snE.inn b,Row u r.1 r.2∧ColR col 0 r.1 r.2)(hn:b=⟨none,0,[]⟩){l':List SnM}(hl:l'=m.sent++[b])(ho:snE.OB w' B v l')(g:Grew u w' (.slice m.As m.sent.length m.cs))(hs:Stems u (.slice m.As m.sent.length m.cs) v) :
  ∃A c col',v=.slice A l'.length c∧BIs w' p m.cells 59∧WS (w'.setCell (Pq p 4) v) B col' p {m with As:=A,cs:=c,sent:=l'}∧Stp B [1,6] col u col' (w'.setCell (Pq p 4) v):=by
 subst hl
 obtain⟨s,a,z⟩:=h.sent.pushed (news:=[b]) (fun x hx=>by simp only[List.mem_cons,List.not_mem_nil,or_false] at hx;subst hx;exact hb) ho g hs h.Bsz
 obtain⟨A,c,rfl,_⟩:=a.slice
 have bx:=s.bis h.box (by rw[h.pc];decide)
 have pc':=(s.hue p h.lt).trans h.pc
 have s2:Stp B [1] (qbf col u.heap.size w'.heap.size 6) w' (qbf col u.heap.size w'.heap.size 6) (w'.setCell (Pq p 4) (.slice A (m.sent++[b]).length c)):=Stp.wrote (Wrote.set _ _ _ _) h.bp (Nat.le_trans h.Bsz s.size) (by rw[pc'];simp)
 have s12:Stp B [1,6] col u (qbf col u.heap.size w'.heap.size 6) (w'.setCell (Pq p 4) (.slice A (m.sent++[b]).length c)):=(s.mono (by simp)).trans (s2.mono (by simp))
 exact⟨A,c,_,rfl,bx,⟨bx.set 4 _,pc',h.bp,fun k hk=>z k (Nat.le_trans s2.size hk),h.vs.keep s12 (by decide) (by decide),h.mem.keep s12 (by decide) (by decide),h.down.keep s12 (by decide) (by decide),h.told.keep s12 (by decide) (by decide),a.keep s2 (by decide) (by decide),h.fly.keep s12 (by decide) (by decide),h.ti.keep s12 (by decide),SentI.snoc (h.si.keep s12 (by decide)) hn⟩,s12⟩
theorem WS.push_fly{v:Value}{b:FyM}(h:WS u B col p m)(hb:qgj.ok b∧∀r∈qgj.inn b,Row u r.1 r.2∧ColR col 0 r.1 r.2){l':List FyM}(hl:l'=m.fly++[b])(ho:qgj.OB w' B v l')(g:Grew u w' (.slice m.Af m.fly.length m.cf))(hs:Stems u (.slice m.Af m.fly.length m.cf) v) :
  ∃A c col',v=.slice A l'.length c∧BIs w' p m.cells 59∧WS (w'.setCell (Pq p 5) v) B col' p {m with Af:=A,cf:=c,fly:=l'}∧Stp B [1,7] col u col' (w'.setCell (Pq p 5) v):=by
 subst hl
 obtain⟨s,a,z⟩:=h.fly.pushed (news:=[b]) (fun x hx=>by simp only[List.mem_cons,List.not_mem_nil,or_false] at hx;subst hx;exact hb) ho g hs h.Bsz
 obtain⟨A,c,rfl,_⟩:=a.slice
 have bx:=s.bis h.box (by rw[h.pc];decide)
 have pc':=(s.hue p h.lt).trans h.pc
 have s2:Stp B [1] (qbf col u.heap.size w'.heap.size 7) w' (qbf col u.heap.size w'.heap.size 7) (w'.setCell (Pq p 5) (.slice A (m.fly++[b]).length c)):=Stp.wrote (Wrote.set _ _ _ _) h.bp (Nat.le_trans h.Bsz s.size) (by rw[pc'];simp)
 have s12:Stp B [1,7] col u (qbf col u.heap.size w'.heap.size 7) (w'.setCell (Pq p 5) (.slice A (m.fly++[b]).length c)):=(s.mono (by simp)).trans (s2.mono (by simp))
 exact⟨A,c,_,rfl,bx,⟨bx.set 5 _,pc',h.bp,fun k hk=>z k (Nat.le_trans s2.size hk),h.vs.keep s12 (by decide) (by decide),h.mem.keep s12 (by decide) (by decide),h.down.keep s12 (by decide) (by decide),h.told.keep s12 (by decide) (by decide),h.sent.keep s12 (by decide) (by decide),a.keep s2 (by decide) (by decide),h.ti.keep s12 (by decide),h.si.keep s12 (by decide)⟩,s12⟩
theorem WS.put_mem{g i:Nat}{b:BM}(h:WS u B col p m)(hA:m.Am=some (Pq g 0))(hi:i<m.mem.length)(hb:qb8.ok b∧∀r∈qb8.inn b,Row u r.1 r.2∧ColR col 0 r.1 r.2) :
  WS (qfS u g (i*qb8.k) (qb8.f b)) B col p {m with mem:=m.mem.set i b}∧Stp B [3] col u col (qfS u g (i*qb8.k) (qb8.f b)):=by
 have hm:=h.mem
 rw[hA] at hm
 obtain⟨s,a⟩:=hm.put hi hb h.Bsz (by decide)
 refine⟨⟨?_,h.pc,h.bp,fun k hk=>h.z k (Nat.le_trans s.size hk),h.vs.keep s (by decide) (by decide),?_,h.down.keep s (by decide) (by decide),h.told.keep s (by decide) (by decide),h.sent.keep s (by decide) (by decide),h.fly.keep s (by decide) (by decide),h.ti.keep s (by decide),h.si.keep s (by decide)⟩,s⟩
 ·exact qqO
 ·rw[hA];exact a
theorem WS.put_down{g i:Nat}{b:Bool}(h:WS u B col p m)(hA:m.Ad=some (Pq g 0))(hi:i<m.down.length)(hb:qcX.ok b∧∀r∈qcX.inn b,Row u r.1 r.2∧ColR col 0 r.1 r.2) :
  WS (qfS u g (i*qcX.k) (qcX.f b)) B col p {m with down:=m.down.set i b}∧Stp B [4] col u col (qfS u g (i*qcX.k) (qcX.f b)):=by
 have hm:=h.down
 rw[hA] at hm
 obtain⟨s,a⟩:=hm.put hi hb h.Bsz (by decide)
 refine⟨⟨?_,h.pc,h.bp,fun k hk=>h.z k (Nat.le_trans s.size hk),h.vs.keep s (by decide) (by decide),h.mem.keep s (by decide) (by decide),?_,h.told.keep s (by decide) (by decide),h.sent.keep s (by decide) (by decide),h.fly.keep s (by decide) (by decide),h.ti.keep s (by decide),h.si.keep s (by decide)⟩,s⟩
 ·exact qqO
 ·rw[hA];exact a
end
theorem qqC {P : Prop} (h : P := by
 subst hij
 rw[List.getElem?_set_self hi] at hx
 cases hx
 exact⟨s2.own a.own a.cv (by simp only[List.mem_cons,List.not_mem_nil,or_false];omega),s2.colV a.own a.cv⟩) : P := h
theorem qqF {P : Prop} (h : P := by
 have:=s12.bis h.box (by rw[h.pc];simp only[List.mem_cons,List.not_mem_nil,or_false];omega)
 unfold WM.cells at this⊢
 rw[List.length_set];exact this) : P := h
section
variable {u w':World} {B p:Nat} {col:Nat→Nat} {m:WM}
theorem WS.app_told{g i:Nat}{t:TlM}{v:Value}{news:List Ent}(h:WS u B col p m)(hA:m.At=some (Pq g 0))(ht:m.told[i]?=some t){l':List Ent}(hl:l'=t.l++news)(ho:qaz.OB w' B v l')(gr:Grew u w' (.slice t.A t.l.length t.c))(hs:Stems u (.slice t.A t.l.length t.c) v) :
  ∃A c col',v=.slice A l'.length c∧BIs w' p m.cells 59∧w'.frozen? (Pq g i)=false∧w'.cell? (Pq g i)=some (.slice t.A t.l.length t.c)∧WS (w'.setCell (Pq g i) v) B col' p {m with told:=m.told.set i ⟨A,c,l'⟩}∧Stp B [5,10+2*i] col u col' (w'.setCell (Pq g i) v):=by
 subst hl
 have hi:=(List.getElem?_eq_some_iff.1 ht).1
 have hin:Arr qaz u B col (10+2*i) (.slice t.A t.l.length t.c) t.l:=⟨(h.ti i t ht).1,(h.ti i t ht).2,fun a _=>⟨trivial,fun r hr=>by simp[qaz] at hr⟩⟩
 obtain⟨s,a,z⟩:=hin.pushed (news:=news) (fun x _=>⟨trivial,fun r hr=>by simp[qaz] at hr⟩) ho gr hs h.Bsz
 generalize qbf col u.heap.size w'.heap.size (10+2*i)=col' at s a z
 obtain⟨A,c,rfl,_⟩:=a.slice
 have tk:=h.told.keep s (by simp only[List.mem_cons,List.not_mem_nil,or_false];omega) (by simp only[List.mem_cons,List.not_mem_nil,or_false];omega)
 rw[hA] at tk
 obtain⟨s2,a2⟩:=tk.put hi (a:=⟨A,c,t.l++news⟩) ⟨trivial,fun r hr=>by simp[tlE] at hr⟩ (Nat.le_trans h.Bsz s.size) (by decide)
 have e:qfS w' g (i*tlE.k) (tlE.f ⟨A,c,t.l++news⟩)=w'.setCell (Pq g i) (.slice A (t.l++news).length c):=by
  show w'.setCell (Pq g (i*1)) _=_
  rw[Nat.mul_one]
 rw[e] at s2 a2
 obtain⟨g',n',hv',_,_,_,_,_,hfr⟩:=tk.addr (by omega)
 simp only[Value.slice.injEq,Option.some.injEq,Addr.mk.injEq,and_true,true_and] at hv'
 obtain⟨hg',_⟩:=hv'
 subst hg'
 have s12:Stp B [5,10+2*i] col u col' (w'.setCell (Pq g i) (.slice A (t.l++news).length c)):=(s.mono (by simp)).trans (s2.mono (by simp))
 refine⟨A,c,col',rfl,s.bis h.box (by rw[h.pc];simp only[List.mem_cons,List.not_mem_nil,or_false];omega),hfr i,by have:=tk.cell ht (j:=0) rfl;simpa[tlE] using this,⟨?_,(s12.hue p h.lt).trans h.pc,h.bp,fun k hk=>z k (Nat.le_trans s2.size hk),h.vs.keep s12 (by simp only[List.mem_cons,List.not_mem_nil,or_false];omega) (by simp only[List.mem_cons,List.not_mem_nil,or_false];omega),h.mem.keep s12 (by simp only[List.mem_cons,List.not_mem_nil,or_false];omega) (by simp only[List.mem_cons,List.not_mem_nil,or_false];omega),h.down.keep s12 (by simp only[List.mem_cons,List.not_mem_nil,or_false];omega) (by simp only[List.mem_cons,List.not_mem_nil,or_false];omega),?_,h.sent.keep s12 (by simp only[List.mem_cons,List.not_mem_nil,or_false];omega) (by simp only[List.mem_cons,List.not_mem_nil,or_false];omega),h.fly.keep s12 (by simp only[List.mem_cons,List.not_mem_nil,or_false];omega) (by simp only[List.mem_cons,List.not_mem_nil,or_false];omega),fun j x hx=>?_,fun j x hx=>⟨s12.own (h.si j x hx).1 (h.si j x hx).2 (by simp only[List.mem_cons,List.not_mem_nil,or_false];omega),s12.colV (h.si j x hx).1 (h.si j x hx).2⟩⟩,s12⟩
 ·exact qqF
 ·rw[hA];exact a2
 ·by_cases hij:i=j
  ·exact qqC
  ·rw[List.getElem?_set_ne hij] at hx
   exact⟨s12.own (h.ti j x hx).1 (h.ti j x hx).2 (by simp only[List.mem_cons,List.not_mem_nil,or_false];omega),s12.colV (h.ti j x hx).1 (h.ti j x hx).2⟩
theorem WS.app_sent{g i:Nat}{t:SnM}{v:Value}{news:List (List UInt8)}(h:WS u B col p m)(hA:m.As=some (Pq g 0))(ht:m.sent[i]?=some t){l':List (List UInt8)}(hl:l'=t.l++news)(ho:qda.OB w' B v l')(gr:Grew u w' (.slice t.A t.l.length t.c))(hs:Stems u (.slice t.A t.l.length t.c) v) :
  ∃A c col',v=.slice A l'.length c∧BIs w' p m.cells 59∧w'.frozen? (Pq g i)=false∧w'.cell? (Pq g i)=some (.slice t.A t.l.length t.c)∧WS (w'.setCell (Pq g i) v) B col' p {m with sent:=m.sent.set i ⟨A,c,l'⟩}∧Stp B [6,11+2*i] col u col' (w'.setCell (Pq g i) v):=by
 subst hl
 have hi:=(List.getElem?_eq_some_iff.1 ht).1
 have hin:Arr qda u B col (11+2*i) (.slice t.A t.l.length t.c) t.l:=⟨(h.si i t ht).1,(h.si i t ht).2,fun a _=>⟨trivial,fun r hr=>by simp[qda] at hr⟩⟩
 obtain⟨s,a,z⟩:=hin.pushed (news:=news) (fun x _=>⟨trivial,fun r hr=>by simp[qda] at hr⟩) ho gr hs h.Bsz
 generalize qbf col u.heap.size w'.heap.size (11+2*i)=col' at s a z
 obtain⟨A,c,rfl,_⟩:=a.slice
 have tk:=h.sent.keep s (by simp only[List.mem_cons,List.not_mem_nil,or_false];omega) (by simp only[List.mem_cons,List.not_mem_nil,or_false];omega)
 rw[hA] at tk
 obtain⟨s2,a2⟩:=tk.put hi (a:=⟨A,c,t.l++news⟩) ⟨trivial,fun r hr=>by simp[snE] at hr⟩ (Nat.le_trans h.Bsz s.size) (by decide)
 have e:qfS w' g (i*snE.k) (snE.f ⟨A,c,t.l++news⟩)=w'.setCell (Pq g i) (.slice A (t.l++news).length c):=by
  show w'.setCell (Pq g (i*1)) _=_
  rw[Nat.mul_one]
 rw[e] at s2 a2
 obtain⟨g',n',hv',_,_,_,_,_,hfr⟩:=tk.addr (by omega)
 simp only[Value.slice.injEq,Option.some.injEq,Addr.mk.injEq,and_true,true_and] at hv'
 obtain⟨hg',_⟩:=hv'
 subst hg'
 have s12:Stp B [6,11+2*i] col u col' (w'.setCell (Pq g i) (.slice A (t.l++news).length c)):=(s.mono (by simp)).trans (s2.mono (by simp))
 refine⟨A,c,col',rfl,s.bis h.box (by rw[h.pc];simp only[List.mem_cons,List.not_mem_nil,or_false];omega),hfr i,by have:=tk.cell ht (j:=0) rfl;simpa[snE] using this,⟨?_,(s12.hue p h.lt).trans h.pc,h.bp,fun k hk=>z k (Nat.le_trans s2.size hk),h.vs.keep s12 (by simp only[List.mem_cons,List.not_mem_nil,or_false];omega) (by simp only[List.mem_cons,List.not_mem_nil,or_false];omega),h.mem.keep s12 (by simp only[List.mem_cons,List.not_mem_nil,or_false];omega) (by simp only[List.mem_cons,List.not_mem_nil,or_false];omega),h.down.keep s12 (by simp only[List.mem_cons,List.not_mem_nil,or_false];omega) (by simp only[List.mem_cons,List.not_mem_nil,or_false];omega),h.told.keep s12 (by simp only[List.mem_cons,List.not_mem_nil,or_false];omega) (by simp only[List.mem_cons,List.not_mem_nil,or_false];omega),?_,h.fly.keep s12 (by simp only[List.mem_cons,List.not_mem_nil,or_false];omega) (by simp only[List.mem_cons,List.not_mem_nil,or_false];omega),fun j x hx=>⟨s12.own (h.ti j x hx).1 (h.ti j x hx).2 (by simp only[List.mem_cons,List.not_mem_nil,or_false];omega),s12.colV (h.ti j x hx).1 (h.ti j x hx).2⟩,fun j x hx=>?_⟩,s12⟩
 ·exact qqF
 ·rw[hA];exact a2
 ·by_cases hij:i=j
  ·exact qqC
  ·rw[List.getElem?_set_ne hij] at hx
   exact⟨s12.own (h.si j x hx).1 (h.si j x hx).2 (by simp only[List.mem_cons,List.not_mem_nil,or_false];omega),s12.colV (h.si j x hx).1 (h.si j x hx).2⟩
end
theorem Elem.one_row{α:Type}{E:Elem α}{w:World}{g:Nat}{x:α}{t:TypeId}(h:BIs w g (E.f x).toArray t):Row w (some (Pq g 0)) (E.cells [x]):=by
 intro _
 refine⟨g,0,rfl,h.lt,fun j q hj=>?_⟩
 rw[E.cells_cons] at hj
 have hj':(E.f x)[j]?=some q:=by simpa[Elem.cells] using hj
 rw[h.cell];simpa using hj'
theorem qjS{w w':World}{col:Nat→Nat}{b:BM}(h:qb8.ok b∧∀r∈qb8.inn b,Row w r.1 r.2∧ColR col 0 r.1 r.2)(e:Ext w w'):qb8.ok b∧∀r∈qb8.inn b,Row w' r.1 r.2∧ColR col 0 r.1 r.2:=
 ⟨h.1,fun r hr=>⟨(h.2 r hr).1.ext e,(h.2 r hr).2⟩⟩
def qtE(B:Nat)(col:Nat→Nat)(p:Nat)(w:World)(r:Wd)(en:Ending)(w':World):Prop:=∃m col',en=.returned (.tuple #[])∧WS w' B col' p m∧m.wd=r∧Stp B [1,3,4,5,6] col w col' w'
set_option maxHeartbeats 1000000 in
theorem qkK(m:WM)(B:Nat)(col:Nat→Nat)(p:Nat)(b:BM)(w:World)(h:WS w B col p m)(hb:qb8.ok b∧∀r∈qb8.inn b,Row w r.1 r.2∧ColR col 0 r.1 r.2)(h1:m.mem.length≤1000)(h2:m.down.length≤1000)(h3:m.told.length≤1000)(h4:m.sent.length≤1000) :
  Calls Tryz.prog 94 #[.pointer (some (Pq p 0)),.agg b.cells] w (qtE B col p w (qmy m.wd b.st)):=by
 obtain⟨Av,cv,vs,Am,cm,mem,Ad,cd,down,At,ct,told,As,cs,sent,Af,cf,fly⟩:=m
 obtain⟨self0,base0,stable0,sent0,Av0,cv0,vs0,Al0,cl0,log0,Ap0,cp0,pend0,Am0,cm0,marks0,Af0,cf0,fls0⟩:=b
 simp only at h1 h2 h3 h4
 have E0:Hid (Ext w (w.alloc (.cells #[Jq self0,.slice Av0 vs0.length cv0,Jq base0,.slice Al0 log0.length cl0,Jq stable0,Jq sent0,.slice Ap0 pend0.length cp0,.slice Am0 marks0.length cm0,.slice Af0 fls0.length cf0] 28))):=hJ (Ext.new _ _)
 have C0:Hid (WS (w.alloc (.cells #[Jq self0,.slice Av0 vs0.length cv0,Jq base0,.slice Al0 log0.length cl0,Jq stable0,Jq sent0,.slice Ap0 pend0.length cp0,.slice Am0 marks0.length cm0,.slice Af0 fls0.length cf0] 28)) B col p ⟨Av,cv,vs,Am,cm,mem,Ad,cd,down,At,ct,told,As,cs,sent,Af,cf,fly⟩):=hJ (h.ext E0.out)
 have BX:Hid (BIs (w.alloc (.cells #[Jq self0,.slice Av0 vs0.length cv0,Jq base0,.slice Al0 log0.length cl0,Jq stable0,Jq sent0,.slice Ap0 pend0.length cp0,.slice Am0 marks0.length cm0,.slice Af0 fls0.length cf0] 28)) w.heap.size #[Jq self0,.slice Av0 vs0.length cv0,Jq base0,.slice Al0 log0.length cl0,Jq stable0,Jq sent0,.slice Ap0 pend0.length cp0,.slice Am0 marks0.length cm0,.slice Af0 fls0.length cf0] 28):=hJ (BIs.new _ _ _)
 have HB:Hid (qb8.ok ⟨self0,base0,stable0,sent0,Av0,cv0,vs0,Al0,cl0,log0,Ap0,cp0,pend0,Am0,cm0,marks0,Af0,cf0,fls0⟩∧∀r∈qb8.inn ⟨self0,base0,stable0,sent0,Av0,cv0,vs0,Al0,cl0,log0,Ap0,cp0,pend0,Am0,cm0,marks0,Af0,cf0,fls0⟩,Row (w.alloc (.cells #[Jq self0,.slice Av0 vs0.length cv0,Jq base0,.slice Al0 log0.length cl0,Jq stable0,Jq sent0,.slice Ap0 pend0.length cp0,.slice Am0 marks0.length cm0,.slice Af0 fls0.length cf0] 28)) r.1 r.2∧ColR col 0 r.1 r.2):=hJ ⟨hb.1,fun r hr=>⟨(hb.2 r hr).1.ext E0.out,(hb.2 r hr).2⟩⟩
 have BL:Hid (Stp B [1,3,4,5,6] col w col (w.alloc (.cells #[Jq self0,.slice Av0 vs0.length cv0,Jq base0,.slice Al0 log0.length cl0,Jq stable0,Jq sent0,.slice Ap0 pend0.length cp0,.slice Am0 marks0.length cm0,.slice Af0 fls0.length cf0] 28))):=hJ (Stp.ext' h.Bsz E0.out)
 have HC8:Hid (col w.heap.size=0):=hJ (h.z _ (Nat.le_refl _))
 clear h hb;go_enter Tryz.func94,Tryz.ntmps94
 go_upto_region 1 with fail
 generalize (w.alloc (.cells #[Jq self0,.slice Av0 vs0.length cv0,Jq base0,.slice Al0 log0.length cl0,Jq stable0,Jq sent0,.slice Ap0 pend0.length cp0,.slice Am0 marks0.length cm0,.slice Af0 fls0.length cf0] 28))=u0 at *
 generalize w.heap.size=r0 at *
 refine qac 8 (fun w'=>Cq w' p 1 (.slice Am mem.length cm)∧Cq w' r0 0 (Jq self0)∧Cq w' r0 1 (.slice Av0 vs0.length cv0)∧Cq w' r0 2 (Jq base0)∧Cq w' r0 3 (.slice Al0 log0.length cl0)∧Cq w' r0 4 (Jq stable0)∧Cq w' r0 5 (Jq sent0)∧Cq w' r0 6 (.slice Ap0 pend0.length cp0)∧Cq w' r0 7 (.slice Am0 marks0.length cm0)∧Cq w' r0 8 (.slice Af0 fls0.length cf0)) (by kernel_rfl) ⟨(qaB (C0.out.ext Ext.drew1)).2.1,(BX.out.ext Ext.drew1).cell 0,(BX.out.ext Ext.drew1).cell 1,(BX.out.ext Ext.drew1).cell 2,(BX.out.ext Ext.drew1).cell 3,(BX.out.ext Ext.drew1).cell 4,(BX.out.ext Ext.drew1).cell 5,(BX.out.ext Ext.drew1).cell 6,(BX.out.ext Ext.drew1).cell 7,(BX.out.ext Ext.drew1).cell 8⟩ (fun hHeld=>?_)
 have XD:Hid (Ext u0 u0.drew):=hJ Ext.drew1
 replace BL:=hJ (BL.out.trans (Stp.ext' C0.out.Bsz XD.out))
 replace C0:=hJ (C0.out.ext XD.out);replace BX:=hJ (BX.out.ext XD.out);replace HB:=hJ (qjS HB.out XD.out)
 clear XD;generalize u0.drew=u1 at *
 refine E_t 0 4 ?_;refine E_t 1 5 ?_;refine E_t 2 6 ?_;refine E_t 3 7 ?_;refine E_t 4 8 ?_;refine E_t 5 9 ?_;refine E_r 6 (some 10) fun K hK=>?_
 go_simp;have EA:Hid (Ext u1 (u1.alloc (.cells #[Jq self0,.slice Av0 vs0.length cv0,Jq base0,.slice Al0 log0.length cl0,Jq stable0,Jq sent0,.slice Ap0 pend0.length cp0,.slice Am0 marks0.length cm0,.slice Af0 fls0.length cf0] 28))):=hJ (Ext.new _ _)
 have HRE:Hid (Row (u1.alloc (.cells #[Jq self0,.slice Av0 vs0.length cv0,Jq base0,.slice Al0 log0.length cl0,Jq stable0,Jq sent0,.slice Ap0 pend0.length cp0,.slice Am0 marks0.length cm0,.slice Af0 fls0.length cf0] 28)) (some (Pq u1.heap.size 0)) (qb8.cells [⟨self0,base0,stable0,sent0,Av0,cv0,vs0,Al0,cl0,log0,Ap0,cp0,pend0,Am0,cm0,marks0,Af0,cf0,fls0⟩])):=hJ ((Elem.one_row (E:=qb8) (BIs.new _ _ _)))
 replace BL:=hJ (BL.out.trans (Stp.ext' C0.out.Bsz EA.out))
 replace C0:=hJ (C0.out.ext EA.out);replace BX:=hJ (BX.out.ext EA.out);replace HB:=hJ (qjS HB.out EA.out)
 clear EA;generalize (u1.alloc (.cells #[Jq self0,.slice Av0 vs0.length cv0,Jq base0,.slice Al0 log0.length cl0,Jq stable0,Jq sent0,.slice Ap0 pend0.length cp0,.slice Am0 marks0.length cm0,.slice Af0 fls0.length cf0] 28))=u2 at *
 generalize u1.heap.size=r_e at *
 clear hHeld;refine hK.out _ _ ⟨(qaB C0.out).2.1,BX.out.cell 0,BX.out.cell 1,BX.out.cell 2,BX.out.cell 3,BX.out.cell 4,BX.out.cell 5,BX.out.cell 6,BX.out.cell 7,BX.out.cell 8⟩ (fun hHeld=>?_)
 clear hK K;try simp only[Act.put,aP1,aP2,aP3]
 refine E_r 7 (some 11) fun K hK=>?_
 refine qby qb8 rfl (.tmp 8) (.tmp 10) rfl u2 B _ mem (by rfl) _ 1 1 [⟨self0,base0,stable0,sent0,Av0,cv0,vs0,Al0,cl0,log0,Ap0,cp0,pend0,Am0,cm0,marks0,Af0,cf0,fls0⟩] (by rfl) rfl HRE.out (by decide) (C0.out.mem.ob (by decide)) (C0.out.mem.good (by decide) (fun x hx=>by simp only[List.mem_cons,List.not_mem_nil,or_false] at hx;subst hx;exact HB.out)) (by omega) C0.out.Bsz ?_
 intro v3 w3 ho3 hg3 hs3
 obtain⟨NM,hNM⟩:∃l,l=mem++[(⟨self0,base0,stable0,sent0,Av0,cv0,vs0,Al0,cl0,log0,Ap0,cp0,pend0,Am0,cm0,marks0,Af0,cf0,fls0⟩:BM)]:=⟨_,rfl⟩
 rw[←hNM] at ho3
 obtain⟨A3,c3,col3,rfl,bx3,ws3,bl3⟩:=C0.out.push_mem HB.out hNM ho3 hg3 hs3
 have HNM:=hJ hNM
 clear hNM;have BX3:=hJ bx3;have C3:=hJ ws3;have BL3:=hJ (BL.out.trans (bl3.mono (by simp)))
 have f1:=bx3.free 1;have q1:w3.cell? (Pq p 1)=some (.slice Am mem.length cm):=bx3.cell 1
 have BB3:Hid (BIs w3 r0 #[Jq self0,.slice Av0 vs0.length cv0,Jq base0,.slice Al0 log0.length cl0,Jq stable0,Jq sent0,.slice Ap0 pend0.length cp0,.slice Am0 marks0.length cm0,.slice Af0 fls0.length cf0] 28):=hJ (BX.out.same (hg3.block _ BX.out.lt (fun e=>by have h3:=C0.out.mem.cv _ e.symm;have h4:=HC8.out;rw[h3] at h4;cases h4)))
 clear ho3 hg3 hs3 bx3 ws3 bl3;clear hHeld;refine hK.out _ _ ⟨q1,BB3.out.cell 0,BB3.out.cell 1,BB3.out.cell 2,BB3.out.cell 3,BB3.out.cell 4,BB3.out.cell 5,BB3.out.cell 6,BB3.out.cell 7,BB3.out.cell 8⟩ (fun hHeld=>?_)
 clear hK K;try simp only[Act.put,aP1,aP2,aP3]
 refine qbc (by rfl) (by kernel_rfl) ?_
 go_upto_region 2 with fail
 generalize (w3.setCell (Pq p 1) (.slice A3 NM.length c3))=v1 at *
 clear BX3 f1 q1 BB3 hHeld HRE HB BX HC8 C0 BL;have EA:Hid (Ext v1 (v1.alloc (.cells #[.bool false] 4))):=hJ (Ext.new _ _)
 have CA:Hid (WS (v1.alloc (.cells #[.bool false] 4)) B col3 p ⟨Av,cv,vs,A3,c3,NM,Ad,cd,down,At,ct,told,As,cs,sent,Af,cf,fly⟩):=hJ (C3.out.ext EA.out)
 have HR:Hid (Row (v1.alloc (.cells #[.bool false] 4)) (some (Pq v1.heap.size 0)) (qcX.cells [false])):=hJ (Elem.one_row (E:=qcX) (BIs.new _ _ _))
 obtain⟨y0,y1,y2,y3,y4,y5⟩:=qaB C3.out
 go_upto_region 3 with (first|(at_builtin;refine qcd qcX rfl (.tmp 18) (.tmp 19) rfl _ B _ down (by rfl) _ 1 1 [false] (by rfl) rfl HR.out (CA.out.down.ob (by decide)) (fun x _=>⟨trivial,fun r hr=>by simp[qcX] at hr⟩) (by omega) CA.out.Bsz ?_;intro vn wn ho hg hs;obtain⟨NDN,hNDN⟩:∃l,l=down++[false]:=⟨_,rfl⟩;rw[←hNDN] at ho;obtain⟨A4,c4,col4,rfl,bx,ws,bl⟩:=CA.out.push_down ⟨trivial,fun r hr=>by simp[qcX] at hr⟩ hNDN ho hg hs;have HNDN:=hJ hNDN;clear hNDN;have g4:=bx.free 2;have e4:wn.cell? (Pq p 2)=some (.slice Ad down.length cd):=bx.cell 2;have C4:=hJ ws;have BL4:=hJ ((BL3.out.trans (Stp.ext' C3.out.Bsz EA.out)).trans (bl.mono (by simp)));clear ho hg hs ws bl))
 generalize (wn.setCell (Pq p 2) (.slice A4 NDN.length c4))=v4 at *
 clear bx g4 e4 CA HR EA y0 y1 y2 y3 y4 y5 C3 BL3;have EA:Hid (Ext v4 (v4.alloc (.cells #[Zq] 23))):=hJ (Ext.new _ _)
 have CA:Hid (WS (v4.alloc (.cells #[Zq] 23)) B col4 p ⟨Av,cv,vs,A3,c3,NM,A4,c4,NDN,At,ct,told,As,cs,sent,Af,cf,fly⟩):=hJ (C4.out.ext EA.out)
 have HR:Hid (Row (v4.alloc (.cells #[Zq] 23)) (some (Pq v4.heap.size 0)) (tlE.cells [(⟨none,0,[]⟩:TlM)])):=hJ (Elem.one_row (E:=tlE) (BIs.new _ _ _))
 obtain⟨y0,y1,y2,y3,y4,y5⟩:=qaB C4.out
 go_upto_region 4 with (first|(at_builtin;refine qcd tlE rfl (.tmp 27) (.tmp 28) rfl _ B _ told (by rfl) _ 1 1 [(⟨none,0,[]⟩:TlM)] (by rfl) rfl HR.out (CA.out.told.ob (by decide)) (fun x _=>⟨trivial,fun r hr=>by simp[tlE] at hr⟩) (by omega) CA.out.Bsz ?_;intro vn wn ho hg hs;obtain⟨NTL,hNTL⟩:∃l,l=told++[(⟨none,0,[]⟩:TlM)]:=⟨_,rfl⟩;rw[←hNTL] at ho;obtain⟨A5,c5,col5,rfl,bx,ws,bl⟩:=CA.out.push_told ⟨trivial,fun r hr=>by simp[tlE] at hr⟩ rfl hNTL ho hg hs;have HNTL:=hJ hNTL;clear hNTL;have g5:=bx.free 3;have e5:wn.cell? (Pq p 3)=some (.slice At told.length ct):=bx.cell 3;have C5:=hJ ws;have BL5:=hJ ((BL4.out.trans (Stp.ext' C4.out.Bsz EA.out)).trans (bl.mono (by simp)));clear ho hg hs ws bl))
 generalize (wn.setCell (Pq p 3) (.slice A5 NTL.length c5))=v5 at *
 clear bx g5 e5 CA HR EA y0 y1 y2 y3 y4 y5 C4 BL4;have EA:Hid (Ext v5 (v5.alloc (.cells #[Zq] 24))):=hJ (Ext.new _ _)
 have CA:Hid (WS (v5.alloc (.cells #[Zq] 24)) B col5 p ⟨Av,cv,vs,A3,c3,NM,A4,c4,NDN,A5,c5,NTL,As,cs,sent,Af,cf,fly⟩):=hJ (C5.out.ext EA.out)
 have HR:Hid (Row (v5.alloc (.cells #[Zq] 24)) (some (Pq v5.heap.size 0)) (snE.cells [(⟨none,0,[]⟩:SnM)])):=hJ (Elem.one_row (E:=snE) (BIs.new _ _ _))
 obtain⟨y0,y1,y2,y3,y4,y5⟩:=qaB C5.out
 go_wp2_with (first|(at_builtin;refine qcd snE rfl (.tmp 36) (.tmp 37) rfl _ B _ sent (by rfl) _ 1 1 [(⟨none,0,[]⟩:SnM)] (by rfl) rfl HR.out (CA.out.sent.ob (by decide)) (fun x _=>⟨trivial,fun r hr=>by simp[snE] at hr⟩) (by omega) CA.out.Bsz ?_;intro vn wn ho hg hs;obtain⟨NSN,hNSN⟩:∃l,l=sent++[(⟨none,0,[]⟩:SnM)]:=⟨_,rfl⟩;rw[←hNSN] at ho;obtain⟨A6,c6,col6,rfl,bx,ws,bl⟩:=CA.out.push_sent ⟨trivial,fun r hr=>by simp[snE] at hr⟩ rfl hNSN ho hg hs;have HNSN:=hJ hNSN;clear hNSN;have g6:=bx.free 4;have e6:wn.cell? (Pq p 4)=some (.slice As sent.length cs):=bx.cell 4;have C6:=hJ ws;have BL6:=hJ ((BL5.out.trans (Stp.ext' C5.out.Bsz EA.out)).trans (bl.mono (by simp)));clear ho hg hs ws bl))
 go_end0;refine⟨_,col6,rfl,C6.out,?_,BL6.out⟩
 simp only[WM.wd,qmy,HNM.out,HNDN.out,HNTL.out,HNSN.out,List.map_append,List.map_cons,List.map_nil]
theorem qrI(m:WM)(B:Nat)(col:Nat→Nat)(p:Nat)(b:BM)(w:World)(h:WS w B col p m)(hb:qb8.ok b∧∀r∈qb8.inn b,Row w r.1 r.2∧ColR col 0 r.1 r.2)(h1:m.mem.length≤1000)(h2:m.down.length≤1000)(h3:m.told.length≤1000)(h4:m.sent.length≤1000) :
  Calls Tryz.prog 94 #[.pointer (some (Pq p 0)),.agg b.cells] w (qjK B p w (.tuple #[]) (qmy m.wd b.st)):=
 (qkK m B col p b w h hb h1 h2 h3 h4).mono fun _ _ ⟨m',col',e1,e2,e3,e4⟩=>⟨m',col',e1,e2,e3,e4.below⟩
theorem qdY{α:Type}{ops:Array Oper}{o:Oper}{a:Act}{K:Act→World→Prop}{Q:Exit→Act→World→Prop}{X:Prop}(E:Elem α)(hgd:o.guard=none)(s x:Operand)
  (ho:o.op=.call {callee:=.builtin .append,args:=#[s,x],argTypes:=#[E.st,E.st]})
  (W:World) (B:Nat) (v:Value) (l:List α) (hs:a.eval s=v) (A:Option Addr) (m c:Nat) (news:List α) (hx:a.eval x=.slice A m c) (hm:m=news.length) (hr:Row W A (E.cells news))
  (hob:E.OB W B v l) (hgood:∀q∈news,E.ok q∧∀r∈E.inn q,Row W r.1 r.2∧Apt v r) (hl:l.length+m≤20000000) (hB:B≤W.heap.size)
  (h:∀v' w',E.OB w' B v' (l++news)→Grew W w' v→Stems W v v'→K (a.put o.dst v') w'):if Region.wanted o (yielded ops a.tmps)=true then Oper.wp Tryz.prog o a W K Q else X:=by
 have hw:Region.wanted o (yielded ops a.tmps)=true:=by simp[Region.wanted,hgd]
 rw[if_pos hw]
 rcases Nat.eq_zero_or_pos m with hz|hp
 ·have hn:news=[]:=List.eq_nil_of_length_eq_zero (by omega)
  subst hn
  subst hz
  obtain⟨i0,hi,hz0,hz1',hz2⟩:=E.info_parts
  rcases A with _|ad
  ·have hrun:=qeI (P:=Tryz.prog) W B E.st o.type E.ty i0 E.k E.und hi v l.length (E.cells l) hob.1 c
   unfold Oper.wp execOp
   simp only[ho,resolve,invoke,builtin,Sem.run_bind,Sem.run_pure,Result.andThen_ok,List.map_toArray,List.map_cons,List.map_nil,hs,hx,hrun]
   exact h v W (by rw[List.append_nil];exact hob) ⟨rfl,rfl,rfl,Nat.le_refl _,fun _ _ _=>rfl⟩ (.inl rfl)
  ·obtain⟨v',w',hrun,h2,h3,_,h4⟩:=run_append_own_at (P:=Tryz.prog) W B E.st o.type E.ty i0 E.z E.k E.bytes E.und hi hz0 hz1' hz2 E.zk E.pos v l.length (E.cells l) hob.1 ad 0 c [] (by simp) (fun j u hj=>by simp at hj) (fun u hu=>by simp at hu) (by unfold maxLen;omega) (by
    calc (l.length+0)*E.bytes≤20000000*512:=Nat.mul_le_mul hl E.small
     _≤_:=by decide) hB
   unfold Oper.wp execOp
   simp only[ho,resolve,invoke,builtin,Sem.run_bind,Sem.run_pure,Result.andThen_ok,List.map_toArray,List.map_cons,List.map_nil,hs,hx,hrun]
   have hst:Stems W v v':=by
    rcases h4 with h4|h4
    ·exact .inl h4
    ·exact .inr ⟨_,h4,Nat.le_refl _⟩
   refine h v' w' ⟨?_,fun q hq=>?_⟩ h3 hst
   ·unfold Elem.Own;rw[List.append_nil];rw[List.append_nil] at h2;exact h2
   ·rw[List.append_nil] at hq
    exact⟨(hob.2 q hq).1,fun r hr=>⟨((hob.2 q hq).2 r hr).1.grown h3 ((hob.2 q hq).2 r hr).2,qig ((hob.2 q hq).2 r hr).1 ((hob.2 q hq).2 r hr).2 hst⟩⟩
 ·rcases A with _|ad
  ·exfalso
   have hne:E.cells news≠[]:=by
    intro e
    have:=E.cells_len news
    rw[e] at this
    have:0<news.length*E.k:=Nat.mul_pos (by omega) E.pos
    simp at *;omega
   obtain⟨b,off,hh,_⟩:=hr hne
   cases hh
  ·exact qgP E s x ho W B v l hs ad m c news hx hm hr hp hob hgood hl hB h
section
variable {w w3:World} {B p:Nat} {col:Nat→Nat} {m:WM}
theorem WS.fly_good{v:Value}{l l':List FyM}(h:WS w B col p m)(e:Ext w w3)(ho:qgj.Own w3 w.heap.size v l)(hl:∀a∈l',a∈m.fly):∀q∈l',qgj.ok q∧∀r∈qgj.inn q,Row w3 r.1 r.2∧Apt v r:=
 fun q hq=>⟨(h.fly.inn q (hl q hq)).1,fun r hr=>⟨((h.fly.inn q (hl q hq)).2 r hr).1.ext e,qmS ((h.fly.inn q (hl q hq)).2 r hr).1 (Nat.le_refl _) ho⟩⟩
theorem WS.new_fly{v:Value}{l:List FyM}(h:WS w B col p m)(e:Ext w w3)(ho:qgj.OB w3 w.heap.size v l)(hl:∀a∈l,a∈m.fly) :
  ∃A c col',v=.slice A l.length c∧BIs w3 p m.cells 59∧WS (w3.setCell (Pq p 5) v) B col' p {m with Af:=A,cf:=c,fly:=l}∧Below B w (w3.setCell (Pq p 5) v):=by
 obtain⟨A,c,rfl,_⟩:=ho.1.slice
 obtain⟨col',hc1,hc2,hc3⟩:∃col':Nat→Nat,(∀k,k<w.heap.size→col' k=col k)∧(∀k,w3.heap.size≤k→col' k=0)∧ColV col' 7 (.slice A l.length c):=by
  refine⟨fun k=>if k<w.heap.size then col k else if (Value.slice A l.length c).ownBlock=some k then 7 else 0,fun k hk=>if_pos hk,fun k hk=>?_,fun q hq=>?_⟩
  ·have:=e.size
   simp only
   rw[if_neg (by omega),if_neg (fun hq=>by have:=(ho.1.lt k hq).2;omega)]
  ·have:=(ho.1.lt q hq).1
   simp only
   rw[if_neg (by omega),if_pos hq]
 have s:Stp B [] col w col' w3:=Stp.ext h.Bsz e hc1
 have s2:Stp B [1] col' w3 col' (w3.setCell (Pq p 5) (.slice A l.length c)):=Stp.wrote (Wrote.set _ _ _ _) h.bp (Nat.le_trans h.Bsz s.size) (by rw[s.hue p h.lt,h.pc];simp)
 have s12:Stp B [1] col w col' (w3.setCell (Pq p 5) (.slice A l.length c)):=(s.mono (by simp)).trans s2
 have bx:=s.bis h.box (by simp)
 have af:Arr qgj w3 B col' 7 (.slice A l.length c) l:=⟨ho.1.base h.Bsz,hc3,fun a ha=>⟨(ho.2 a ha).1,fun r hr=>⟨((ho.2 a ha).2 r hr).1,s.colR ((h.fly.inn a (hl a ha)).2 r hr).1 ((h.fly.inn a (hl a ha)).2 r hr).2⟩⟩⟩
 exact⟨A,c,col',rfl,bx,⟨bx.set 5 _,(s12.hue p h.lt).trans h.pc,h.bp,fun k hk=>hc2 k (Nat.le_trans s2.size hk),h.vs.keep s12 (by decide) (by decide),h.mem.keep s12 (by decide) (by decide),h.down.keep s12 (by decide) (by decide),h.told.keep s12 (by decide) (by decide),h.sent.keep s12 (by decide) (by decide),af.keep s2 (by decide) (by decide),h.ti.keep s12 (by decide),h.si.keep s12 (by decide)⟩,s12.below⟩
end
set_option maxHeartbeats 1000000 in
theorem qkN(m:WM)(B:Nat)(col:Nat→Nat)(p:Nat)(k:Nat)(w:World)(h:WS w B col p m)(hk:k<m.fly.length)(hn:m.fly.length≤1000000) :
  Calls Tryz.prog 101 #[.pointer (some (Pq p 0)),Jq (k:Int)] w (qjK B p w (.tuple #[]) (qhA m.wd k)):=by
 obtain⟨Av,cv,vs,Am,cm,mem,Ad,cd,down,At,ct,told,As,cs,sent,Af,cf,fly⟩:=m
 simp only at hk hn
 have H:=hJ h
 have q5:=(qaB h).2.2.2.2.2
 obtain⟨A0,c0,hv0,hc1,hc2,hrow⟩:=h.fly.slice
 simp only[Value.slice.injEq,true_and] at hv0
 obtain⟨hv1,hv2⟩:=hv0
 rw[←hv1] at hrow
 rw[←hv2] at hc1 hc2
 clear hv1 hv2 A0 c0;unfold maxLen at hc2
 simp only at hc1
 have HR:=hJ hrow
 clear hrow h;have hsl1:∀W,(Instr.slice 57 (.slice Af fly.length cf) none (some (Jq (k:Int))) none).run Tryz.prog W=.ok (.slice Af k cf) W:=fun W=>qgj.slice_h Af fly.length cf k _ rfl (by omega) W
 have hsl2:∀W,(Instr.slice 57 (.slice Af fly.length cf) (some (Jq ((k:Int)+1))) none none).run Tryz.prog W=.ok (.slice (qcB Af (k+1) cf 3) (fly.length - (k+1)) (cf - (k+1))) W:=fun W=>qgj.slice_l Af fly.length cf (k+1) _ (by omega) (by omega) W
 have hwk:IntKind.i64.wrap ((k:Int)+1)=(k:Int)+1:=IntWalk.i64_in _ (by omega)
 go_enter Tryz.func101,Tryz.ntmps101
 go_upto_region 0 with fail
 refine qac 17 (fun w'=>Cq w' p 5 (.slice Af fly.length cf)) (by kernel_rfl) (qaB (H.out.ext Ext.drew1)).2.2.2.2.2 (fun hHeld=>?_)
 have XX:Hid (Ext w w.drew):=hJ Ext.drew1
 generalize w.drew=u1 at *
 refine E_t 0 4 ?_;refine E_t 2 6 ?_;refine E_t 3 7 ?_;refine E_t 4 8 ?_;refine E_t 5 9 ?_;refine E_t 6 10 ?_;refine E_t 7 11 ?_;refine E_t 9 13 ?_;refine E_t 10 14 ?_;refine E_t 11 15 ?_;refine E_t 12 16 ?_;refine E_t 13 17 ?_;refine E_t 14 18 ?_;refine E_t 15 19 ?_;refine E_r 1 (some 5) fun K hK=>?_
 go_simp;have EA:Hid (Ext u1 (u1.alloc (.cells #[] 137))):=hJ (Ext.new _ _)
 have HO:Hid (qgj.OB (u1.alloc (.cells #[] 137)) w.heap.size (.slice (some (Pq u1.heap.size 0)) 0 0) []):=hJ ((qgj.own_empty u1).baseOB XX.out.size)
 have HRB:Hid (w.heap.size≤u1.heap.size):=hJ XX.out.size
 replace XX:=hJ (XX.out.trans EA.out)
 clear EA;generalize (u1.alloc (.cells #[] 137))=u2 at *
 generalize u1.heap.size=r_e at *
 clear hHeld;refine hK.out _ _ (qaB (H.out.ext XX.out)).2.2.2.2.2 (fun hHeld=>?_)
 clear hK K;try simp only[Act.put,aP1,aP2,aP3]
 refine E_r 8 (some 12) fun K hK=>?_
 refine qdY qgj rfl (.tmp 5) (.tmp 11) rfl u2 w.heap.size _ [] (by rfl) Af k cf (fly.take k) (by rfl) (by rw[List.length_take];omega) (Elem.row_upto (HR.out.ext XX.out) k) HO.out (H.out.fly_good XX.out HO.out.1 (fun a ha=>List.mem_of_mem_take ha)) (by simp;omega) XX.out.size ?_
 intro v3 w3 ho3 hg3 hs3
 rw[List.nil_append] at ho3
 obtain⟨N1,hN1⟩:∃l,l=fly.take k:=⟨_,rfl⟩
 rw[←hN1] at ho3
 have HN1:=hJ hN1
 clear hN1;obtain⟨A3,c3,rfl,_⟩:=ho3.1.slice
 have HO3:=hJ ho3
 replace XX:=hJ (hg3.below XX.out XX.out.size (fun q hq=>(HO.out.1.lt q hq).1))
 clear ho3 hg3 hs3;clear hHeld;refine hK.out _ _ (qaB (H.out.ext XX.out)).2.2.2.2.2 (fun hHeld=>?_)
 clear hK K;try simp only[Act.put,aP1,aP2,aP3]
 refine E_r 16 (some 20) fun K hK=>?_
 refine qdY qgj rfl (.tmp 12) (.tmp 19) rfl w3 w.heap.size _ N1 (by rfl) (qcB Af (k+1) cf 3) (fly.length - (k+1)) (cf - (k+1)) (fly.drop (k+1)) (by rfl) (by rw[List.length_drop]) (Elem.row_from (E:=qgj) (HR.out.ext XX.out) (by omega) (k+1)) HO3.out (H.out.fly_good XX.out HO3.out.1 (fun a ha=>List.mem_of_mem_drop ha)) (by have:=congrArg List.length HN1.out;simp at this;omega) XX.out.size ?_
 intro v4 w4 ho4 hg4 hs4
 obtain⟨N2,hN2⟩:∃l,l=N1++fly.drop (k+1):=⟨_,rfl⟩
 rw[←hN2] at ho4
 have HN2:=hJ hN2
 clear hN2;replace XX:=hJ (hg4.below XX.out XX.out.size (fun q hq=>(HO3.out.1.lt q hq).1))
 obtain⟨A4,c4,col4,rfl,bx4,ws4,bl4⟩:=H.out.new_fly XX.out ho4 (fun a ha=>by rw[HN2.out,HN1.out] at ha;rcases List.mem_append.1 ha with ha|ha;exact List.mem_of_mem_take ha;exact List.mem_of_mem_drop ha)
 have C4:=hJ ws4;have BL4:=hJ bl4
 have f4:=bx4.free 5
 have q4:w4.cell? (Pq p 5)=some (.slice Af fly.length cf):=bx4.cell 5
 clear ho4 hg4 hs4 ws4 bl4 bx4;clear hHeld;refine hK.out _ _ q4 (fun hHeld=>?_)
 clear hK K;try simp only[Act.put,aP1,aP2,aP3]
 refine qbc (by rfl) (by kernel_rfl) ?_
 go_wp2;go_end0;refine⟨_,col4,rfl,C4.out,?_,BL4.out⟩
 simp only[WM.wd,qhA,HN2.out,HN1.out,List.map_append,List.map_take,List.map_drop]
end Go.Proofs.YtponbabbabnaeaaGreat
