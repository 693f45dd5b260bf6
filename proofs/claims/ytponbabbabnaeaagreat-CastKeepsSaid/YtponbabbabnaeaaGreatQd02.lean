/- Part 2 of the proof: contracts of functions that the statement reaches. Conditions: as each theorem says. -/
import Derived.Deep.RegionHeld3
import Derived.Test.YtponbabbabnaeaaGreatQd01
set_option maxRecDepth 100000
namespace Go.Proofs.YtponbabbabnaeaaGreat
open Go.RowKit
theorem qjO {P : Prop} (h : P := by
 go_enter Tryz.func74,Tryz.ntmps74
 go_wp2;go_ret
 exact⟨qae HE.out.symm,rfl⟩) : P := h
theorem qmG {P : Prop} (h : P := by
 go_wp2_with (go_at_call 154;refine(qmr _ _ _ _ h hn).mono ?_;rintro e w' ⟨rfl,hs⟩)
 go_ret
 exact⟨qae HE.out.symm,hs⟩) : P := h
theorem qnE {P : Prop} (h : P := by
 go_enter Tryz.func21,Tryz.ntmps21
 go_wp2;go_ret
 exact⟨qae HE.out.symm,(Below.refl _ _).alloc (Nat.le_refl _) _⟩) : P := h
theorem qnd {P : Prop} (h : P := by
 go_enter Tryz.func95,Tryz.ntmps95
 go_wp2;go_ret
 exact⟨qae HE.out.symm,Still.refl _⟩) : P := h
theorem qnv {P : Prop} (h : P := by
 go_enter Tryz.func83,Tryz.ntmps83
 go_wp2;go_ret
 exact⟨qae HE.out.symm,Still.refl _⟩) : P := h
theorem qk0(n:Int)(w:World) :
  Calls Tryz.prog 74 #[Jq n] w fun e w'=>e=.returned (.bool (qb2 n))∧w=w':=by
 by_cases h1:1≤n
 ·by_cases h2:n≤1000
  ·have HE:Hid (qb2 n=true):=by simp[Hid,qb2,h1,h2]
   exact qjO
  ·have HE:Hid (qb2 n=false):=by simp[Hid,qb2,h2]
   have hd:decide (n≤1000)=false:=by simpa using h2
   exact qjO
 ·have HE:Hid (qb2 n=false):=by simp[Hid,qb2,h1]
  have hd:decide (1≤n)=false:=by simpa using h1
  exact qjO
theorem qix(n:Int)(w:World)(h:qb2 n=true):Calls Tryz.prog 74 #[Jq n] w fun e w'=>e=.returned (.bool true)∧w=w':=by
 rw[←h];exact qk0 n w
theorem qsk(n:Int)(w:World)(h:qb2 n=false):Calls Tryz.prog 74 #[Jq n] w fun e w'=>e=.returned (.bool false)∧w=w':=by
 rw[←h];exact qk0 n w
theorem qmr(A:Option Addr)(c:Nat)(xs:List Int)(w:World)(h:Row w A (qam xs))(hn:xs.length≤9223372036854775807) :
  Calls Tryz.prog 154 #[.slice A xs.length c] w fun e w'=>e=.returned (.bool (qdw 0 xs))∧Still w w':=by
 have H:=hJ h;clear h
 go_enter Tryz.func154,Tryz.ntmps154
 go_wp2;go_loopw [3] (fun i wr=>∃(k:Nat) (last:Int),k≤xs.length∧i=Jq k∧Hid ((k=0→last=0)∧(0<k→xs[k - 1]?=some last∧1≤last))∧Hid (qdw last (xs.drop k)=qdw 0 xs)∧Still w wr) (fun i _=>xs.length - (intOf i).toNat)
 case atStart=>exact⟨0,0,Nat.zero_le _,rfl,⟨fun _=>rfl,fun h=>absurd h (by omega)⟩,rfl,Still.refl _⟩
 case round=>
  obtain⟨k,last,hk,rfl,HL,HR,HS⟩:=hrel
  by_cases hlt:k<xs.length
  ·obtain⟨b,off,x,rfl,hc,HX⟩:=(HS.row H.out).at_ hlt
   by_cases hid:qb2 x=true
   ·have hb:1≤x∧x≤1000:=by simpa[qb2] using hid
    have HI:=hJ hid;clear hid
    rcases k with _|k
    ·have hl0:last=0:=HL.out.1 rfl
     have HL0:=hJ hl0;clear hl0
     simp only[Nat.add_zero] at hc
     go_wp2;go_quiet ((go_at_call 74;exact qey (qix _ _ HI.out)))
     go_wp2;go_roundw
     case rel=>exact⟨1,x,by omega,rfl,⟨fun h=>by omega,fun _=>⟨HX.out,hb.1⟩⟩,by rw[←qiC (last:=last) HX.out (by have:=HL0.out;omega) hb.2];exact HR.out,HS.drewN _⟩
     case measure=>simp[intOf];omega
    ·obtain⟨b',off',y,ha',hc',HY⟩:=(HS.row H.out).at_ (show k<xs.length by omega)
     cases ha'
     have hl1:=HL.out.2 (by omega)
     simp only[Nat.add_sub_cancel,HY.out,Option.some.injEq] at hl1
     obtain⟨rfl,hl1⟩:=hl1
     have e1:((k:Int)+1).toNat=k+1:=by omega
     have e2:(0:Int)≤(k:Int)+1:=by omega
     have e3:(k:Int)+1<xs.length:=by omega
     by_cases hle:x≤y
     ·go_wp2
      go_quiet ((go_at_call 74;exact qey (qix _ _ HI.out)))
      go_wp2;go_ret
      exact⟨qae (by rw[←HR.out,qin HX.out hle]),HS.drewN _⟩
     ·have hle':y<x:=by omega
      clear hle;go_wp2;go_quiet ((go_at_call 74;exact qey (qix _ _ HI.out)))
      go_wp2;go_roundw
      case rel=>exact⟨k+2,x,by omega,by go_num,⟨fun h=>by omega,fun _=>⟨HX.out,hb.1⟩⟩,by rw[←qiC HX.out hle' hb.2];exact HR.out,HS.drewN _⟩
      case measure=>simp[intOf];omega
   ·have hid':qb2 x=false:=by simpa using hid
    have HI:=hJ hid';clear hid' hid
    have HF:Hid (qdw last (xs.drop k)=false):=by
     have hb:x<1∨1000<x:=by have:=HI.out;simp[qb2] at this;omega
     rcases hb with hb|hb
     ·have:0≤last:=by
       rcases Nat.eq_zero_or_pos k with h0|h0
       ·rw[HL.out.1 h0];omega
       ·have:=(HL.out.2 h0).2;omega
      exact qin HX.out (by omega)
     ·exact qlg HX.out hb
    go_wp2;go_quiet ((go_at_call 74;exact qey (qsk _ _ HI.out)))
    go_wp2;go_ret
    exact⟨qae (by rw[←HR.out,HF.out]),HS.drewN _⟩
  ·go_wp2
   go_ret
   exact⟨qae (by rw[←HR.out,qiP hlt]),HS⟩
theorem qfK(A:Option Addr)(c:Nat)(xs:List Int)(w:World)(h:Row w A (qam xs))(hn:xs.length≤9223372036854775807) :
  Calls Tryz.prog 83 #[.slice A xs.length c] w fun e w'=>e=.returned (.bool (qdP xs 16))∧Still w w':=by
 by_cases h1:(1:Int)≤xs.length
 ·by_cases h2:(xs.length:Int)≤16
  ·have HE:=hJ (qia h1 h2)
   go_enter Tryz.func83,Tryz.ntmps83
   exact qmG
  ·have HE:=hJ (qjj (xs:=xs) (m:=16) (by omega))
   exact qnv
 ·have HE:=hJ (qhD (xs:=xs) (m:=16) (by omega))
  exact qnv
theorem qe5(A:Option Addr)(c:Nat)(xs:List Int)(w:World)(h:Row w A (qam xs))(hn:xs.length≤9223372036854775807) :
  Calls Tryz.prog 95 #[.slice A xs.length c] w fun e w'=>e=.returned (.bool (qdP xs 32))∧Still w w':=by
 by_cases h1:(1:Int)≤xs.length
 ·by_cases h2:(xs.length:Int)≤32
  ·have HE:=hJ (qia h1 h2)
   go_enter Tryz.func95,Tryz.ntmps95
   exact qmG
  ·have HE:=hJ (qjj (xs:=xs) (m:=32) (by omega))
   exact qnd
 ·have HE:=hJ (qhD (xs:=xs) (m:=32) (by omega))
  exact qnd
theorem qmj(A:Option Addr)(c:Nat)(xs:List Int)(id:Int)(w:World)(h:Row w A (qam xs))(hn:xs.length≤9223372036854775807) :
  Calls Tryz.prog 168 #[.slice A xs.length c,Jq id] w fun e w'=>e=.returned (Jq (qme xs id))∧w=w':=by
 have H:=hJ h;clear h
 go_enter Tryz.func168,Tryz.ntmps168
 go_wp2;go_loop [5] (fun i=>∃k:Nat,k≤xs.length∧i=Jq k∧Hid (find id (xs.drop k) k=qme xs id)) (fun i=>xs.length - (intOf i).toNat)
 case atStart=>exact⟨0,Nat.zero_le _,rfl,rfl⟩
 case round=>
  obtain⟨k,hk,rfl,HR⟩:=hrel
  by_cases hlt:k<xs.length
  ·obtain⟨b,off,x,rfl,hc,HX⟩:=H.out.at_ hlt
   by_cases he:x=id
   ·have hb:(x == id)=true:=by simp[he]
    have HE:=hJ he;clear he
    go_wp2;go_ret
    exact⟨qea (by rw[←HR.out,qlz HX.out HE.out]),rfl⟩
   ·have hb:(x == id)=false:=by simp[he]
    have HE:=hJ he;clear he
    go_wp2;go_round
    case rel=>exact⟨k+1,by omega,by go_num,by rw[←qju HX.out HE.out];exact HR.out⟩
    case measure=>simp[intOf];omega
  ·go_wp2
   go_ret
   exact⟨qea (by rw[←HR.out,qkP hlt]),rfl⟩
theorem qbx(A:Option Addr)(c:Nat)(xs:List Int)(id:Int)(w:World)(h:Row w A (qam xs))(hn:xs.length≤9223372036854775807) :
  Calls Tryz.prog 116 #[.slice A xs.length c,Jq id] w fun e w'=>e=.returned (.bool (qbr xs id))∧w=w':=by
 go_enter Tryz.func116,Tryz.ntmps116
 go_wp2_with (go_at_call 168;refine(qmj _ _ _ _ _ h hn).mono ?_;rintro e w' ⟨rfl,rfl⟩)
 go_ret
 exact⟨rfl,rfl⟩
theorem qfz(num:Int)(A:Option Addr)(c:Nat)(xs:List Int)(w:World)(h:Row w A (qam xs))(hn:xs.length≤9223372036854775807) :
  Calls Tryz.prog 21 #[.agg #[Jq num,.slice A xs.length c]] w fun e w'=>e=.returned (.bool (qan num xs))∧Ext w w':=by
 by_cases h1:0≤num
 ·by_cases h2:num≤1099511627776
  ·have HE:=hJ (qfC (xs:=xs) h1 h2)
   have H:=hJ h;clear h
   go_enter Tryz.func21,Tryz.ntmps21
   go_wp2_with (go_at_call 83;refine(qfK _ _ _ _ (H.out.ext ((Below.refl _ _).alloc (Nat.le_refl _) _)) hn).mono ?_;rintro e w' ⟨rfl,hs⟩)
   go_ret
   exact⟨qae HE.out.symm,Ext.trans ((Below.refl _ _).alloc (Nat.le_refl _) _) hs.ext⟩
  ·have HE:=hJ (qhE (n:=num) (xs:=xs) (by omega))
   exact qnE
 ·have HE:=hJ (qhU (n:=num) (xs:=xs) (by omega))
  exact qnE
theorem qhZ(A A':Option Addr)(c c':Nat)(xs ys:List Int)(b:Bool)(w:World)(h:Row w A (qam xs))(h':Row w A' (qam ys))(hn:xs.length≤1000000)(hn':ys.length≤9223372036854775807) :
  Calls Tryz.prog 162 #[.slice A xs.length c,.slice A' ys.length c',.bool b] w (GivesI w (qbU xs ys b)):=by
 have H:=hJ h;clear h
 have H':=hJ h';clear h'
 go_enter Tryz.func162,Tryz.ntmps162
 go_wp2;go_loopw [7,8] (fun v i wr=>∃k:Nat,k≤xs.length∧i=Jq k∧Own wr w.heap.size 3 v (qam (filt (fun x=>qbr ys x == b) xs k))∧Ext w wr) (fun _ i _=>xs.length - (intOf i).toNat)
 case atStart=>exact⟨0,Nat.zero_le _,rfl,Own.nil _ _ _,Below.refl _ _⟩
 case round=>
  obtain⟨k,hk,rfl,ho,hx⟩:=hrel
  by_cases hlt:k<xs.length
  ·obtain⟨bk,off,x,rfl,hc,HX⟩:=(H.out.ext hx).at_ hlt
   have hr':=hJ (H'.out.ext hx)
   have hfl:=qip (fun x=>qbr ys x == b) xs k
   by_cases hp:(qbr ys x == b)=true
   ·go_wp2_with (first
     | (go_at_call 116;refine(qbx _ _ _ _ _ hr'.out hn').mono ?_;rintro e w' ⟨rfl,rfl⟩)
     | (at_builtin;refine qbF rfl _ _ rfl wr w.heap.size _ (filt (fun x=>qbr ys x == b) xs k) (by rfl) x (by rfl) ho (by omega) hx.size ?_;intro v' w1 ho1 hg1 hs1))
    go_roundw
    case rel=>exact⟨k+1,by omega,by go_num,by rw[qjY HX.out hp];exact ho1,hg1.below hx hx.size (fun q hq=>(ho.lt q hq).1)⟩
    case measure=>simp[intOf];omega
   ·have hp':(qbr ys x == b)=false:=by simpa using hp
    clear hp;go_wp2_with (first
     | (go_at_call 116;refine(qbx _ _ _ _ _ hr'.out hn').mono ?_;rintro e w' ⟨rfl,rfl⟩))
    go_roundw
    case rel=>exact⟨k+1,by omega,by go_num,by rw[qiF HX.out hp'];exact ho,hx⟩
    case measure=>simp[intOf];omega
  ·go_wp2
   go_ret
   exact qbj (by rw[qid hlt] at ho;exact ho) hx
theorem qg6(A:Option Addr)(c:Nat)(xs:List Int)(id:Int)(w:World)(h:Row w A (qam xs))(hn:xs.length≤100000) :
  Calls Tryz.prog 98 #[.slice A xs.length c,Jq id] w (GivesI w (qbZ xs id)):=by
 have H:=hJ h;clear h
 go_enter Tryz.func98,Tryz.ntmps98
 go_wp2;go_loopw [5,6,7] (fun v p i wr=>∃(k:Nat) (put:Bool),k≤xs.length∧p=.bool put∧i=Jq k∧Hid ((qbN id xs k).2=put)∧Own wr w.heap.size 3 v (qam (qbN id xs k).1)∧Ext w wr) (fun _ _ i _=>xs.length - (intOf i).toNat)
 case atStart=>exact⟨0,false,Nat.zero_le _,rfl,rfl,rfl,Own.nil _ _ _,Below.refl _ _⟩
 case round=>
  obtain⟨k,put,hk,rfl,rfl,HP,ho,hx⟩:=hrel
  have hfl:=qn7 id xs k
  by_cases hlt:k<xs.length
  ·obtain⟨bk,off,x,rfl,hc,HX⟩:=(H.out.ext hx).at_ hlt
   cases put with
   | false=>
    by_cases hp:id<x
    ·go_wp2_with (first
      | (at_builtin;refine qbF rfl (.tmp 24) (.tmp 26) rfl wr w.heap.size _ (qbN id xs k).1 (by rfl) id (by rfl) ho (by omega) hx.size ?_;intro v1 w1 ho1 hg1 hs1;have hx1:=hg1.below hx hx.size (fun q hq=>(ho.lt q hq).1);have hc1:=(H.out.ext hx1).cell HX.out)
      | (at_builtin;refine qbF rfl (.tmp 28) (.tmp 33) rfl w1 w.heap.size _ ((qbN id xs k).1++[id]) (by rfl) x (by rfl) ho1 (by simp;omega) hx1.size ?_;intro v2 w2 ho2 hg2 hs2))
     have R:=qoG HX.out HP.out hp
     go_roundw
     case rel=>exact⟨k+1,true,by omega,rfl,by go_num,R.2,by rw[R.1];exact ho2,hg2.below hx1 hx1.size (fun q hq=>(ho1.lt q hq).1)⟩
     case measure=>simp[intOf];omega
    ·have hp':x≤id:=by omega
     clear hp;go_wp2_with (first
      | (at_builtin;refine qbF rfl (.tmp 28) (.tmp 33) rfl wr w.heap.size _ (qbN id xs k).1 (by rfl) x (by rfl) ho (by omega) hx.size ?_;intro v2 w2 ho2 hg2 hs2))
     have R:=qnR HX.out HP.out hp'
     go_roundw
     case rel=>exact⟨k+1,false,by omega,rfl,by go_num,R.2,by rw[R.1];exact ho2,hg2.below hx hx.size (fun q hq=>(ho.lt q hq).1)⟩
     case measure=>simp[intOf];omega
   | true=>
    go_wp2_with (first
     | (at_builtin;refine qbF rfl (.tmp 28) (.tmp 33) rfl wr w.heap.size _ (qbN id xs k).1 (by rfl) x (by rfl) ho (by omega) hx.size ?_;intro v2 w2 ho2 hg2 hs2))
    have R:=qp9 HX.out HP.out
    go_roundw
    case rel=>exact⟨k+1,true,by omega,rfl,by go_num,R.2,by rw[R.1];exact ho2,hg2.below hx hx.size (fun q hq=>(ho.lt q hq).1)⟩
    case measure=>simp[intOf];omega
  ·cases put with
   | false=>
    go_wp2_with (first
     | (at_builtin;refine qbF rfl (.tmp 37) (.tmp 39) rfl wr w.heap.size _ (qbN id xs k).1 (by rfl) id (by rfl) ho (by omega) hx.size ?_;intro v2 w2 ho2 hg2 hs2))
    go_ret
    exact qbj (by rw[qlR hlt hk HP.out];exact ho2) (hg2.below hx hx.size (fun q hq=>(ho.lt q hq).1))
   | true=>
    go_wp2;go_ret
    exact qbj (by rw[qj1 hlt hk HP.out];exact ho) hx
theorem qjI {P : Prop} (h : P := by
 go_enter Tryz.func169,Tryz.ntmps169
 go_wp2;go_ret
 exact⟨qea HE.out.symm,rfl⟩) : P := h
theorem qoj {P : Prop} (h : P := by
 go_wp2_with (go_at_call 192;refine(qgD _ _ _ _ _ h hn).mono ?_;rintro e w' ⟨rfl,rfl⟩)
 go_ret
 exact⟨rfl,rfl⟩) : P := h
theorem qmH {P : Prop} (h : P := by
 go_enter Tryz.func84,Tryz.ntmps84
 go_wp2;go_ret
 exact⟨qae HE.out.symm,(Below.refl _ _).alloc (Nat.le_refl _) _⟩) : P := h
theorem qoF(A:Option Addr)(c:Nat)(xs:List Int)(id:Int)(w:World)(h:Row w A (qam xs))(hn:xs.length≤9223372036854775807) :
  Calls Tryz.prog 156 #[.slice A xs.length c,Jq id] w fun e w'=>e=.returned (Jq (qme xs id))∧w=w':=by
 have H:=hJ h;clear h
 go_enter Tryz.func156,Tryz.ntmps156
 go_wp2;go_loop [5,6,9] (fun _ _ i=>∃k:Nat,k≤xs.length∧i=Jq k∧Hid (find id (xs.drop k) k=qme xs id)) (fun _ _ i=>xs.length - (intOf i).toNat)
 case atStart=>exact⟨0,Nat.zero_le _,rfl,rfl⟩
 case round=>
  obtain⟨k,hk,rfl,HR⟩:=hrel
  by_cases hlt:k<xs.length
  ·obtain⟨b,off,x,rfl,hc,HX⟩:=H.out.at_ hlt
   by_cases he:x=id
   ·have hb:(x == id)=true:=by simp[he]
    have HE:=hJ he;clear he
    go_wp2;go_ret
    exact⟨qea (by rw[←HR.out,qlz HX.out HE.out]),rfl⟩
   ·have hb:(x == id)=false:=by simp[he]
    have HE:=hJ he;clear he
    go_wp2;go_round
    case rel=>exact⟨k+1,by omega,by go_num,by rw[←qju HX.out HE.out];exact HR.out⟩
    case measure=>simp[intOf];omega
  ·go_wp2
   go_ret
   exact⟨qea (by rw[←HR.out,qkP hlt]),rfl⟩
theorem qgD(A:Option Addr)(c:Nat)(xs:List Int)(most:Int)(w:World)(h:Row w A (qam xs))(hn:xs.length≤9223372036854775807) :
  Calls Tryz.prog 192 #[.slice A xs.length c,Jq most] w fun e w'=>e=.returned (.bool (qdP xs most))∧w=w':=by
 have H:=hJ h;clear h
 by_cases h1:(xs.length:Int)<1
 ·have HE:Hid (qdP xs most=false):=by unfold Hid qdP;rw[if_pos (.inl h1)]
  have hd:decide ((xs.length:Int)<1)=true:=by simpa using h1
  go_enter Tryz.func192,Tryz.ntmps192
  go_wp2;go_ret
  exact⟨qae HE.out.symm,rfl⟩
 ·have h1':(1:Int)≤xs.length:=by omega
  by_cases h2:most<(xs.length:Int)
  ·have HE:Hid (qdP xs most=false):=by unfold Hid qdP;rw[if_pos (.inr h2)]
   go_enter Tryz.func192,Tryz.ntmps192
   go_wp2;go_ret
   exact⟨qae HE.out.symm,rfl⟩
  ·have HE:Hid (qdP xs most=qdw 0 xs):=by unfold Hid qdP;rw[if_neg (by omega)]
   have h2':(xs.length:Int)≤most:=by omega
   clear h1 h2;go_enter Tryz.func192,Tryz.ntmps192
   go_wp2;go_loop [5,7,19] (fun l _ i=>∃(k:Nat) (last:Int),k≤xs.length∧l=Jq last∧i=Jq k∧Hid (qdw last (xs.drop k)=qdw 0 xs)) (fun _ _ i=>xs.length - (intOf i).toNat)
   case atStart=>exact⟨0,0,Nat.zero_le _,rfl,rfl,rfl⟩
   case round=>
    obtain⟨k,last,hk,rfl,rfl,HR⟩:=hrel
    by_cases hlt:k<xs.length
    ·obtain⟨b,off,x,rfl,hc,HX⟩:=H.out.at_ hlt
     by_cases ha:x≤last
     ·go_wp2
      go_ret
      exact⟨qae (by rw[HE.out,←HR.out,qin HX.out ha]),rfl⟩
     ·by_cases hb:1000<x
      ·go_wp2
       go_ret
       exact⟨qae (by rw[HE.out,←HR.out,qlg HX.out hb]),rfl⟩
      ·have ha':last<x:=by omega
       have hb':x≤1000:=by omega
       clear ha hb;go_wp2;go_round
       case rel=>exact⟨k+1,x,by omega,rfl,by go_num,by rw[←qiC HX.out ha' hb'];exact HR.out⟩
       case measure=>simp[intOf];omega
    ·go_wp2
     go_ret
     exact⟨qae (by rw[HE.out,←HR.out,qiP hlt]),rfl⟩
theorem qd4(A:Option Addr)(c:Nat)(xs:List Int)(w:World)(h:Row w A (qam xs))(hn:xs.length≤9223372036854775807) :
  Calls Tryz.prog 155 #[.slice A xs.length c] w fun e w'=>e=.returned (.bool (qdP xs 16))∧w=w':=by
 go_enter Tryz.func155,Tryz.ntmps155
 exact qoj
theorem qgc(A:Option Addr)(c:Nat)(xs:List Int)(w:World)(h:Row w A (qam xs))(hn:xs.length≤9223372036854775807) :
  Calls Tryz.prog 205 #[.slice A xs.length c] w fun e w'=>e=.returned (.bool (qdP xs 32))∧w=w':=by
 go_enter Tryz.func205,Tryz.ntmps205
 exact qoj
theorem qbH(A:Option Addr)(c:Nat)(xs:List Int)(id:Int)(w:World)(h:Row w A (qam xs))(hn:xs.length≤9223372036854775807) :
  Calls Tryz.prog 85 #[.slice A xs.length c,Jq id] w fun e w'=>e=.returned (.bool (qbr xs id))∧w=w':=by
 go_enter Tryz.func85,Tryz.ntmps85
 go_wp2_with (go_at_call 156;refine(qoF _ _ _ _ _ h hn).mono ?_;rintro e w' ⟨rfl,rfl⟩)
 go_ret
 exact⟨rfl,rfl⟩
theorem qf8(n:Int)(w:World) :
  Calls Tryz.prog 169 #[Jq n] w fun e w'=>e=.returned (Jq (qgI n))∧w=w':=by
 by_cases h1:1≤n
 ·by_cases h2:n≤16
  ·have HE:Hid (qgI n=n / 2+1):=if_pos ⟨h1,h2⟩
   exact qjI
  ·have HE:Hid (qgI n=0):=if_neg (by omega)
   exact qjI
 ·have HE:Hid (qgI n=0):=if_neg (by omega)
  have hd:decide (1≤n)=false:=by simpa using h1
  exact qjI
theorem qcZ(num:Int)(A:Option Addr)(c:Nat)(xs:List Int)(w:World)(h:Row w A (qam xs))(hn:xs.length≤9223372036854775807) :
  Calls Tryz.prog 84 #[.agg #[Jq num,.slice A xs.length c]] w fun e w'=>e=.returned (.bool (qan num xs))∧Ext w w':=by
 by_cases h1:0≤num
 ·by_cases h2:num≤1099511627776
  ·have HE:=hJ (qfC (xs:=xs) h1 h2)
   have H:=hJ h;clear h
   go_enter Tryz.func84,Tryz.ntmps84
   go_wp2_with (go_at_call 155;refine(qd4 _ _ _ _ (H.out.ext ((Below.refl _ _).alloc (Nat.le_refl _) _)) hn).mono ?_;rintro e w' ⟨rfl,hs⟩)
   go_ret
   exact⟨qae HE.out.symm,Ext.trans ((Below.refl _ _).alloc (Nat.le_refl _) _) (by rw[hs];exact Below.refl _ _)⟩
  ·have HE:=hJ (qhE (n:=num) (xs:=xs) (by omega))
   exact qmH
 ·have HE:=hJ (qhU (n:=num) (xs:=xs) (by omega))
  exact qmH
theorem qgf(A:Option Addr)(c:Nat)(xs:List Int)(w:World)(h:Row w A (qam xs))(hn:xs.length≤9223372036854775807)(hv:qdP xs 32=true) :
  Calls Tryz.prog 205 #[.slice A xs.length c] w fun e w'=>e=.returned (.bool true)∧w=w':=by
 rw[←hv];exact qgc A c xs w h hn
theorem qgv(A:Option Addr)(c:Nat)(xs:List Int)(w:World)(h:Row w A (qam xs))(hn:xs.length≤9223372036854775807)(hv:qdP xs 32=false) :
  Calls Tryz.prog 205 #[.slice A xs.length c] w fun e w'=>e=.returned (.bool false)∧w=w':=by
 rw[←hv];exact qgc A c xs w h hn
theorem qcq(num:Int)(A:Option Addr)(c:Nat)(xs:List Int)(w:World)(h:Row w A (qam xs))(hn:xs.length≤9223372036854775807)(hv:qan num xs=true) :
  Calls Tryz.prog 84 #[.agg #[Jq num,.slice A xs.length c]] w fun e w'=>e=.returned (.bool true)∧Ext w w':=by
 rw[←hv];exact qcZ num A c xs w h hn
theorem qfn(num:Int)(A:Option Addr)(c:Nat)(xs:List Int)(w:World)(h:Row w A (qam xs))(hn:xs.length≤9223372036854775807)(hv:qan num xs=false) :
  Calls Tryz.prog 84 #[.agg #[Jq num,.slice A xs.length c]] w fun e w'=>e=.returned (.bool false)∧Ext w w':=by
 rw[←hv];exact qcZ num A c xs w h hn
theorem qjs(A:Option Addr)(c:Nat)(xs:List Int)(id:Int)(w:World)(h:Row w A (qam xs))(hn:xs.length≤9223372036854775807)(hv:qbr xs id=true) :
  Calls Tryz.prog 85 #[.slice A xs.length c,Jq id] w fun e w'=>e=.returned (.bool true)∧w=w':=by
 rw[←hv];exact qbH A c xs id w h hn
theorem qjV(A:Option Addr)(c:Nat)(xs:List Int)(id:Int)(w:World)(h:Row w A (qam xs))(hn:xs.length≤9223372036854775807)(hv:qbr xs id=false) :
  Calls Tryz.prog 85 #[.slice A xs.length c,Jq id] w fun e w'=>e=.returned (.bool false)∧w=w':=by
 rw[←hv];exact qbH A c xs id w h hn
theorem qe4(num:Int)(A Ac Al Ao:Option Addr)(c cc cl co:Nat)(xs cut l other:List Int)(w:World)(hx:Row w A (qam xs))(hc:Row w Ac (qam cut))(hl:Row w Al (qam l))(ho:Row w Ao (qam other))
  (hn:xs.length≤9223372036854775807) (hnc:cut.length≤9223372036854775807) (hnl:l.length≤1000) (hno:other.length≤9223372036854775807) (hv:qan num xs=true) (hcv:qdP cut 32=true) :
  Calls Tryz.prog 209 #[.agg #[Jq num,.slice A xs.length c],.slice Ac cut.length cc,.slice Al l.length cl,.slice Ao other.length co] w (qkF w (qbU l other true) (qbU l other false)):=by
 have HX:=hJ hx;have HC:=hJ hc;have HL:=hJ hl;have HO:=hJ ho;have HV:=hJ hv;have HCV:=hJ hcv
 clear hx hc hl ho hv hcv;have H0:=hJ (Ext.new w (.cells #[Jq num,.slice A xs.length c] 46))
 go_enter Tryz.func209,Tryz.ntmps209
 go_wp2_with (first
  | (go_at_call 84;refine(qcq _ _ _ _ _ (HX.out.ext H0.out) hn HV.out).mono ?_;rintro e w1 ⟨rfl,hx1⟩;have H1:=hJ (Ext.trans H0.out hx1))
  | (go_at_call 205;refine(qgf _ _ _ _ (HC.out.ext H1.out) hnc HCV.out).mono ?_;rintro e w2 ⟨rfl,rfl⟩))
 go_loopw [8,9,11,22] (fun v u _ i wr=>∃k:Nat,k≤l.length∧i=Jq k∧Own wr w.heap.size 3 v (qam (filt (fun x=>qbr other x == true) l k))∧Own wr w.heap.size 3 u (qam (filt (fun x=>qbr other x == false) l k))∧Apart v u∧Ext w wr) (fun _ _ _ i _=>l.length - (intOf i).toNat)
 case atStart=>exact⟨0,Nat.zero_le _,rfl,Own.nil _ _ _,Own.nil _ _ _,Apart.nil _,H1.out⟩
 case round=>
  obtain⟨k,hk,rfl,hv,hu,hap,hxr⟩:=hrel
  by_cases hlt:k<l.length
  ·obtain⟨bk,off,x,rfl,hc,HXx⟩:=(HL.out.ext hxr).at_ hlt
   have HO1:=hJ (HO.out.ext hxr)
   have hf1:=qip (fun x=>qbr other x == true) l k
   have hf2:=qip (fun x=>qbr other x == false) l k
   by_cases hp:qbr other x=true
   ·have HP:=hJ hp;clear hp
    go_wp2_with (first
     | (go_at_call 85;refine(qjs _ _ _ _ _ HO1.out hno HP.out).mono ?_;rintro e w' ⟨rfl,rfl⟩)
     | (at_builtin;refine qbF rfl (.tmp 29) (.tmp 31) rfl wr w.heap.size _ (filt (fun x=>qbr other x == true) l k) (by rfl) x (by rfl) hv (by omega) hxr.size ?_;intro v1 w1 ho1 hg1 hs1))
    go_roundw
    case rel=>exact⟨k+1,by omega,by go_num,by rw[qjY HXx.out (by simp[HP.out])];exact ho1,by rw[qiF HXx.out (by simp[HP.out])];exact hu.kept hg1 hap.symm,hap.stems hs1 hu,hg1.below hxr hxr.size (fun q hq=>(hv.lt q hq).1)⟩
    case measure=>simp[intOf];omega
   ·have hp':qbr other x=false:=by simpa using hp
    have HP:=hJ hp';clear hp hp'
    go_wp2_with (first
     | (go_at_call 85;refine(qjV _ _ _ _ _ HO1.out hno HP.out).mono ?_;rintro e w' ⟨rfl,rfl⟩)
     | (at_builtin;refine qbF rfl (.tmp 33) (.tmp 35) rfl wr w.heap.size _ (filt (fun x=>qbr other x == false) l k) (by rfl) x (by rfl) hu (by omega) hxr.size ?_;intro v1 w1 ho1 hg1 hs1))
    go_roundw
    case rel=>exact⟨k+1,by omega,by go_num,by rw[qiF HXx.out (by simp[HP.out])];exact hv.kept hg1 hap,by rw[qjY HXx.out (by simp[HP.out])];exact ho1,(hap.symm.stems hs1 hv).symm,hg1.below hxr hxr.size (fun q hq=>(hu.lt q hq).1)⟩
    case measure=>simp[intOf];omega
  ·go_wp2
   go_ret2
   exact qfG (by rw[qid hlt] at hv;exact hv) (by rw[qid hlt] at hu;exact hu) hxr
theorem qmI {P : Prop} (h : P := by
 go_wp2_with (first
  | (go_at_call 209;refine(qpE _ _ _ _ _ _ _ _ _ _ _ _ _ _ HX.out HC.out hn hnc HV.out).mono ?_;rintro e w1 ⟨A1,c1,A2,c2,rfl,ho1,ho2,hx1⟩))
 go_ret
 exact(qbj (by rw[HE.out];exact ho2) hx1).from H0.out) : P := h
theorem qpE(num:Int)(A Ac Al Ao:Option Addr)(c cc nl cl no co:Nat)(xs cut:List Int)(w:World)(hx:Row w A (qam xs))(hc:Row w Ac (qam cut))
  (hn:xs.length≤9223372036854775807) (hnc:cut.length≤9223372036854775807) (hv:qb6 num xs cut=false) :
  Calls Tryz.prog 209 #[.agg #[Jq num,.slice A xs.length c],.slice Ac cut.length cc,.slice Al nl cl,.slice Ao no co] w (qkF w [] []):=by
 have HX:=hJ hx;have HC:=hJ hc
 clear hx hc;have H0:=hJ (Ext.new w (.cells #[Jq num,.slice A xs.length c] 46))
 rcases qeh hv with hv|⟨hv,hcv⟩
 ·have HV:=hJ hv;clear hv
  go_enter Tryz.func209,Tryz.ntmps209
  go_wp2_with (first
   | (go_at_call 84;refine(qfn _ _ _ _ _ (HX.out.ext H0.out) hn HV.out).mono ?_;rintro e w1 ⟨rfl,hx1⟩;have H1:=hJ (Ext.trans H0.out hx1)))
  go_ret2
  exact qfG (Own.nil _ _ _) (Own.nil _ _ _) H1.out
 ·have HV:=hJ hv;have HCV:=hJ hcv;clear hv hcv
  go_enter Tryz.func209,Tryz.ntmps209
  go_wp2_with (first
   | (go_at_call 84;refine(qcq _ _ _ _ _ (HX.out.ext H0.out) hn HV.out).mono ?_;rintro e w1 ⟨rfl,hx1⟩;have H1:=hJ (Ext.trans H0.out hx1))
   | (go_at_call 205;refine(qgv _ _ _ _ (HC.out.ext H1.out) hnc HCV.out).mono ?_;rintro e w2 ⟨rfl,rfl⟩))
  go_ret2
  exact qfG (Own.nil _ _ _) (Own.nil _ _ _) H1.out
theorem GivesI.from{a w w':World}{out:List Int}{en:Ending}(e:Ext a w)(h:GivesI w out en w'):GivesI a out en w':=by
 obtain⟨A,c,h1,h2,h3,h4,h5⟩:=h
 refine⟨A,c,h1,h2,h3,?_,e.trans h5⟩
 obtain⟨g1,g2⟩:=h4
 refine⟨g1,?_⟩
 rcases g2 with g2|⟨k,cap,cur,g3,g4,r⟩
 ·exact .inl g2
 ·exact .inr ⟨k,cap,cur,g3,Nat.le_trans e.size g4,r⟩
theorem qku(num:Int)(A Ac:Option Addr)(c cc:Nat)(xs cut:List Int)(w:World)(hx:Row w A (qam xs))(hc:Row w Ac (qam cut))
  (hn:xs.length≤9223372036854775807) (hnc:cut.length≤9223372036854775807) :
  Calls Tryz.prog 207 #[.agg #[Jq num,.slice A xs.length c],.slice Ac cut.length cc] w (GivesI w (qaT num xs cut)):=by
 have H0:=hJ (Ext.new w (.cells #[Jq num,.slice A xs.length c] 46))
 have HX:=hJ (hx.ext H0.out);have HC:=hJ (hc.ext H0.out)
 clear hx hc;by_cases hv:qb6 num xs cut=true
 ·have HE:Hid (qaT num xs cut=qbU cut xs false):=if_pos hv
  have hb:cut.length≤1000:=by have:=(qds (m:=32) (qa9.1 hv).2).2;omega
  have HV:=hJ (qa9.1 hv)
  clear hv;go_enter Tryz.func207,Tryz.ntmps207
  go_wp2_with (first
   | (go_at_call 209;refine(qe4 _ _ _ _ _ _ _ _ _ _ _ _ _ _ HX.out HC.out HC.out HX.out hn hnc hb hn HV.out.1 HV.out.2).mono ?_;rintro e w1 ⟨A1,c1,A2,c2,rfl,ho1,ho2,hx1⟩))
  go_ret
  exact(qbj (by rw[HE.out];exact ho2) hx1).from H0.out
 ·have hv':qb6 num xs cut=false:=by simpa using hv
  have HE:Hid (qaT num xs cut=[]):=if_neg hv
  have HV:=hJ hv'
  clear hv hv';go_enter Tryz.func207,Tryz.ntmps207
  exact qmI
theorem qh4(num:Int)(A Ac:Option Addr)(c cc:Nat)(xs cut:List Int)(w:World)(hx:Row w A (qam xs))(hc:Row w Ac (qam cut))
  (hn:xs.length≤9223372036854775807) (hnc:cut.length≤9223372036854775807) :
  Calls Tryz.prog 206 #[.agg #[Jq num,.slice A xs.length c],.slice Ac cut.length cc] w (GivesI w (qar num xs cut)):=by
 have H0:=hJ (Ext.new w (.cells #[Jq num,.slice A xs.length c] 46))
 have HX:=hJ (hx.ext H0.out);have HC:=hJ (hc.ext H0.out)
 clear hx hc;by_cases hv:qb6 num xs cut=true
 ·have HE:Hid (qar num xs cut=qbU xs cut false):=if_pos hv
  have hb:xs.length≤1000:=by have:=(qaH (qa9.1 hv).1).2;omega
  have HV:=hJ (qa9.1 hv)
  clear hv;go_enter Tryz.func206,Tryz.ntmps206
  go_wp2_with (first
   | (go_at_call 209;refine(qe4 _ _ _ _ _ _ _ _ _ _ _ _ _ _ HX.out HC.out HX.out HC.out hn hnc hb hnc HV.out.1 HV.out.2).mono ?_;rintro e w1 ⟨A1,c1,A2,c2,rfl,ho1,ho2,hx1⟩))
  go_ret
  exact(qbj (by rw[HE.out];exact ho2) hx1).from H0.out
 ·have hv':qb6 num xs cut=false:=by simpa using hv
  have HE:Hid (qar num xs cut=[]):=if_neg hv
  have HV:=hJ hv'
  clear hv hv';go_enter Tryz.func206,Tryz.ntmps206
  exact qmI
theorem qqS {P : Prop} (h : P := by
 clear h2;go_wp2;exact bodyPost_ret (v:=.tuple #[.agg #[Jq 0,Zq],Jq 5]) (by simp[results,Tryz.results194,go_sem,q2,q3]) rfl (qdU HF.out (Own.nil _ _ _) ((HE.out.set (by simp) _).set (by simp) _))) : P := h
theorem qqD {P : Prop} (h : P := by
 exact bodyPost_ret (v:=.tuple #[.agg #[Jq 0,Zq],Jq 1]) (by simp[results,Tryz.results194,go_sem,q2,q3]) rfl (qdU HE.out (Own.nil _ _ _) ((H1.out.set (by simp) _).set (by simp) _))) : P := h
def qbS(w:World)(num:Int)(s:Value):World:=(w.alloc (.cells #[.int .i64 num,s] 46)).alloc (.cells #[.int .i64 0,.slice none 0 0] 46)
theorem qaG{w w1:World}{num:Int}{s:Value}(h:Ext (qbS w num s) w1) :
  w1.cell? (Pq w.heap.size 0)=some (Jq num)∧w1.cell? (Pq w.heap.size 1)=some s∧
  w1.cell? (Pq (w.heap.size+1) 0)=some (Jq 0)∧w1.cell? (Pq (w.heap.size+1) 1)=some Zq∧
  w1.frozen? (Pq (w.heap.size+1) 0)=false∧w1.frozen? (Pq (w.heap.size+1) 1)=false∧w.heap.size+2≤w1.heap.size:=by
 have hs:=h.size
 simp only[qbS,World.size_alloc] at hs
 refine⟨?_,?_,?_,?_,?_,?_,by omega⟩
 ·rw[h.cell (p:=(Pw w 0)) (by simp[qbS];omega)];simp[qbS]
 ·rw[h.cell (p:=(Pw w 1)) (by simp[qbS];omega)];simp[qbS]
 ·rw[h.cell (p:=(Pv w 0)) (by simp[qbS])];simp[qbS]
 ·rw[h.cell (p:=(Pv w 1)) (by simp[qbS])];simp[qbS]
 ·rw[h.frozen (p:=(Pv w 0)) (by simp[qbS])];simp[qbS]
 ·rw[h.frozen (p:=(Pv w 1)) (by simp[qbS])];simp[qbS]
theorem qd0(w:World)(num:Int)(s:Value):Ext w (qbS w num s):=(Ext.new w _).alloc _
theorem qq8(num:Int)(A Ac:Option Addr)(c cc:Nat)(xs cut:List Int)(w:World)(hx:Row w A (qam xs))(hc:Row w Ac (qam cut))
  (hn:xs.length≤9223372036854775807) (hnc:cut.length≤9223372036854775807) (hv:qb6 num xs cut=false) :
  Calls Tryz.prog 194 #[.agg #[Jq num,.slice A xs.length c],.slice Ac cut.length cc] w (qgB w (qcr num xs cut)):=by
 have H0:=hJ (qd0 w num (.slice A xs.length c))
 have HX:=hJ (hx.ext H0.out);have HC:=hJ (hc.ext H0.out)
 clear hx hc;have HE:Hid (qcr num xs cut=(0,[],1)):=if_pos hv
 rcases qeh hv with hv|⟨hv,hcv⟩
 ·have HV:=hJ hv;clear hv
  go_enter Tryz.func194,Tryz.ntmps194
  go_wp2_with (first
   | (go_at_call 84;refine(qfn _ _ _ _ _ HX.out hn HV.out).mono ?_;rintro e w1 ⟨rfl,hx1⟩;obtain⟨q0,q1,q2,q3,q4,q5,q6⟩:=qaG hx1;have H1:=hJ (Ext.trans H0.out hx1);clear hx1))
  exact qqD
 ·have HV:=hJ hv;have HCV:=hJ hcv;clear hv hcv
  go_enter Tryz.func194,Tryz.ntmps194
  go_wp2_with (first
   | (go_at_call 84;refine(qcq _ _ _ _ _ HX.out hn HV.out).mono ?_;rintro e w1 ⟨rfl,hx1⟩;obtain⟨q0,q1,q2,q3,q4,q5,q6⟩:=qaG hx1;have HC1:=hJ (HC.out.ext hx1);have H1:=hJ (Ext.trans H0.out hx1);clear hx1)
   | (go_at_call 205;refine(qgv _ _ _ _ HC1.out hnc HCV.out).mono ?_;rintro e w2 ⟨rfl,rfl⟩))
  exact qqD
set_option maxHeartbeats 1000000 in
theorem qpa(num:Int)(A Ac:Option Addr)(c cc:Nat)(xs cut:List Int)(w:World)(hx:Row w A (qam xs))(hc:Row w Ac (qam cut))
  (hn:xs.length≤9223372036854775807) (hnc:cut.length≤9223372036854775807) (hv:qb6 num xs cut=true) :
  Calls Tryz.prog 194 #[.agg #[Jq num,.slice A xs.length c],.slice Ac cut.length cc] w (qgB w (qcr num xs cut)):=by
 have H0:=hJ (qd0 w num (.slice A xs.length c))
 have HX:=hJ (hx.ext H0.out);have HC:=hJ (hc.ext H0.out)
 clear hx hc;have HV:=hJ (qa9.1 hv)
 have HO:=hJ hv
 have hl1:xs.length≤16:=(qaH HV.out.1).2
 have hl2:cut.length≤32:=(qds (m:=32) HV.out.2).2
 clear hv;go_enter Tryz.func194,Tryz.ntmps194
 go_wp2_with (first
  | (go_at_call 84;refine(qcq _ _ _ _ _ HX.out hn HV.out.1).mono ?_;rintro e w1 ⟨rfl,hx1⟩;obtain⟨q0,q1,q2,q3,q4,q5,q6⟩:=qaG hx1;have HX1:=hJ (HX.out.ext hx1);have HC1:=hJ (HC.out.ext hx1);have H1:=hJ hx1;clear hx1)
  | (go_at_call 205;refine(qgf _ _ _ _ HC1.out hnc HV.out.2).mono ?_;rintro e w2 ⟨rfl,rfl⟩))
 go_region_held3 (fun w'=>w'.cell? (Pw w 0)=some (Jq num)∧w'.cell? (Pw w 1)=some (.slice A xs.length c))
  (first|go_keep|(go_split_ands;refine⟨?_,?_⟩<;>first|(rw[hx3.cell (by simp;omega)];assumption)|(rw[hx2.cell (by simp;omega)];assumption)))
  (first
   | (go_at_call 206;refine(qh4 _ _ _ _ _ _ _ _ (by exact HX1.out) (by exact HC1.out) hn hnc).mono ?_;rintro e w2 ⟨A2,c2,rfl,hc2,hm2,ho2,hx2⟩;have s2:w1.heap.size≤w2.heap.size:=hx2.size;have HX2:=hJ (Row.ext (w:=w1.drew) HX1.out hx2);have HC2:=hJ (Row.ext (w:=w1.drew) HC1.out hx2))
   | (go_at_call 207;refine(qku _ _ _ _ _ _ _ _ (by exact HX2.out) (by exact HC2.out) hn hnc).mono ?_;rintro e w3 ⟨A3,c3,rfl,hc3,hm3,ho3,hx3⟩;have s3:=hx3.size))
 have H3:=hJ (((Ext.drew H1.out).trans hx2).trans hx3)
 clear q0 q1 q2 q3 q4 q5 q6;obtain⟨q0,q1,q2,q3,q4,q5,q6⟩:=qaG H3.out
 have HS:=hJ (ho2.ext hx3)
 have HE:=hJ (Ext.trans H0.out H3.out)
 clear hx2 hx3 HX2 HC2 HX1 HC1 H1;have hsl:=qk3 HO.out
 have hjl:=qkO HO.out
 have hnum:=qa5 HV.out.1
 by_cases h1:2*(qar num xs cut).length≤xs.length
 ·have HF:=hJ (qg3 HO.out h1)
  go_wp2;exact bodyPost_ret (v:=.tuple #[.agg #[Jq 0,Zq],Jq 9]) (by simp[results,Tryz.results194,go_sem,q2,q3]) rfl (qdU HF.out (Own.nil _ _ _) ((HE.out.set (by simp) _).set (by simp) _))
 ·have h1':xs.length<2*(qar num xs cut).length:=by omega
  have HN1:=hJ h1
  clear h1;by_cases h2:num=1099511627776
  ·have HF:=hJ (qet HO.out HN1.out (.inl h2))
   have h2b:(num == 1099511627776)=true:=by simpa using h2
   exact qqS
  ·have h2b:(num == 1099511627776)=false:=by simpa using h2
   by_cases h3:16<(qar num xs cut).length+(qaT num xs cut).length
   ·have HF:=hJ (qet HO.out HN1.out (.inr h3))
    exact qqS
   ·have HF:=hJ (qh5 HO.out HN1.out (by omega))
    have h3':(qar num xs cut).length+(qaT num xs cut).length≤16:=by omega
    have h2':num<1099511627776:=by omega
    have hw:IntKind.i64.wrap (num+1)=num+1:=IntWalk.i64_in _ (by omega)
    clear h2 h3;go_wp2;go_region_held3 (fun w'=>w'.cell? (Pw w 0)=some (Jq num))
     (first|go_keep)
     (first
      | (go_at_call 208;refine(qi5 _ _ _ _ _ _ _ (by exact HS.out.row) (by exact ho3.row) (by omega) (by omega) (by omega)).mono ?_;rintro e w4 ⟨A4,c4,rfl,hc4,hm4,ho4,hx4⟩;obtain⟨k0,k1,k2,k3,k4,k5,k6⟩:=qaG ((Ext.drew H3.out).trans hx4)))
    go_wp2;have HB:=hJ (Ext.trans HE.out (Ext.trans (Ext.drew (Ext.refl w3)) hx4))
    refine bodyPost_ret (v:=.tuple #[.agg #[Jq (num+1),.slice A4 (qaK (qar num xs cut) (qaT num xs cut)).length c4],Jq 0]) (by simp[results,Tryz.results194,go_sem,k2,k3]) rfl (qdU HF.out ((Own.set (Own.set (ho4.base ?_) ?_ _) ?_ _)) ((HB.out.set (by simp) _).set (by simp) _))
    ·show w.heap.size≤w3.heap.size;omega
    ·intro k hk;have:=(ho4.lt k hk).1;simp only[World.drew] at this;simp;omega
    ·intro k hk;have:=(ho4.lt k hk).1;simp only[World.drew] at this;simp;omega
theorem qbX(a:List Int):qaK a []=a:=by unfold qaK;simp
theorem qdG(a:List Int):qaK [] a=a:=by unfold qaK;simp
theorem qdO{x y:Int}{a b:List Int}(h:x≤y):qaK (x::a) (y::b)=x::qaK a (y::b):=by
 unfold qaK;rw[List.cons_merge_cons_pos _ _ _ (by simp[leB,h])]
theorem qe6{x y:Int}{a b:List Int}(h:y<x):qaK (x::a) (y::b)=y::qaK (x::a) b:=by
 unfold qaK;rw[List.cons_merge_cons_neg _ _ _ (by simp[leB];omega)]
def qlr(id:Int)(s:List Int×Bool):List Int:=if s.2 then s.1 else s.1++[id]
theorem qsi(id:Int)(xs:List Int):∀(o:List Int),
  qlr id (xs.foldl (qb0 id) (o,false))=o++qaK xs [id]∧(xs.foldl (qb0 id) (o,true))=(o++xs,true):=by
 induction xs with
 | nil=>intro o;simp[qdG,qlr]
 | cons x xs ih=>
  intro o
  have e2:qb0 id (o,true) x=(o++[x],true):=by simp[qb0]
  refine⟨?_,?_⟩
  ·rw[List.foldl_cons]
   by_cases h:id<x
   ·have e1:qb0 id (o,false) x=(o++[id]++[x],true):=by simp[qb0,h]
    rw[e1,(ih _).2,qe6 h,qbX];simp[qlr]
   ·have e1:qb0 id (o,false) x=(o++[x],false):=by simp[qb0,h]
    rw[e1,qdO (by omega),(ih (o++[x])).1];simp
  ·rw[List.foldl_cons,e2,(ih _).2];simp
theorem qhN(xs:List Int)(id:Int):qbZ xs id=qaK xs [id]:=by
 have h1:qbZ xs id=qlr id (qbN id xs xs.length):=rfl
 have h2:=(qsi id xs []).1
 rw[h1];unfold qbN;rw[List.take_length,h2];simp
theorem qof(s js:List Int)(j:Int)(h:∀y∈js,j≤y):qaK s (j::js)=qaK (qaK s [j]) js:=by
 have hd:∀l:List Int,qaK (j::l) js=j::qaK l js:=by
  intro l
  cases js with
  | nil=>rw[qbX,qbX]
  | cons y js=>exact qdO (h y (by simp))
 induction s with
 | nil=>rw[qdG,qdG,hd,qdG]
 | cons x s ih=>
  by_cases hx:x≤j
  ·rw[qdO hx,qdO hx,ih]
   cases js with
   | nil=>rw[qbX,qbX]
   | cons y js=>rw[qdO (Int.le_trans hx (h y (by simp)))]
  ·rw[qe6 (by omega),qe6 (by omega),qbX,hd]
def qct(s js:List Int)(k:Nat):List Int:=(js.take k).foldl qbZ s
theorem qeq{s js:List Int}{k:Nat}{x:Int}(h:js[k]?=some x):qct s js (k+1)=qbZ (qct s js k) x:=by
 unfold qct;rw[qbh h,List.foldl_append];rfl
theorem qgY(xs:List Int)(id:Int):(qbZ xs id).length=xs.length+1:=by
 rw[qhN];unfold qaK;simp
theorem qkg{s js:List Int}(k:Nat)(hk:k≤js.length):(qct s js k).length=s.length+k:=by
 induction k with
 | zero=>simp[qct]
 | succ k ih=>
  rw[qeq (List.getElem?_eq_getElem (by omega)),qgY,ih (by omega)];omega
theorem qma(js:List Int):∀s,js.Pairwise (·≤·)→js.foldl qbZ s=qaK s js:=by
 induction js with
 | nil=>intro s _;rw[qbX];rfl
 | cons j js ih=>
  intro s h
  rw[List.pairwise_cons] at h
  rw[List.foldl_cons,ih _ h.2,qhN,←qof s js j h.1]
theorem qj9{s js:List Int}{k:Nat}(hk:¬k<js.length)(h:js.Pairwise (·≤·)):qct s js k=qaK s js:=by
 unfold qct;rw[List.take_of_length_le (by omega),qma js s h]
theorem qgW(xs:List Int):∀last,qdw last xs=true↔xs.Pairwise (·<·)∧∀x∈xs,last<x∧x≤1000:=by
 induction xs with
 | nil=>intro last;simp[qdw]
 | cons x xs ih=>
  intro last
  unfold qdw
  by_cases h:x≤last∨1000<x
  ·rw[if_pos h]
   simp only[Bool.false_eq_true,false_iff,not_and]
   intro _ hall
   have:=hall x (by simp)
   omega
  ·rw[if_neg h,ih,List.pairwise_cons]
   constructor
   ·rintro⟨h1,h2⟩
    refine⟨⟨fun y hy=>(h2 y hy).1,h1⟩,fun y hy=>?_⟩
    rcases List.mem_cons.1 hy with rfl|hy
    ·omega
    ·have:=h2 y hy;omega
   ·rintro⟨⟨h1,h2⟩,h3⟩
    exact⟨h2,fun y hy=>⟨h1 y hy,(h3 y (by simp[hy])).2⟩⟩
theorem qcl{xs:List Int}{m:Nat}:qdP xs m=true↔1≤xs.length∧xs.length≤m∧xs.Pairwise (·<·)∧∀x∈xs,0<x∧x≤1000:=by
 unfold qdP
 by_cases h:(xs.length:Int)<1∨(m:Int)<(xs.length:Int)
 ·rw[if_pos h];simp only[Bool.false_eq_true,false_iff];omega
 ·rw[if_neg h,qgW]
  exact⟨fun k=>⟨by omega,by omega,k⟩,fun k=>k.2.2⟩
theorem qbV{xs:List Int}{m:Int}(h:qdP xs m=true):xs.Pairwise (·<·):=by
 unfold qdP at h
 split at h
 ·cases h
 ·exact((qgW xs 0).1 h).1
theorem qbA{n:Int}{xs:List Int}(h:qan n xs=true):qdP xs 16=true:=by
 unfold qan at h;simp only[Bool.and_eq_true] at h;exact h.2
theorem qpw{l m:List Int}{b:Bool}(h:l.Pairwise (·<·)):(qbU l m b).Pairwise (·≤·):=
 (List.Pairwise.filter _ h).imp (fun h=>Int.le_of_lt h)
theorem ql7(num:Int)(xs cut:List Int):(qaT num xs cut).Pairwise (·≤·):=by
 unfold qaT
 split
 ·next h=>exact qpw (qbV (qa9.1 h).2)
 ·exact List.Pairwise.nil
def qeW(n:Int)(xs:List Int)(m:Int)(ys:List Int):List Int:=if qan n xs&&qan m ys then qaK (qbU xs ys false) (qbU ys xs false) else []
theorem qjF{n m:Int}{xs ys:List Int}(h1:qan n xs=true)(h2:qan m ys=true):qeW n xs m ys=qaK (qbU xs ys false) (qbU ys xs false):=by simp[qeW,h1,h2]
theorem qng{n m:Int}{xs ys:List Int}(h1:qan n xs=false):qeW n xs m ys=[]:=by simp[qeW,h1]
theorem qow{n m:Int}{xs ys:List Int}(h2:qan m ys=false):qeW n xs m ys=[]:=by simp[qeW,h2]
theorem qlb{xs:List Int}(h:qdP xs 16=true):qdP xs 32=true:=by
 have:=(qcl (m:=16)).1 h;exact(qcl (m:=32)).2 ⟨this.1,by omega,this.2.2⟩
theorem qqZ {P : Prop} (h : P := by
 obtain⟨k,hk,rfl,HT,HS⟩:=hrel
 by_cases hlt:k<xs.length
 ·obtain⟨b,off,x,rfl,hc,HX⟩:=(HS.row H.out).at_ hlt
  obtain⟨b',off',y,rfl,hc',HY⟩:=(HS.row H'.out).at_ (show k<ys.length by omega)
  by_cases he:x=y
  ·have hb':(x != y)=false:=by simp[he]
   have HE:=hJ he;clear he
   go_wp2;go_quiet (fail)
   go_wp2;go_roundw
   case rel=>exact⟨k+1,by omega,by go_num,qnJ HX.out HY.out HE.out HT.out,HS.drewN _⟩
   case measure=>simp[intOf];omega
  ·have hb':(x != y)=true:=by simp[he]
   have HE:=hJ he;clear he
   go_wp2;go_quiet (fail)
   go_wp2;go_ret
   exact⟨qae (qmg HX.out HY.out HE.out).symm,HS.drewN _⟩
 ·go_wp2
  go_ret
  exact⟨qae (qnD hlt HL.out HT.out).symm,HS⟩) : P := h
theorem qqr(A A':Option Addr)(c c':Nat)(xs ys:List Int)(w:World)(h:Row w A (qam xs))(h':Row w A' (qam ys))(hn:xs.length≤9223372036854775807) :
  Calls Tryz.prog 153 #[.slice A xs.length c,.slice A' ys.length c'] w fun e w'=>e=.returned (.bool (qkq xs ys))∧Still w w':=by
 have H:=hJ h;clear h
 have H':=hJ h';clear h'
 by_cases hl:xs.length=ys.length
 ·have HL:=hJ hl
  have hb:((xs.length:Int) != (ys.length:Int))=false:=by simp[hl]
  have hle:ys.length≤xs.length:=by omega
  have hge:xs.length≤ys.length:=by omega
  clear hl;go_enter Tryz.func153,Tryz.ntmps153
  go_wp2;go_loopw [5] (fun i wr=>∃k:Nat,k≤xs.length∧i=Jq k∧Hid (xs.take k=ys.take k)∧Still w wr) (fun i _=>xs.length - (intOf i).toNat)
  case atStart=>exact⟨0,Nat.zero_le _,rfl,rfl,Still.refl _⟩
  case round=>
   exact qqZ
 ·have HE:=hJ (qiT hl)
  have hb:((xs.length:Int) != (ys.length:Int))=true:=by simp;omega
  clear hl;go_enter Tryz.func153,Tryz.ntmps153
  go_wp2;go_ret
  exact⟨qae HE.out.symm,Still.refl _⟩
theorem qnF(A A':Option Addr)(c c':Nat)(xs ys:List Int)(w:World)(h:Row w A (qam xs))(h':Row w A' (qam ys))(hn:xs.length≤9223372036854775807) :
  Calls Tryz.prog 196 #[.slice A xs.length c,.slice A' ys.length c'] w fun e w'=>e=.returned (.bool (qkq xs ys))∧Still w w':=by
 have H:=hJ h;clear h
 have H':=hJ h';clear h'
 by_cases hl:xs.length=ys.length
 ·have HL:=hJ hl
  have hb:((xs.length:Int) != (ys.length:Int))=false:=by simp[hl]
  have hle:ys.length≤xs.length:=by omega
  have hge:xs.length≤ys.length:=by omega
  clear hl;go_enter Tryz.func196,Tryz.ntmps196
  go_wp2;go_loopw [5,13] (fun _ i wr=>∃k:Nat,k≤xs.length∧i=Jq k∧Hid (xs.take k=ys.take k)∧Still w wr) (fun _ i _=>xs.length - (intOf i).toNat)
  case atStart=>exact⟨0,Nat.zero_le _,rfl,rfl,Still.refl _⟩
  case round=>
   exact qqZ
 ·have HE:=hJ (qiT hl)
  have hb:((xs.length:Int) != (ys.length:Int))=true:=by simp;omega
  clear hl;go_enter Tryz.func196,Tryz.ntmps196
  go_wp2;go_ret
  exact⟨qae HE.out.symm,Still.refl _⟩
end Go.Proofs.YtponbabbabnaeaaGreat
