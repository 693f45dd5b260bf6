/- Part 2 of the proof: contracts of functions that the statement reaches. Conditions: as each theorem says. -/
import Derived.Deep.RegionHeld3
import Derived.Test.YtponbabbabnaeaaGreatQf01
set_option maxRecDepth 100000
set_option maxHeartbeats 40000000
namespace Go.Proofs.YtponbabbabnaeaaGreat
open Go.RowKit
theorem qlr {P : Prop} (h : P := by
 go_enter Tryz.func169,Tryz.ntmps169;go_wp2;go_ret;exact⟨qeW HE.out.symm,rfl⟩) : P := h
theorem qoe {P : Prop} (h : P := by
 go_wp2_with (go_at_call 192;refine(qhy _ _ _ _ _ h hn).mono ?_;rintro e w' ⟨rfl,rfl⟩);go_ret;exact⟨rfl,rfl⟩) : P := h
theorem qpF {P : Prop} (h : P := by
 go_enter Tryz.func84,Tryz.ntmps84;go_wp2;go_ret;exact⟨qae HE.out.symm,(Below.refl _ _).alloc (zR _) _⟩) : P := h
theorem qpj(A:Option Addr)(c:Nat)(xs:List Int)(id:Int)(w:World)(h:Row w A (qaq xs))(hn:xs.length≤9223372036854775807) :
  Calls Tryz.prog 156 #[.slice A xs.length c,Jq id] w fun e w'=>e=.returned (Jq (qnw xs id))∧w=w':=by
 have H:=hJ h;clear h;go_enter Tryz.func156,Tryz.ntmps156;go_wp2;go_loop [5,6,9] (fun _ _ i=>∃k:Nat,k≤xs.length∧i=Jq k∧Hid (find id (xs.drop k) k=qnw xs id)) (fun _ _ i=>xs.length - (intOf i).toNat)
 case atStart=>exact⟨0,zO _,rfl,rfl⟩
 case round=>
  obtain⟨k,hk,rfl,HR⟩:=hrel;by_cases hlt:k<xs.length
  ·obtain⟨b,off,x,rfl,hc,HX⟩:=H.out.at_ hlt;by_cases he:x=id
   ·have hb:(x == id)=true:=by simp[he]
    have HE:=hJ he;clear he;go_wp2;go_ret;exact⟨qeW (by rw[←HR.out,qmN HX.out HE.out]),rfl⟩
   ·have hb:(x == id)=false:=by simp[he]
    have HE:=hJ he;clear he;go_wp2;go_round
    case rel=>exact⟨k+1,by omega,by go_num,by rw[←qkE HX.out HE.out];exact HR.out⟩
    case measure=>simp[intOf];omega
  ·go_wp2;go_ret;exact⟨qeW (by rw[←HR.out,qmr hlt]),rfl⟩
theorem qhy(A:Option Addr)(c:Nat)(xs:List Int)(most:Int)(w:World)(h:Row w A (qaq xs))(hn:xs.length≤9223372036854775807) :
  Calls Tryz.prog 192 #[.slice A xs.length c,Jq most] w fun e w'=>e=.returned (.bool (qdY xs most))∧w=w':=by
 have H:=hJ h;clear h;by_cases h1:(xs.length:Int)<1
 ·have HE:Hid (qdY xs most=false):=by unfold Hid qdY;rw[if_pos (.inl h1)]
  have hd:decide ((xs.length:Int)<1)=true:=by simpa using h1
  go_enter Tryz.func192,Tryz.ntmps192;go_wp2;go_ret;exact⟨qae HE.out.symm,rfl⟩
 ·have h1':(1:Int)≤xs.length:=by omega
  by_cases h2:most<(xs.length:Int)
  ·have HE:Hid (qdY xs most=false):=by unfold Hid qdY;rw[if_pos (.inr h2)]
   go_enter Tryz.func192,Tryz.ntmps192;go_wp2;go_ret;exact⟨qae HE.out.symm,rfl⟩
  ·have HE:Hid (qdY xs most=qdW 0 xs):=by unfold Hid qdY;rw[if_neg (by omega)]
   have h2':(xs.length:Int)≤most:=by omega
   clear h1 h2;go_enter Tryz.func192,Tryz.ntmps192;go_wp2;go_loop [5,7,19] (fun l _ i=>∃(k:Nat) (last:Int),k≤xs.length∧l=Jq last∧i=Jq k∧Hid (qdW last (xs.drop k)=qdW 0 xs)) (fun _ _ i=>xs.length - (intOf i).toNat)
   case atStart=>exact⟨0,0,zO _,rfl,rfl,rfl⟩
   case round=>
    obtain⟨k,last,hk,rfl,rfl,HR⟩:=hrel;by_cases hlt:k<xs.length
    ·obtain⟨b,off,x,rfl,hc,HX⟩:=H.out.at_ hlt;by_cases ha:x≤last
     ·go_wp2;go_ret;exact⟨qae (by rw[HE.out,←HR.out,qjg HX.out ha]),rfl⟩
     ·by_cases hb:1000<x
      ·go_wp2;go_ret;exact⟨qae (by rw[HE.out,←HR.out,qmz HX.out hb]),rfl⟩
      ·have ha':last<x:=by omega
       have hb':x≤1000:=by omega
       clear ha hb;go_wp2;go_round
       case rel=>exact⟨k+1,x,by omega,rfl,by go_num,by rw[←qi9 HX.out ha' hb'];exact HR.out⟩
       case measure=>simp[intOf];omega
    ·go_wp2;go_ret;exact⟨qae (by rw[HE.out,←HR.out,qkD hlt]),rfl⟩
theorem qeI(A:Option Addr)(c:Nat)(xs:List Int)(w:World)(h:Row w A (qaq xs))(hn:xs.length≤9223372036854775807) :
  Calls Tryz.prog 155 #[.slice A xs.length c] w fun e w'=>e=.returned (.bool (qdY xs 16))∧w=w':=by
 go_enter Tryz.func155,Tryz.ntmps155;exact qoe
theorem qgR(A:Option Addr)(c:Nat)(xs:List Int)(w:World)(h:Row w A (qaq xs))(hn:xs.length≤9223372036854775807) :
  Calls Tryz.prog 205 #[.slice A xs.length c] w fun e w'=>e=.returned (.bool (qdY xs 32))∧w=w':=by
 go_enter Tryz.func205,Tryz.ntmps205;exact qoe
theorem qce(A:Option Addr)(c:Nat)(xs:List Int)(id:Int)(w:World)(h:Row w A (qaq xs))(hn:xs.length≤9223372036854775807) :
  Calls Tryz.prog 85 #[.slice A xs.length c,Jq id] w fun e w'=>e=.returned (.bool (qbN xs id))∧w=w':=by
 go_enter Tryz.func85,Tryz.ntmps85;go_wp2_with (go_at_call 156;refine(qpj _ _ _ _ _ h hn).mono ?_;rintro e w' ⟨rfl,rfl⟩);go_ret;exact⟨rfl,rfl⟩
theorem qgQ(n:Int)(w:World) :
  Calls Tryz.prog 169 #[Jq n] w fun e w'=>e=.returned (Jq (qfB n))∧w=w':=by
 by_cases h1:1≤n
 ·by_cases h2:n≤16
  ·have HE:Hid (qfB n=n / 2+1):=if_pos ⟨h1,h2⟩;exact qlr
  ·have HE:Hid (qfB n=0):=if_neg (by omega);exact qlr
 ·have HE:Hid (qfB n=0):=if_neg (by omega);have hd:decide (1≤n)=false:=by simpa using h1
  exact qlr
theorem qdp(num:Int)(A:Option Addr)(c:Nat)(xs:List Int)(w:World)(h:Row w A (qaq xs))(hn:xs.length≤9223372036854775807) :
  Calls Tryz.prog 84 #[.agg #[Jq num,.slice A xs.length c]] w fun e w'=>e=.returned (.bool (qap num xs))∧Ext w w':=by
 by_cases h1:0≤num
 ·by_cases h2:num≤1099511627776
  ·have HE:=hJ (qgI (xs:=xs) h1 h2);have H:=hJ h;clear h;go_enter Tryz.func84,Tryz.ntmps84;go_wp2_with (go_at_call 155;refine(qeI _ _ _ _ (H.out.ext ((Below.refl _ _).alloc (zR _) _)) hn).mono ?_;rintro e w' ⟨rfl,hs⟩);go_ret;exact⟨qae HE.out.symm,Ext.trans ((Below.refl _ _).alloc (zR _) _) (by rw[hs];exact Below.refl _ _)⟩
  ·have HE:=hJ (qiF (n:=num) (xs:=xs) (by omega));exact qpF
 ·have HE:=hJ (qiZ (n:=num) (xs:=xs) (by omega));exact qpF
theorem qg2(A:Option Addr)(c:Nat)(xs:List Int)(w:World)(h:Row w A (qaq xs))(hn:xs.length≤9223372036854775807)(hv:qdY xs 32=true) :
  Calls Tryz.prog 205 #[.slice A xs.length c] w fun e w'=>e=.returned (.bool true)∧w=w':=by
 rw[←hv];exact qgR A c xs w h hn
theorem qii(A:Option Addr)(c:Nat)(xs:List Int)(w:World)(h:Row w A (qaq xs))(hn:xs.length≤9223372036854775807)(hv:qdY xs 32=false) :
  Calls Tryz.prog 205 #[.slice A xs.length c] w fun e w'=>e=.returned (.bool false)∧w=w':=by
 rw[←hv];exact qgR A c xs w h hn
theorem qcO(num:Int)(A:Option Addr)(c:Nat)(xs:List Int)(w:World)(h:Row w A (qaq xs))(hn:xs.length≤9223372036854775807)(hv:qap num xs=true) :
  Calls Tryz.prog 84 #[.agg #[Jq num,.slice A xs.length c]] w fun e w'=>e=.returned (.bool true)∧Ext w w':=by
 rw[←hv];exact qdp num A c xs w h hn
theorem qf9(num:Int)(A:Option Addr)(c:Nat)(xs:List Int)(w:World)(h:Row w A (qaq xs))(hn:xs.length≤9223372036854775807)(hv:qap num xs=false) :
  Calls Tryz.prog 84 #[.agg #[Jq num,.slice A xs.length c]] w fun e w'=>e=.returned (.bool false)∧Ext w w':=by
 rw[←hv];exact qdp num A c xs w h hn
theorem qj8(A:Option Addr)(c:Nat)(xs:List Int)(id:Int)(w:World)(h:Row w A (qaq xs))(hn:xs.length≤9223372036854775807)(hv:qbN xs id=true) :
  Calls Tryz.prog 85 #[.slice A xs.length c,Jq id] w fun e w'=>e=.returned (.bool true)∧w=w':=by
 rw[←hv];exact qce A c xs id w h hn
theorem qlt(A:Option Addr)(c:Nat)(xs:List Int)(id:Int)(w:World)(h:Row w A (qaq xs))(hn:xs.length≤9223372036854775807)(hv:qbN xs id=false) :
  Calls Tryz.prog 85 #[.slice A xs.length c,Jq id] w fun e w'=>e=.returned (.bool false)∧w=w':=by
 rw[←hv];exact qce A c xs id w h hn
theorem qga(num:Int)(A Ac Al Ao:Option Addr)(c cc cl co:Nat)(xs cut l other:List Int)(w:World)(hx:Row w A (qaq xs))(hc:Row w Ac (qaq cut))(hl:Row w Al (qaq l))(ho:Row w Ao (qaq other))
  (hn:xs.length≤9223372036854775807) (hnc:cut.length≤9223372036854775807) (hnl:l.length≤1000) (hno:other.length≤9223372036854775807) (hv:qap num xs=true) (hcv:qdY cut 32=true) :
  Calls Tryz.prog 209 #[.agg #[Jq num,.slice A xs.length c],.slice Ac cut.length cc,.slice Al l.length cl,.slice Ao other.length co] w (qlk w (qbR l other true) (qbR l other false)):=by
 have HX:=hJ hx;have HC:=hJ hc;have HL:=hJ hl;have HO:=hJ ho;have HV:=hJ hv;have HCV:=hJ hcv;clear hx hc hl ho hv hcv;have H0:=hJ (Ext.new w (.cells #[Jq num,.slice A xs.length c] 46));go_enter Tryz.func209,Tryz.ntmps209;go_wp2_with (first
  | (go_at_call 84;refine(qcO _ _ _ _ _ (HX.out.ext H0.out) hn HV.out).mono ?_;rintro e w1 ⟨rfl,hx1⟩;have H1:=hJ (Ext.trans H0.out hx1))
  | (go_at_call 205;refine(qg2 _ _ _ _ (HC.out.ext H1.out) hnc HCV.out).mono ?_;rintro e w2 ⟨rfl,rfl⟩))
 go_loopw [8,9,11,22] (fun v u _ i wr=>∃k:Nat,k≤l.length∧i=Jq k∧Own wr w.heap.size 3 v (qaq (filt (fun x=>qbN other x == true) l k))∧Own wr w.heap.size 3 u (qaq (filt (fun x=>qbN other x == false) l k))∧Apart v u∧Ext w wr) (fun _ _ _ i _=>l.length - (intOf i).toNat)
 case atStart=>exact⟨0,zO _,rfl,Own.nil _ _ _,Own.nil _ _ _,Apart.nil _,H1.out⟩
 case round=>
  obtain⟨k,hk,rfl,hv,hu,hap,hxr⟩:=hrel;by_cases hlt:k<l.length
  ·obtain⟨bk,off,x,rfl,hc,HXx⟩:=(HL.out.ext hxr).at_ hlt;have HO1:=hJ (HO.out.ext hxr);have hf1:=qjF (fun x=>qbN other x == true) l k;have hf2:=qjF (fun x=>qbN other x == false) l k;by_cases hp:qbN other x=true
   ·have HP:=hJ hp;clear hp;go_wp2_with (first
     | (go_at_call 85;refine(qj8 _ _ _ _ _ HO1.out hno HP.out).mono ?_;rintro e w' ⟨rfl,rfl⟩)
     | (at_builtin;refine qbQ rfl (.tmp 29) (.tmp 31) rfl wr w.heap.size _ (filt (fun x=>qbN other x == true) l k) (by rfl) x (by rfl) hv (by omega) hxr.size ?_;intro v1 w1 ho1 hg1 hs1))
    go_roundw
    case rel=>exact⟨k+1,by omega,by go_num,by rw[qlf HXx.out (by simp[HP.out])];exact ho1,by rw[qjv HXx.out (by simp[HP.out])];exact hu.kept hg1 hap.symm,hap.stems hs1 hu,hg1.below hxr hxr.size (fun q hq=>(hv.lt q hq).1)⟩
    case measure=>simp[intOf];omega
   ·have hp':qbN other x=false:=by simpa using hp
    have HP:=hJ hp';clear hp hp';go_wp2_with (first
     | (go_at_call 85;refine(qlt _ _ _ _ _ HO1.out hno HP.out).mono ?_;rintro e w' ⟨rfl,rfl⟩)
     | (at_builtin;refine qbQ rfl (.tmp 33) (.tmp 35) rfl wr w.heap.size _ (filt (fun x=>qbN other x == false) l k) (by rfl) x (by rfl) hu (by omega) hxr.size ?_;intro v1 w1 ho1 hg1 hs1))
    go_roundw
    case rel=>exact⟨k+1,by omega,by go_num,by rw[qjv HXx.out (by simp[HP.out])];exact hv.kept hg1 hap,by rw[qlf HXx.out (by simp[HP.out])];exact ho1,(hap.symm.stems hs1 hv).symm,hg1.below hxr hxr.size (fun q hq=>(hu.lt q hq).1)⟩
    case measure=>simp[intOf];omega
  ·go_wp2
   go_ret2
   exact qgH (by rw[qjl hlt] at hv;exact hv) (by rw[qjl hlt] at hu;exact hu) hxr
theorem qoM {P : Prop} (h : P := by
 go_wp2_with (first
  | (go_at_call 209;refine(qqx _ _ _ _ _ _ _ _ _ _ _ _ _ _ HX.out HC.out hn hnc HV.out).mono ?_;rintro e w1 ⟨A1,c1,A2,c2,rfl,ho1,ho2,hx1⟩))
 go_ret;exact(qby (by rw[HE.out];exact ho2) hx1).from H0.out) : P := h
theorem qqx(num:Int)(A Ac Al Ao:Option Addr)(c cc nl cl no co:Nat)(xs cut:List Int)(w:World)(hx:Row w A (qaq xs))(hc:Row w Ac (qaq cut))
  (hn:xs.length≤9223372036854775807) (hnc:cut.length≤9223372036854775807) (hv:qcu num xs cut=false) :
  Calls Tryz.prog 209 #[.agg #[Jq num,.slice A xs.length c],.slice Ac cut.length cc,.slice Al nl cl,.slice Ao no co] w (qlk w [] []):=by
 have HX:=hJ hx;have HC:=hJ hc;clear hx hc;have H0:=hJ (Ext.new w (.cells #[Jq num,.slice A xs.length c] 46));rcases qeT hv with hv|⟨hv,hcv⟩
 ·have HV:=hJ hv;clear hv;go_enter Tryz.func209,Tryz.ntmps209;go_wp2_with (first
   | (go_at_call 84;refine(qf9 _ _ _ _ _ (HX.out.ext H0.out) hn HV.out).mono ?_;rintro e w1 ⟨rfl,hx1⟩;have H1:=hJ (Ext.trans H0.out hx1)))
  go_ret2
  exact qgH (Own.nil _ _ _) (Own.nil _ _ _) H1.out
 ·have HV:=hJ hv;have HCV:=hJ hcv;clear hv hcv;go_enter Tryz.func209,Tryz.ntmps209;go_wp2_with (first
   | (go_at_call 84;refine(qcO _ _ _ _ _ (HX.out.ext H0.out) hn HV.out).mono ?_;rintro e w1 ⟨rfl,hx1⟩;have H1:=hJ (Ext.trans H0.out hx1))
   | (go_at_call 205;refine(qii _ _ _ _ (HC.out.ext H1.out) hnc HCV.out).mono ?_;rintro e w2 ⟨rfl,rfl⟩))
  go_ret2
  exact qgH (Own.nil _ _ _) (Own.nil _ _ _) H1.out
theorem GivesI.from{a w w':World}{out:List Int}{en:Ending}(e:Ext a w)(h:GivesI w out en w'):GivesI a out en w':=by
 obtain⟨A,c,h1,h2,h3,h4,h5⟩:=h;refine⟨A,c,h1,h2,h3,?_,e.trans h5⟩;obtain⟨g1,g2⟩:=h4;refine⟨g1,?_⟩;rcases g2 with g2|⟨k,cap,cur,g3,g4,r⟩
 ·exact .inl g2
 ·exact .inr ⟨k,cap,cur,g3,zL e.size g4,r⟩
theorem qli(num:Int)(A Ac:Option Addr)(c cc:Nat)(xs cut:List Int)(w:World)(hx:Row w A (qaq xs))(hc:Row w Ac (qaq cut))
  (hn:xs.length≤9223372036854775807) (hnc:cut.length≤9223372036854775807) :
  Calls Tryz.prog 207 #[.agg #[Jq num,.slice A xs.length c],.slice Ac cut.length cc] w (GivesI w (qa6 num xs cut)):=by
 have H0:=hJ (Ext.new w (.cells #[Jq num,.slice A xs.length c] 46));have HX:=hJ (hx.ext H0.out);have HC:=hJ (hc.ext H0.out);clear hx hc;by_cases hv:qcu num xs cut=true
 ·have HE:Hid (qa6 num xs cut=qbR cut xs false):=if_pos hv;have hb:cut.length≤1000:=by have:=(qc9 (m:=32) (qbg.1 hv).2).2;omega
  have HV:=hJ (qbg.1 hv);clear hv;go_enter Tryz.func207,Tryz.ntmps207;go_wp2_with (first
   | (go_at_call 209;refine(qga _ _ _ _ _ _ _ _ _ _ _ _ _ _ HX.out HC.out HC.out HX.out hn hnc hb hn HV.out.1 HV.out.2).mono ?_;rintro e w1 ⟨A1,c1,A2,c2,rfl,ho1,ho2,hx1⟩))
  go_ret;exact(qby (by rw[HE.out];exact ho2) hx1).from H0.out
 ·have hv':qcu num xs cut=false:=by simpa using hv
  have HE:Hid (qa6 num xs cut=[]):=if_neg hv;have HV:=hJ hv';clear hv hv';go_enter Tryz.func207,Tryz.ntmps207;exact qoM
theorem qju(num:Int)(A Ac:Option Addr)(c cc:Nat)(xs cut:List Int)(w:World)(hx:Row w A (qaq xs))(hc:Row w Ac (qaq cut))
  (hn:xs.length≤9223372036854775807) (hnc:cut.length≤9223372036854775807) :
  Calls Tryz.prog 206 #[.agg #[Jq num,.slice A xs.length c],.slice Ac cut.length cc] w (GivesI w (qau num xs cut)):=by
 have H0:=hJ (Ext.new w (.cells #[Jq num,.slice A xs.length c] 46));have HX:=hJ (hx.ext H0.out);have HC:=hJ (hc.ext H0.out);clear hx hc;by_cases hv:qcu num xs cut=true
 ·have HE:Hid (qau num xs cut=qbR xs cut false):=if_pos hv;have hb:xs.length≤1000:=by have:=(qaU (qbg.1 hv).1).2;omega
  have HV:=hJ (qbg.1 hv);clear hv;go_enter Tryz.func206,Tryz.ntmps206;go_wp2_with (first
   | (go_at_call 209;refine(qga _ _ _ _ _ _ _ _ _ _ _ _ _ _ HX.out HC.out HX.out HC.out hn hnc hb hnc HV.out.1 HV.out.2).mono ?_;rintro e w1 ⟨A1,c1,A2,c2,rfl,ho1,ho2,hx1⟩))
  go_ret;exact(qby (by rw[HE.out];exact ho2) hx1).from H0.out
 ·have hv':qcu num xs cut=false:=by simpa using hv
  have HE:Hid (qau num xs cut=[]):=if_neg hv;have HV:=hJ hv';clear hv hv';go_enter Tryz.func206,Tryz.ntmps206;exact qoM
theorem qsm {P : Prop} (h : P := by
 clear h2;go_wp2;exact bodyPost_ret (v:=.tuple #[.agg #[Jq 0,Zq],Jq 5]) (by simp[results,Tryz.results194,go_sem,q2,q3]) rfl (qeB HF.out (Own.nil _ _ _) ((HE.out.set (by simp) _).set (by simp) _))) : P := h
theorem qrS {P : Prop} (h : P := by
 exact bodyPost_ret (v:=.tuple #[.agg #[Jq 0,Zq],Jq 1]) (by simp[results,Tryz.results194,go_sem,q2,q3]) rfl (qeB HE.out (Own.nil _ _ _) ((H1.out.set (by simp) _).set (by simp) _))) : P := h
def qb5(w:World)(num:Int)(s:Value):World:=(w.alloc (.cells #[.int .i64 num,s] 46)).alloc (.cells #[.int .i64 0,.slice none 0 0] 46)
theorem qaN{w w1:World}{num:Int}{s:Value}(h:Ext (qb5 w num s) w1) :
  w1.cell? (Pq w.heap.size 0)=some (Jq num)∧w1.cell? (Pq w.heap.size 1)=some s∧
  w1.cell? (Pq (w.heap.size+1) 0)=some (Jq 0)∧w1.cell? (Pq (w.heap.size+1) 1)=some Zq∧
  w1.frozen? (Pq (w.heap.size+1) 0)=false∧w1.frozen? (Pq (w.heap.size+1) 1)=false∧w.heap.size+2≤w1.heap.size:=by
 have hs:=h.size;simp only[qb5,World.size_alloc] at hs;refine⟨?_,?_,?_,?_,?_,?_,by omega⟩
 ·rw[h.cell (p:=(Pw w 0)) (by simp[qb5];omega)];simp[qb5]
 ·rw[h.cell (p:=(Pw w 1)) (by simp[qb5];omega)];simp[qb5]
 ·rw[h.cell (p:=(Pv w 0)) (by simp[qb5])];simp[qb5]
 ·rw[h.cell (p:=(Pv w 1)) (by simp[qb5])];simp[qb5]
 ·rw[h.frozen (p:=(Pv w 0)) (by simp[qb5])];simp[qb5]
 ·rw[h.frozen (p:=(Pv w 1)) (by simp[qb5])];simp[qb5]
theorem qeu(w:World)(num:Int)(s:Value):Ext w (qb5 w num s):=(Ext.new w _).alloc _
theorem qsS(num:Int)(A Ac:Option Addr)(c cc:Nat)(xs cut:List Int)(w:World)(hx:Row w A (qaq xs))(hc:Row w Ac (qaq cut))
  (hn:xs.length≤9223372036854775807) (hnc:cut.length≤9223372036854775807) (hv:qcu num xs cut=false) :
  Calls Tryz.prog 194 #[.agg #[Jq num,.slice A xs.length c],.slice Ac cut.length cc] w (qhR w (qb9 num xs cut)):=by
 have H0:=hJ (qeu w num (.slice A xs.length c));have HX:=hJ (hx.ext H0.out);have HC:=hJ (hc.ext H0.out);clear hx hc;have HE:Hid (qb9 num xs cut=(0,[],1)):=if_pos hv;rcases qeT hv with hv|⟨hv,hcv⟩
 ·have HV:=hJ hv;clear hv;go_enter Tryz.func194,Tryz.ntmps194;go_wp2_with (first
   | (go_at_call 84;refine(qf9 _ _ _ _ _ HX.out hn HV.out).mono ?_;rintro e w1 ⟨rfl,hx1⟩;obtain⟨q0,q1,q2,q3,q4,q5,q6⟩:=qaN hx1;have H1:=hJ (Ext.trans H0.out hx1);clear hx1))
  exact qrS
 ·have HV:=hJ hv;have HCV:=hJ hcv;clear hv hcv;go_enter Tryz.func194,Tryz.ntmps194;go_wp2_with (first
   | (go_at_call 84;refine(qcO _ _ _ _ _ HX.out hn HV.out).mono ?_;rintro e w1 ⟨rfl,hx1⟩;obtain⟨q0,q1,q2,q3,q4,q5,q6⟩:=qaN hx1;have HC1:=hJ (HC.out.ext hx1);have H1:=hJ (Ext.trans H0.out hx1);clear hx1)
   | (go_at_call 205;refine(qii _ _ _ _ HC1.out hnc HCV.out).mono ?_;rintro e w2 ⟨rfl,rfl⟩))
  exact qrS
theorem qrw(num:Int)(A Ac:Option Addr)(c cc:Nat)(xs cut:List Int)(w:World)(hx:Row w A (qaq xs))(hc:Row w Ac (qaq cut))
  (hn:xs.length≤9223372036854775807) (hnc:cut.length≤9223372036854775807) (hv:qcu num xs cut=true) :
  Calls Tryz.prog 194 #[.agg #[Jq num,.slice A xs.length c],.slice Ac cut.length cc] w (qhR w (qb9 num xs cut)):=by
 have H0:=hJ (qeu w num (.slice A xs.length c));have HX:=hJ (hx.ext H0.out);have HC:=hJ (hc.ext H0.out);clear hx hc;have HV:=hJ (qbg.1 hv);have HO:=hJ hv;have hl1:xs.length≤16:=(qaU HV.out.1).2;have hl2:cut.length≤32:=(qc9 (m:=32) HV.out.2).2;clear hv;go_enter Tryz.func194,Tryz.ntmps194;go_wp2_with (first
  | (go_at_call 84;refine(qcO _ _ _ _ _ HX.out hn HV.out.1).mono ?_;rintro e w1 ⟨rfl,hx1⟩;obtain⟨q0,q1,q2,q3,q4,q5,q6⟩:=qaN hx1;have HX1:=hJ (HX.out.ext hx1);have HC1:=hJ (HC.out.ext hx1);have H1:=hJ hx1;clear hx1)
  | (go_at_call 205;refine(qg2 _ _ _ _ HC1.out hnc HV.out.2).mono ?_;rintro e w2 ⟨rfl,rfl⟩))
 go_region_held3 (fun w'=>w'.cell? (Pw w 0)=some (Jq num)∧w'.cell? (Pw w 1)=some (.slice A xs.length c))
  (first|go_keep|(go_split_ands;refine⟨?_,?_⟩<;>first|(rw[hx3.cell (by simp;omega)];assumption)|(rw[hx2.cell (by simp;omega)];assumption)))
  (first
   | (go_at_call 206;refine(qju _ _ _ _ _ _ _ _ (by exact HX1.out) (by exact HC1.out) hn hnc).mono ?_;rintro e w2 ⟨A2,c2,rfl,hc2,hm2,ho2,hx2⟩;have s2:w1.heap.size≤w2.heap.size:=hx2.size;have HX2:=hJ (Row.ext (w:=w1.drew) HX1.out hx2);have HC2:=hJ (Row.ext (w:=w1.drew) HC1.out hx2))
   | (go_at_call 207;refine(qli _ _ _ _ _ _ _ _ (by exact HX2.out) (by exact HC2.out) hn hnc).mono ?_;rintro e w3 ⟨A3,c3,rfl,hc3,hm3,ho3,hx3⟩;have s3:=hx3.size))
 have H3:=hJ (((Ext.drew H1.out).trans hx2).trans hx3);clear q0 q1 q2 q3 q4 q5 q6;obtain⟨q0,q1,q2,q3,q4,q5,q6⟩:=qaN H3.out;have HS:=hJ (ho2.ext hx3);have HE:=hJ (Ext.trans H0.out H3.out);clear hx2 hx3 HX2 HC2 HX1 HC1 H1;have hsl:=ql2 HO.out;have hjl:=qmH HO.out;have hnum:=qaV HV.out.1;by_cases h1:2*(qau num xs cut).length≤xs.length
 ·have HF:=hJ (qhu HO.out h1);go_wp2;exact bodyPost_ret (v:=.tuple #[.agg #[Jq 0,Zq],Jq 9]) (by simp[results,Tryz.results194,go_sem,q2,q3]) rfl (qeB HF.out (Own.nil _ _ _) ((HE.out.set (by simp) _).set (by simp) _))
 ·have h1':xs.length<2*(qau num xs cut).length:=by omega
  have HN1:=hJ h1;clear h1;by_cases h2:num=1099511627776
  ·have HF:=hJ (qeX HO.out HN1.out (.inl h2));have h2b:(num == 1099511627776)=true:=by simpa using h2
   exact qsm
  ·have h2b:(num == 1099511627776)=false:=by simpa using h2
   by_cases h3:16<(qau num xs cut).length+(qa6 num xs cut).length
   ·have HF:=hJ (qeX HO.out HN1.out (.inr h3));exact qsm
   ·have HF:=hJ (qi5 HO.out HN1.out (by omega));have h3':(qau num xs cut).length+(qa6 num xs cut).length≤16:=by omega
    have h2':num<1099511627776:=by omega
    have hw:IntKind.i64.wrap (num+1)=num+1:=IntWalk.i64_in _ (by omega);clear h2 h3;go_wp2;go_region_held3 (fun w'=>w'.cell? (Pw w 0)=some (Jq num))
     (first|go_keep)
     (first
      | (go_at_call 208;refine(qjS _ _ _ _ _ _ _ (by exact HS.out.row) (by exact ho3.row) (by omega) (by omega) (by omega)).mono ?_;rintro e w4 ⟨A4,c4,rfl,hc4,hm4,ho4,hx4⟩;obtain⟨k0,k1,k2,k3,k4,k5,k6⟩:=qaN ((Ext.drew H3.out).trans hx4)))
    go_wp2;have HB:=hJ (Ext.trans HE.out (Ext.trans (Ext.drew (Ext.refl w3)) hx4));refine bodyPost_ret (v:=.tuple #[.agg #[Jq (num+1),.slice A4 (qaW (qau num xs cut) (qa6 num xs cut)).length c4],Jq 0]) (by simp[results,Tryz.results194,go_sem,k2,k3]) rfl (qeB HF.out ((Own.set (Own.set (ho4.base ?_) ?_ _) ?_ _)) ((HB.out.set (by simp) _).set (by simp) _))
    ·show w.heap.size≤w3.heap.size;omega
    ·intro k hk;have:=(ho4.lt k hk).1;simp only[World.drew] at this;simp;omega
    ·intro k hk;have:=(ho4.lt k hk).1;simp only[World.drew] at this;simp;omega
theorem qck(a:List Int):qaW a []=a:=by unfold qaW;simp
theorem qeh(a:List Int):qaW [] a=a:=by unfold qaW;simp
theorem qee{x y:Int}{a b:List Int}(h:x≤y):qaW (x::a) (y::b)=x::qaW a (y::b):=by
 unfold qaW;rw[List.cons_merge_cons_pos _ _ _ (by simp[leB,h])]
theorem qf3{x y:Int}{a b:List Int}(h:y<x):qaW (x::a) (y::b)=y::qaW (x::a) b:=by
 unfold qaW;rw[List.cons_merge_cons_neg _ _ _ (by simp[leB];omega)]
def qmC(id:Int)(s:List Int×Bool):List Int:=if s.2 then s.1 else s.1++[id]
theorem qsw(id:Int)(xs:List Int):∀(o:List Int),
  qmC id (xs.foldl (qcw id) (o,false))=o++qaW xs [id]∧(xs.foldl (qcw id) (o,true))=(o++xs,true):=by
 induction xs with
 | nil=>intro o;simp[qeh,qmC]
 | cons x xs ih=>
  intro o;have e2:qcw id (o,true) x=(o++[x],true):=by simp[qcw]
  refine⟨?_,?_⟩
  ·rw[List.foldl_cons];by_cases h:id<x
   ·have e1:qcw id (o,false) x=(o++[id]++[x],true):=by simp[qcw,h]
    rw[e1,(ih _).2,qf3 h,qck];simp[qmC]
   ·have e1:qcw id (o,false) x=(o++[x],false):=by simp[qcw,h]
    rw[e1,qee (by omega),(ih (o++[x])).1];simp
  ·rw[List.foldl_cons,e2,(ih _).2];simp
theorem qiY(xs:List Int)(id:Int):qcX xs id=qaW xs [id]:=by
 have h1:qcX xs id=qmC id (qb3 id xs xs.length):=rfl;have h2:=(qsw id xs []).1;rw[h1];unfold qb3;rw[List.take_length,h2];simp
theorem qob(s js:List Int)(j:Int)(h:∀y∈js,j≤y):qaW s (j::js)=qaW (qaW s [j]) js:=by
 have hd:∀l:List Int,qaW (j::l) js=j::qaW l js:=by
  intro l;cases js with
  | nil=>rw[qck,qck]
  | cons y js=>exact qee (h y (by simp))
 induction s with
 | nil=>rw[qeh,qeh,hd,qeh]
 | cons x s ih=>
  by_cases hx:x≤j
  ·rw[qee hx,qee hx,ih];cases js with
   | nil=>rw[qck,qck]
   | cons y js=>rw[qee (Int.le_trans hx (h y (by simp)))]
  ·rw[qf3 (by omega),qf3 (by omega),qck,hd]
def qcT(s js:List Int)(k:Nat):List Int:=(js.take k).foldl qcX s
theorem qe5{s js:List Int}{k:Nat}{x:Int}(h:js[k]?=some x):qcT s js (k+1)=qcX (qcT s js k) x:=by
 unfold qcT;rw[qbv h,List.foldl_append];rfl
theorem qls(xs:List Int)(id:Int):(qcX xs id).length=xs.length+1:=by
 rw[qiY];unfold qaW;simp
theorem qlD{s js:List Int}(k:Nat)(hk:k≤js.length):(qcT s js k).length=s.length+k:=by
 induction k with
 | zero=>simp[qcT]
 | succ k ih=>
  rw[qe5 (zY (by omega)),qls,ih (by omega)];omega
theorem qm0(js:List Int):∀s,js.Pairwise (·≤·)→js.foldl qcX s=qaW s js:=by
 induction js with
 | nil=>intro s _;rw[qck];rfl
 | cons j js ih=>
  intro s h;rw[List.pairwise_cons] at h;rw[List.foldl_cons,ih _ h.2,qiY,←qob s js j h.1]
theorem qkX{s js:List Int}{k:Nat}(hk:¬k<js.length)(h:js.Pairwise (·≤·)):qcT s js k=qaW s js:=by
 unfold qcT;rw[List.take_of_length_le (by omega),qm0 js s h]
theorem qfJ(xs:List Int):∀last,qdW last xs=true↔xs.Pairwise (·<·)∧∀x∈xs,last<x∧x≤1000:=by
 induction xs with
 | nil=>intro last;simp[qdW]
 | cons x xs ih=>
  intro last;unfold qdW;by_cases h:x≤last∨1000<x
  ·rw[if_pos h];simp only[Bool.false_eq_true,false_iff,not_and];intro _ hall;have:=hall x (by simp);omega
  ·rw[if_neg h,ih,List.pairwise_cons];constructor
   ·rintro⟨h1,h2⟩;refine⟨⟨fun y hy=>(h2 y hy).1,h1⟩,fun y hy=>?_⟩;rcases zC.1 hy with rfl|hy
    ·omega
    ·have:=h2 y hy;omega
   ·rintro⟨⟨h1,h2⟩,h3⟩;exact⟨h2,fun y hy=>⟨h1 y hy,(h3 y (by simp[hy])).2⟩⟩
theorem qcN{xs:List Int}{m:Nat}:qdY xs m=true↔1≤xs.length∧xs.length≤m∧xs.Pairwise (·<·)∧∀x∈xs,0<x∧x≤1000:=by
 unfold qdY;by_cases h:(xs.length:Int)<1∨(m:Int)<(xs.length:Int)
 ·rw[if_pos h];simp only[Bool.false_eq_true,false_iff];omega
 ·rw[if_neg h,qfJ];exact⟨fun k=>⟨by omega,by omega,k⟩,fun k=>k.2.2⟩
theorem qcb{xs:List Int}{m:Int}(h:qdY xs m=true):xs.Pairwise (·<·):=by
 unfold qdY at h;split at h
 ·cases h
 ·exact((qfJ xs 0).1 h).1
theorem qbC{n:Int}{xs:List Int}(h:qap n xs=true):qdY xs 16=true:=by
 unfold qap at h;simp only[zB] at h;exact h.2
theorem qrL{l m:List Int}{b:Bool}(h:l.Pairwise (·<·)):(qbR l m b).Pairwise (·≤·):=
 (List.Pairwise.filter _ h).imp (fun h=>Int.le_of_lt h)
theorem qnE(num:Int)(xs cut:List Int):(qa6 num xs cut).Pairwise (·≤·):=by
 unfold qa6;split
 ·next h=>exact qrL (qcb (qbg.1 h).2)
 ·exact List.Pairwise.nil
def qfD(n:Int)(xs:List Int)(m:Int)(ys:List Int):List Int:=if qap n xs&&qap m ys then qaW (qbR xs ys false) (qbR ys xs false) else []
theorem qkk{n m:Int}{xs ys:List Int}(h1:qap n xs=true)(h2:qap m ys=true):qfD n xs m ys=qaW (qbR xs ys false) (qbR ys xs false):=by simp[qfD,h1,h2]
theorem qoI{n m:Int}{xs ys:List Int}(h1:qap n xs=false):qfD n xs m ys=[]:=by simp[qfD,h1]
theorem qpv{n m:Int}{xs ys:List Int}(h2:qap m ys=false):qfD n xs m ys=[]:=by simp[qfD,h2]
theorem qmx{xs:List Int}(h:qdY xs 16=true):qdY xs 32=true:=by
 have:=(qcN (m:=16)).1 h;exact(qcN (m:=32)).2 ⟨this.1,by omega,this.2.2⟩
theorem qr3 {P : Prop} (h : P := by
 obtain⟨k,hk,rfl,HT,HS⟩:=hrel;by_cases hlt:k<xs.length
 ·obtain⟨b,off,x,rfl,hc,HX⟩:=(HS.row H.out).at_ hlt;obtain⟨b',off',y,rfl,hc',HY⟩:=(HS.row H'.out).at_ (show k<ys.length by omega);by_cases he:x=y
  ·have hb':(x != y)=false:=by simp[he]
   have HE:=hJ he;clear he;go_wp2;go_quiet (fail);go_wp2;go_roundw
   case rel=>exact⟨k+1,by omega,by go_num,qok HX.out HY.out HE.out HT.out,HS.drewN _⟩
   case measure=>simp[intOf];omega
  ·have hb':(x != y)=true:=by simp[he]
   have HE:=hJ he;clear he;go_wp2;go_quiet (fail);go_wp2;go_ret;exact⟨qae (qm1 HX.out HY.out HE.out).symm,HS.drewN _⟩
 ·go_wp2;go_ret;exact⟨qae (qpM hlt HL.out HT.out).symm,HS⟩) : P := h
theorem qrQ(A A':Option Addr)(c c':Nat)(xs ys:List Int)(w:World)(h:Row w A (qaq xs))(h':Row w A' (qaq ys))(hn:xs.length≤9223372036854775807) :
  Calls Tryz.prog 153 #[.slice A xs.length c,.slice A' ys.length c'] w fun e w'=>e=.returned (.bool (qkW xs ys))∧Still w w':=by
 have H:=hJ h;clear h;have H':=hJ h';clear h';by_cases hl:xs.length=ys.length
 ·have HL:=hJ hl;have hb:((xs.length:Int) != (ys.length:Int))=false:=by simp[hl]
  have hle:ys.length≤xs.length:=by omega
  have hge:xs.length≤ys.length:=by omega
  clear hl;go_enter Tryz.func153,Tryz.ntmps153;go_wp2;go_loopw [5] (fun i wr=>∃k:Nat,k≤xs.length∧i=Jq k∧Hid (xs.take k=ys.take k)∧Still w wr) (fun i _=>xs.length - (intOf i).toNat)
  case atStart=>exact⟨0,zO _,rfl,rfl,Still.refl _⟩
  case round=>
   exact qr3
 ·have HE:=hJ (qkb hl);have hb:((xs.length:Int) != (ys.length:Int))=true:=by simp;omega
  clear hl;go_enter Tryz.func153,Tryz.ntmps153;go_wp2;go_ret;exact⟨qae HE.out.symm,Still.refl _⟩
theorem qoY(A A':Option Addr)(c c':Nat)(xs ys:List Int)(w:World)(h:Row w A (qaq xs))(h':Row w A' (qaq ys))(hn:xs.length≤9223372036854775807) :
  Calls Tryz.prog 196 #[.slice A xs.length c,.slice A' ys.length c'] w fun e w'=>e=.returned (.bool (qkW xs ys))∧Still w w':=by
 have H:=hJ h;clear h;have H':=hJ h';clear h';by_cases hl:xs.length=ys.length
 ·have HL:=hJ hl;have hb:((xs.length:Int) != (ys.length:Int))=false:=by simp[hl]
  have hle:ys.length≤xs.length:=by omega
  have hge:xs.length≤ys.length:=by omega
  clear hl;go_enter Tryz.func196,Tryz.ntmps196;go_wp2;go_loopw [5,13] (fun _ i wr=>∃k:Nat,k≤xs.length∧i=Jq k∧Hid (xs.take k=ys.take k)∧Still w wr) (fun _ i _=>xs.length - (intOf i).toNat)
  case atStart=>exact⟨0,zO _,rfl,rfl,Still.refl _⟩
  case round=>
   exact qr3
 ·have HE:=hJ (qkb hl);have hb:((xs.length:Int) != (ys.length:Int))=true:=by simp;omega
  clear hl;go_enter Tryz.func196,Tryz.ntmps196;go_wp2;go_ret;exact⟨qae HE.out.symm,Still.refl _⟩
theorem qoS {P : Prop} (h : P := by
 go_wp2_with (first
  | (go_at_call 21;refine(qdd _ _ _ _ _ HX.out hn HV.out).mono ?_;rintro e w1 ⟨rfl,hx1⟩;have HC1:=hJ (HC.out.ext hx1);have H1:=hJ (H0.out.trans hx1);clear hx1)
  | (go_at_call 95;refine(qg4 _ _ _ _ HC1.out hnc HCV.out).mono ?_;rintro e w2 ⟨rfl,hs2⟩))
 go_ret;exact qby (by rw[HE.out];exact Own.nil _ _ _) (H1.out.trans hs2.ext)) : P := h
theorem qoR {P : Prop} (h : P := by
 go_wp2_with (first
  | (go_at_call 21;refine(qj2 _ _ _ _ _ HX.out hn HV.out).mono ?_;rintro e w1 ⟨rfl,hx1⟩))
 go_ret;exact qby (by rw[HE.out];exact Own.nil _ _ _) (H0.out.trans hx1)) : P := h
theorem qdd(num:Int)(A:Option Addr)(c:Nat)(xs:List Int)(w:World)(h:Row w A (qaq xs))(hn:xs.length≤9223372036854775807)(hv:qap num xs=true) :
  Calls Tryz.prog 21 #[.agg #[Jq num,.slice A xs.length c]] w fun e w'=>e=.returned (.bool true)∧Ext w w':=by
 rw[←hv];exact qgr num A c xs w h hn
theorem qj2(num:Int)(A:Option Addr)(c:Nat)(xs:List Int)(w:World)(h:Row w A (qaq xs))(hn:xs.length≤9223372036854775807)(hv:qap num xs=false) :
  Calls Tryz.prog 21 #[.agg #[Jq num,.slice A xs.length c]] w fun e w'=>e=.returned (.bool false)∧Ext w w':=by
 rw[←hv];exact qgr num A c xs w h hn
theorem qda(A:Option Addr)(c:Nat)(xs:List Int)(w:World)(h:Row w A (qaq xs))(hn:xs.length≤9223372036854775807)(hv:qdY xs 32=true) :
  Calls Tryz.prog 95 #[.slice A xs.length c] w fun e w'=>e=.returned (.bool true)∧Still w w':=by
 rw[←hv];exact qgb A c xs w h hn
theorem qg4(A:Option Addr)(c:Nat)(xs:List Int)(w:World)(h:Row w A (qaq xs))(hn:xs.length≤9223372036854775807)(hv:qdY xs 32=false) :
  Calls Tryz.prog 95 #[.slice A xs.length c] w fun e w'=>e=.returned (.bool false)∧Still w w':=by
 rw[←hv];exact qgb A c xs w h hn
theorem qkF(num:Int)(A Ac:Option Addr)(c cc:Nat)(xs cut:List Int)(w:World)(hx:Row w A (qaq xs))(hc:Row w Ac (qaq cut))
  (hn:xs.length≤9223372036854775807) (hnc:cut.length≤9223372036854775807) :
  Calls Tryz.prog 97 #[.agg #[Jq num,.slice A xs.length c],.slice Ac cut.length cc] w (GivesI w (qa6 num xs cut)):=by
 have H0:=hJ (Ext.new w (.cells #[Jq num,.slice A xs.length c] 46));have HX:=hJ (hx.ext H0.out);have HC:=hJ (hc.ext H0.out);clear hx hc;by_cases hv:qcu num xs cut=true
 ·have HE:Hid (qa6 num xs cut=qbR cut xs false):=if_pos hv;have hb:cut.length≤1000000:=by have:=(qc9 (m:=32) (qbg.1 hv).2).2;omega
  have HV:=hJ (qbg.1 hv);clear hv;go_enter Tryz.func97,Tryz.ntmps97;go_wp2_with (first
   | (go_at_call 21;refine(qdd _ _ _ _ _ HX.out hn HV.out.1).mono ?_;rintro e w1 ⟨rfl,hx1⟩;have q1:=hx1.cell_new 1;simp at q1;have HX1:=hJ (HX.out.ext hx1);have HC1:=hJ (HC.out.ext hx1);have H1:=hJ (H0.out.trans hx1);clear hx1)
   | (go_at_call 95;refine(qda _ _ _ _ HC1.out hnc HV.out.2).mono ?_;rintro e w2 ⟨rfl,hs2⟩;have q2:=(hs2.ext.cell (p:=⟨w.heap.size,1,none⟩) (by have:=H1.out.size;exact World.block_lt_of_cell? _ _ q1)).trans q1;have HX2:=hJ (HX1.out.ext hs2.ext);have HC2:=hJ (HC1.out.ext hs2.ext);have H2:=hJ (H1.out.trans hs2.ext);clear hs2)
   | (go_at_call 162;refine(qi1 _ _ _ _ _ _ _ _ HC2.out HX2.out hb hn).mono ?_;rintro e w3 ⟨A3,c3,rfl,hc3,hm3,ho3,hx3⟩))
  go_ret;exact(qby (by rw[HE.out];exact ho3) hx3).from H2.out
 ·have hv':qcu num xs cut=false:=by simpa using hv
  have HE:Hid (qa6 num xs cut=[]):=if_neg hv;clear hv;rcases qeT hv' with hv|⟨hv,hcv⟩
  ·have HV:=hJ hv;clear hv hv';go_enter Tryz.func97,Tryz.ntmps97;exact qoR
  ·have HV:=hJ hv;have HCV:=hJ hcv;clear hv hcv hv';go_enter Tryz.func97,Tryz.ntmps97;exact qoS
theorem qfk(num:Int)(A Ac:Option Addr)(c cc:Nat)(xs cut:List Int)(w:World)(hx:Row w A (qaq xs))(hc:Row w Ac (qaq cut))
  (hn:xs.length≤9223372036854775807) (hnc:cut.length≤9223372036854775807) :
  Calls Tryz.prog 96 #[.agg #[Jq num,.slice A xs.length c],.slice Ac cut.length cc] w (GivesI w (qau num xs cut)):=by
 have H0:=hJ (Ext.new w (.cells #[Jq num,.slice A xs.length c] 46));have HX:=hJ (hx.ext H0.out);have HC:=hJ (hc.ext H0.out);clear hx hc;by_cases hv:qcu num xs cut=true
 ·have HE:Hid (qau num xs cut=qbR xs cut false):=if_pos hv;have hb:xs.length≤1000000:=by have:=(qaU (qbg.1 hv).1).2;omega
  have HV:=hJ (qbg.1 hv);clear hv;go_enter Tryz.func96,Tryz.ntmps96;go_wp2_with (first
   | (go_at_call 21;refine(qdd _ _ _ _ _ HX.out hn HV.out.1).mono ?_;rintro e w1 ⟨rfl,hx1⟩;have q1:=hx1.cell_new 1;simp at q1;have HX1:=hJ (HX.out.ext hx1);have HC1:=hJ (HC.out.ext hx1);have H1:=hJ (H0.out.trans hx1);clear hx1)
   | (go_at_call 95;refine(qda _ _ _ _ HC1.out hnc HV.out.2).mono ?_;rintro e w2 ⟨rfl,hs2⟩;have q2:=(hs2.ext.cell (p:=⟨w.heap.size,1,none⟩) (by have:=H1.out.size;exact World.block_lt_of_cell? _ _ q1)).trans q1;have HX2:=hJ (HX1.out.ext hs2.ext);have HC2:=hJ (HC1.out.ext hs2.ext);have H2:=hJ (H1.out.trans hs2.ext);clear hs2)
   | (go_at_call 162;refine(qi1 _ _ _ _ _ _ _ _ HX2.out HC2.out hb hnc).mono ?_;rintro e w3 ⟨A3,c3,rfl,hc3,hm3,ho3,hx3⟩))
  go_ret;exact(qby (by rw[HE.out];exact ho3) hx3).from H2.out
 ·have hv':qcu num xs cut=false:=by simpa using hv
  have HE:Hid (qau num xs cut=[]):=if_neg hv;clear hv;rcases qeT hv' with hv|⟨hv,hcv⟩
  ·have HV:=hJ hv;clear hv hv';go_enter Tryz.func96,Tryz.ntmps96;exact qoR
  ·have HV:=hJ hv;have HCV:=hJ hcv;clear hv hcv hv';go_enter Tryz.func96,Tryz.ntmps96;exact qoS
theorem qnS {P : Prop} (h : P := by
 clear h2;go_wp2;exact bodyPost_ret (v:=.tuple #[.agg #[Jq 0,Zq],Jq 5]) (by simp[results,Tryz.results28,go_sem,q2,q3]) rfl (qeB HF.out (Own.nil _ _ _) (((H0.out.trans H4.out).set (by simp) _).set (by simp) _))) : P := h
theorem qri(num:Int)(A Ac:Option Addr)(c cc:Nat)(xs cut:List Int)(w:World)(hx:Row w A (qaq xs))(hc:Row w Ac (qaq cut))
  (hn:xs.length≤9223372036854775807) (hnc:cut.length≤9223372036854775807) (hv:qcu num xs cut=false) :
  Calls Tryz.prog 28 #[.agg #[Jq num,.slice A xs.length c],.slice Ac cut.length cc] w (qhR w (qb9 num xs cut)):=by
 have H0:=hJ (qeu w num (.slice A xs.length c));have HX:=hJ (hx.ext H0.out);have HC:=hJ (hc.ext H0.out);clear hx hc;have HE:Hid (qb9 num xs cut=(0,[],1)):=if_pos hv;rcases qeT hv with hv|⟨hv,hcv⟩
 ·have HV:=hJ hv;clear hv;go_enter Tryz.func28,Tryz.ntmps28;go_wp2_with (first
   | (go_at_call 21;refine(qj2 _ _ _ _ _ HX.out hn HV.out).mono ?_;rintro e w1 ⟨rfl,hx1⟩;obtain⟨q0,q1,q2,q3,q4,q5,q6⟩:=qaN hx1;have H1:=hJ (Ext.trans H0.out hx1);clear hx1))
  exact bodyPost_ret (v:=.tuple #[.agg #[Jq 0,Zq],Jq 1]) (by simp[results,Tryz.results28,go_sem,q2,q3]) rfl (qeB HE.out (Own.nil _ _ _) ((H1.out.set (by simp) _).set (by simp) _))
 ·have HV:=hJ hv;have HCV:=hJ hcv;clear hv hcv;go_enter Tryz.func28,Tryz.ntmps28;go_wp2_with (first
   | (go_at_call 21;refine(qdd _ _ _ _ _ HX.out hn HV.out).mono ?_;rintro e w1 ⟨rfl,hx1⟩;have HC1:=hJ (HC.out.ext hx1);have H1:=hJ hx1;clear hx1)
   | (go_at_call 95;refine(qg4 _ _ _ _ HC1.out hnc HCV.out).mono ?_;rintro e w2 ⟨rfl,hs2⟩;have H2:=hJ (H1.out.trans hs2.ext);clear hs2;obtain⟨q0,q1,q2,q3,q4,q5,q6⟩:=qaN H2.out))
  exact bodyPost_ret (v:=.tuple #[.agg #[Jq 0,Zq],Jq 1]) (by simp[results,Tryz.results28,go_sem,q2,q3]) rfl (qeB HE.out (Own.nil _ _ _) (((H0.out.trans H2.out).set (by simp) _).set (by simp) _))
theorem qoF(num:Int)(A Ac:Option Addr)(c cc:Nat)(xs cut:List Int)(w:World)(hx:Row w A (qaq xs))(hc:Row w Ac (qaq cut))
  (hn:xs.length≤9223372036854775807) (hnc:cut.length≤9223372036854775807) (hv:qcu num xs cut=true) :
  Calls Tryz.prog 28 #[.agg #[Jq num,.slice A xs.length c],.slice Ac cut.length cc] w (qhR w (qb9 num xs cut)):=by
 have H0:=hJ (qeu w num (.slice A xs.length c));have HX:=hJ (hx.ext H0.out);have HC:=hJ (hc.ext H0.out);clear hx hc;have HV:=hJ (qbg.1 hv);have HO:=hJ hv;have hl1:xs.length≤16:=(qaU HV.out.1).2;have hl2:cut.length≤32:=(qc9 (m:=32) HV.out.2).2;have hsl:=ql2 HO.out;have hjl:=qmH HO.out;have hnum:=qaV HV.out.1;clear hv;by_cases h1:2*(qau num xs cut).length≤xs.length
 ·have HF:=hJ (qhu HO.out h1);go_enter Tryz.func28,Tryz.ntmps28;go_wp2_with (first
   | (go_at_call 21;refine(qdd _ _ _ _ _ HX.out hn HV.out.1).mono ?_;rintro e w1 ⟨rfl,hx1⟩;have HX1:=hJ (HX.out.ext hx1);have HC1:=hJ (HC.out.ext hx1);have H1:=hJ hx1;clear hx1)
   | (go_at_call 95;refine(qda _ _ _ _ HC1.out hnc HV.out.2).mono ?_;rintro e w2 ⟨rfl,hs2⟩;have H2:=hJ (H1.out.trans hs2.ext);have HX2:=hJ (HX1.out.ext hs2.ext);have HC2:=hJ (HC1.out.ext hs2.ext);clear hs2;obtain⟨q0,q1,q2,q3,q4,q5,q6⟩:=qaN H2.out)
   | (go_at_call 96;refine(qfk _ _ _ _ _ _ _ _ HX2.out HC2.out hn hnc).mono ?_;rintro e w3 ⟨A3,c3,rfl,hc3,hm3,ho3,hx3⟩;have H3:=hJ (H2.out.trans hx3);have HX3:=hJ (HX2.out.ext hx3);have HC3:=hJ (HC2.out.ext hx3);clear hx3 q0 q1 q2 q3 q4 q5 q6;obtain⟨q0,q1,q2,q3,q4,q5,q6⟩:=qaN H3.out))
  exact bodyPost_ret (v:=.tuple #[.agg #[Jq 0,Zq],Jq 9]) (by simp[results,Tryz.results28,go_sem,q2,q3]) rfl (qeB HF.out (Own.nil _ _ _) (((H0.out.trans H3.out).set (by simp) _).set (by simp) _))
 ·have h1':xs.length<2*(qau num xs cut).length:=by omega
  have HN1:=hJ h1;clear h1;go_enter Tryz.func28,Tryz.ntmps28;go_wp2_with (first
   | (go_at_call 21;refine(qdd _ _ _ _ _ HX.out hn HV.out.1).mono ?_;rintro e w1 ⟨rfl,hx1⟩;have HX1:=hJ (HX.out.ext hx1);have HC1:=hJ (HC.out.ext hx1);have H1:=hJ hx1;clear hx1)
   | (go_at_call 95;refine(qda _ _ _ _ HC1.out hnc HV.out.2).mono ?_;rintro e w2 ⟨rfl,hs2⟩;have H2:=hJ (H1.out.trans hs2.ext);have HX2:=hJ (HX1.out.ext hs2.ext);have HC2:=hJ (HC1.out.ext hs2.ext);clear hs2;obtain⟨q0,q1,q2,q3,q4,q5,q6⟩:=qaN H2.out)
   | (go_at_call 96;refine(qfk _ _ _ _ _ _ _ _ HX2.out HC2.out hn hnc).mono ?_;rintro e w3 ⟨A3,c3,rfl,hc3,hm3,ho3,hx3⟩;have H3:=hJ (H2.out.trans hx3);have HX3:=hJ (HX2.out.ext hx3);have HC3:=hJ (HC2.out.ext hx3);clear hx3 q0 q1 q2 q3 q4 q5 q6;obtain⟨q0,q1,q2,q3,q4,q5,q6⟩:=qaN H3.out)
   | (go_at_call 97;fail))
  refine(qkF _ _ _ _ _ _ _ _ HX3.out HC3.out hn hnc).mono ?_;rintro e w4 ⟨A4,c4,rfl,hc4,hm4,ho4,hx4⟩;have H4:=hJ (H3.out.trans hx4);have HS:=hJ (Own.base (B':=w.heap.size+2) (ho3.ext hx4) (qaN H2.out).2.2.2.2.2.2);have HJ:=hJ ho4.row;clear hx4 q0 q1 q2 q3 q4 q5 q6 HX1 HC1 HX2 HC2 HX3 HC3 ho3 ho4;obtain⟨q0,q1,q2,q3,q4,q5,q6⟩:=qaN H4.out;by_cases h2:num=1099511627776
  ·have HF:=hJ (qeX HO.out HN1.out (.inl h2));have h2b:(num == 1099511627776)=true:=by simpa using h2
   exact qnS
  ·have h2b:(num == 1099511627776)=false:=by simpa using h2
   by_cases h3:16<(qau num xs cut).length+(qa6 num xs cut).length
   ·have HF:=hJ (qeX HO.out HN1.out (.inr h3));exact qnS
   ·have HF:=hJ (qi5 HO.out HN1.out (by omega));have h3':(qau num xs cut).length+(qa6 num xs cut).length≤16:=by omega
    have h2':num<1099511627776:=by omega
    clear h2 h3;go_wp2;go_loopw [6,8] (fun v i wr=>∃(k:Nat) (A5:Option Addr) (c5:Nat),k≤(qa6 num xs cut).length∧v=.slice A5 (qcT (qau num xs cut) (qa6 num xs cut) k).length c5∧i=Jq k∧Own wr (w.heap.size+2) 3 (.slice A5 (qcT (qau num xs cut) (qa6 num xs cut) k).length c5) (qaq (qcT (qau num xs cut) (qa6 num xs cut) k))∧Ext w4 wr) (fun _ i _=>(qa6 num xs cut).length - (intOf i).toNat)
    case atStart=>exact⟨0,A3,c3,zO _,rfl,rfl,HS.out,Below.refl _ _⟩
    case round=>
     obtain⟨k,A5,c5,hk,rfl,rfl,ho5,hx5⟩:=hrel;have hfl:=qlD (s:=qau num xs cut) k hk;have hfl':(qcT (qau num xs cut) (qa6 num xs cut) k).length≤100:=by omega
     clear hfl;have H5:=hJ (H4.out.trans hx5);have HJ5:=hJ (HJ.out.ext hx5);by_cases hlt:k<(qa6 num xs cut).length
     ·obtain⟨bk,off,x,hA,hc,HXx⟩:=HJ5.out.at_ hlt;have hA':=hJ hA;subst hA;go_wp2_with (first
       | (go_at_call 98;refine(qk0 _ _ _ _ _ ho5.row (by omega)).mono ?_;rintro e w6 ⟨A6,c6,rfl,hc6,hm6,ho6,hx6⟩))
      go_roundw
      case rel=>exact⟨k+1,A6,c6,by omega,by rw[qe5 HXx.out],by go_num,by rw[qe5 HXx.out];exact ho6.base (qaN H5.out).2.2.2.2.2.2,hx5.trans hx6⟩
      case measure=>simp[intOf];omega
     ·clear q0 q1 q2 q3 q4 q5 q6;obtain⟨q0,q1,q2,q3,q4,q5,q6⟩:=qaN H5.out;have HFI:=hJ (qkX (s:=qau num xs cut) hlt (qnE num xs cut));go_wp2;refine bodyPost_ret (v:=.tuple #[.agg #[Jq (num+1),.slice A5 (qcT (qau num xs cut) (qa6 num xs cut) k).length c5],Jq 0]) (by simp[results,Tryz.results28,go_sem,q2,q3]) rfl (qeB HF.out ?_ (((H0.out.trans H5.out).set (by simp) _).set (by simp) _));rw[←HFI.out];refine Own.set (Own.set (ho5.base (by omega)) ?_ _) ?_ _
      ·intro k' hk';have:=(ho5.lt k' hk').1;simp;omega
      ·intro k' hk';have:=(ho5.lt k' hk').1;simp;omega
theorem qkA(num:Int)(A Ac:Option Addr)(c cc:Nat)(xs cut:List Int)(w:World)(hx:Row w A (qaq xs))(hc:Row w Ac (qaq cut))
  (hn:xs.length≤9223372036854775807) (hnc:cut.length≤9223372036854775807) :
  Calls Tryz.prog 28 #[.agg #[Jq num,.slice A xs.length c],.slice Ac cut.length cc] w (qhR w (qb9 num xs cut)):=by
 cases h:qcu num xs cut
 ·exact qri num A Ac c cc xs cut w hx hc hn hnc h
 ·exact qoF num A Ac c cc xs cut w hx hc hn hnc h
theorem qrK(num:Int)(A Ac:Option Addr)(c cc:Nat)(xs cut:List Int)(w:World)(hx:Row w A (qaq xs))(hc:Row w Ac (qaq cut))
  (hn:xs.length≤9223372036854775807) (hnc:cut.length≤9223372036854775807) :
  Calls Tryz.prog 194 #[.agg #[Jq num,.slice A xs.length c],.slice Ac cut.length cc] w (qhR w (qb9 num xs cut)):=by
 cases h:qcu num xs cut
 ·exact qsS num A Ac c cc xs cut w hx hc hn hnc h
 ·exact qrw num A Ac c cc xs cut w hx hc hn hnc h
def qfr(w:World)(n:Int)(s:Value)(m:Int)(t:Value):World:=(w.alloc (.cells #[.int .i64 n,s] 46)).alloc (.cells #[.int .i64 m,t] 46)
theorem qcS{w w1:World}{n m:Int}{s t:Value}(h:Ext (qfr w n s m t) w1) :
  w1.cell? (Pq w.heap.size 0)=some (Jq n)∧w1.cell? (Pq w.heap.size 1)=some s∧
  w1.cell? (Pq (w.heap.size+1) 0)=some (Jq m)∧w1.cell? (Pq (w.heap.size+1) 1)=some t:=by
 refine⟨?_,?_,?_,?_⟩
 ·rw[h.cell (p:=(Pw w 0)) (by simp[qfr];omega)];simp[qfr]
 ·rw[h.cell (p:=(Pw w 1)) (by simp[qfr];omega)];simp[qfr]
 ·rw[h.cell (p:=(Pv w 0)) (by simp[qfr])];simp[qfr]
 ·rw[h.cell (p:=(Pv w 1)) (by simp[qfr])];simp[qfr]
theorem qng(w:World)(n m:Int)(s t:Value):Ext w (qfr w n s m t):=(Ext.new w _).alloc _
theorem Own.cap{w:World}{B:Nat}{e:TypeId}{A:Option Addr}{n c:Nat}{xs:List Value}(h:Own w B e (.slice A n c) xs):n≤c:=by
 obtain⟨_,h2⟩:=h;rcases h2 with ⟨hv,_⟩|⟨g,cap,cur,hv,_,_,h3,_⟩
 ·cases hv;exact zR _
 ·injection hv with _ h4 h5
  omega
theorem qqA(n m:Int)(A B:Option Addr)(c d:Nat)(xs ys:List Int)(w:World)(hx:Row w A (qaq xs))(hy:Row w B (qaq ys))
  (hn:xs.length≤9223372036854775807) (hm:ys.length≤9223372036854775807) :
  Calls Tryz.prog 195 #[.agg #[Jq n,.slice A xs.length c],.agg #[Jq m,.slice B ys.length d]] w (GivesI w (qfD n xs m ys)):=by
 have H0:=hJ (qng w n m (.slice A xs.length c) (.slice B ys.length d));have HX:=hJ (hx.ext H0.out);have HY:=hJ (hy.ext H0.out);clear hx hy;by_cases hv:qap n xs=true
 ·have HV:=hJ hv;clear hv;by_cases hv':qap m ys=true
  ·have HV':=hJ hv';clear hv';have HF:=hJ (qkk HV.out HV'.out);have hl1:xs.length≤16:=(qaU HV.out).2;have hl2:ys.length≤16:=(qaU HV'.out).2;have hl3:=qeb xs ys false;have hl4:=qeb ys xs false;go_enter Tryz.func195,Tryz.ntmps195;go_wp2_with fail;refine(qcO _ _ _ _ _ HX.out hn HV.out).mono ?_;rintro e w1 ⟨rfl,hx1⟩;have H1:=hJ hx1;have HX1:=hJ (HX.out.ext hx1);have HY1:=hJ (HY.out.ext hx1);clear hx1;obtain⟨q0,q1,q2,q3⟩:=qcS H1.out;go_wp2_with fail;refine(qcO _ _ _ _ _ HY1.out hm HV'.out).mono ?_;rintro e w2 ⟨rfl,hx2⟩;have H2:=hJ (H1.out.trans hx2);have HX2:=hJ (HX1.out.ext hx2);have HY2:=hJ (HY1.out.ext hx2);clear hx2 q0 q1 q2 q3 HX1 HY1 H1;obtain⟨q0,q1,q2,q3⟩:=qcS H2.out;go_wp2_with fail;refine(qga _ _ _ _ _ _ _ _ _ _ _ _ _ _ HX2.out HY2.out HX2.out HY2.out hn hm (by omega) hm HV.out (qmx (qbC HV'.out))).mono ?_;rintro e w3 ⟨A3,c3,A3',c3',rfl,ho3,ho3',hx3⟩;have H3:=hJ (H2.out.trans hx3);have HX3:=hJ (HX2.out.ext hx3);have HY3:=hJ (HY2.out.ext hx3);clear hx3 q0 q1 q2 q3 HX2 HY2 H2;obtain⟨q0,q1,q2,q3⟩:=qcS H3.out;go_wp2_with fail;refine(qga _ _ _ _ _ _ _ _ _ _ _ _ _ _ HX3.out HY3.out HY3.out HX3.out hn hm (by omega) hn HV.out (qmx (qbC HV'.out))).mono ?_;rintro e w4 ⟨A4,c4,A4',c4',rfl,ho4,ho4',hx4⟩;have H4:=hJ (H3.out.trans hx4);have HR3:=hJ (ho3'.ext hx4).row;have hc3:=ho3'.cap;clear hx4 q0 q1 q2 q3 HX3 HY3 H3;obtain⟨q0,q1,q2,q3⟩:=qcS H4.out;go_wp2_with fail;refine(qjS _ _ _ _ _ _ _ HR3.out ho4'.row hc3 (by omega) (by omega)).mono ?_;rintro e w5 ⟨A5,c5,rfl,hc5,hm5,ho5,hx5⟩;go_wp2;go_ret;exact(qby (by rw[HF.out];exact ho5) hx5).from (H0.out.trans H4.out)
  ·have hv2:qap m ys=false:=by simpa using hv'
   have HV':=hJ hv2;clear hv' hv2;have HF:=hJ (qpv (n:=n) (xs:=xs) HV'.out);go_enter Tryz.func195,Tryz.ntmps195;go_wp2_with fail;refine(qcO _ _ _ _ _ HX.out hn HV.out).mono ?_;rintro e w1 ⟨rfl,hx1⟩;have H1:=hJ hx1;have HY1:=hJ (HY.out.ext hx1);clear hx1;obtain⟨q0,q1,q2,q3⟩:=qcS H1.out;go_wp2_with fail;refine(qf9 _ _ _ _ _ HY1.out hm HV'.out).mono ?_;rintro e w2 ⟨rfl,hx2⟩;go_wp2;go_ret;exact qby (by rw[HF.out];exact Own.nil _ _ _) (H0.out.trans (H1.out.trans hx2))
 ·have hv2:qap n xs=false:=by simpa using hv
  have HV:=hJ hv2;clear hv hv2;have HF:=hJ (qoI (m:=m) (ys:=ys) HV.out);go_enter Tryz.func195,Tryz.ntmps195;go_wp2_with fail;refine(qf9 _ _ _ _ _ HX.out hn HV.out).mono ?_;rintro e w1 ⟨rfl,hx1⟩;go_wp2;go_ret;exact qby (by rw[HF.out];exact Own.nil _ _ _) (H0.out.trans hx1)
def qgk(xs:List Int):List UInt8:=xs.flatMap fun x=>qa4 (zig x)
theorem qkw{xs:List Int}{k:Nat}{x:Int}(h:xs[k]?=some x):qgk (xs.take (k+1))=qgk (xs.take k)++qa4 (zig x):=by
 unfold qgk;rw[qbv h];simp
theorem qqZ{xs:List Int}{k:Nat}(h:¬k<xs.length):qgk (xs.take k)=qgk xs:=by rw[List.take_of_length_le (by omega)]
theorem ql6{xs:List Int}(h:∀x∈xs,I64 x)(k:Nat):(qgk (xs.take k)).length≤11*k:=by
 induction k with
 | zero=>simp[qgk]
 | succ k ih=>
  cases hx:xs[k]? with
  | none=>
   have:xs.take (k+1)=xs.take k:=by rw[List.take_add_one,hx];simp
   rw[this];omega
  | some x=>
   rw[qkw hx,zA];have:=qaz (qol (h x (zX hx)));omega
theorem qlO{n:Nat}(h:n≤1000000):n<U64:=by unfold U64;omega
theorem qip(A A':Option Addr)(c c':Nat)(bs:List UInt8)(xs:List Int)(w:World)(h:Row w A (qac bs))(h':Row w A' (qaq xs))(hl:bs.length≤1000000)(hn:xs.length≤1000000)(hb:∀x∈xs,I64 x) :
  Calls Tryz.prog 193 #[.slice A bs.length c,.slice A' xs.length c'] w (GivesB w (bs++qa4 xs.length++qgk xs)):=by
 have H:=hJ h;have H':=hJ h';have HB:=hJ hb;clear h h' hb;go_enter Tryz.func193,Tryz.ntmps193;go_wp2_with fail;rw[show (10:Int)+2*(xs.length:Int)=((10+2*xs.length:Nat):Int) by omega];refine(qdg A c bs (10+2*xs.length) w H.out (by omega) (by omega)).mono ?_;rintro e w1 ⟨A1,c1,rfl,hc1,hm1,ho1,hx1⟩;have hwl:IntKind.u64.wrap (xs.length:Int)=(xs.length:Int):=qcU (qlO hn);go_wp2_with fail;refine(qdx w.heap.size _ bs xs.length w1 ho1 hx1.size (by omega) (qlO hn)).mono ?_;rintro e w2 ⟨v2,rfl,ho2,hg2,hs2⟩;have hx2:=hJ (hg2.below hx1 hx1.size (fun k hk=>(ho1.lt k hk).1));have hl2:=qaz (qlO hn);clear hwl;go_wp2;go_loopw [5,7,20] (fun v _ i wr=>∃k:Nat,k≤xs.length∧i=Jq k∧Own wr w.heap.size 5 v (qac (bs++qa4 xs.length++qgk (xs.take k)))∧Ext w wr) (fun _ _ i _=>xs.length - (intOf i).toNat)
 case atStart=>exact⟨0,zO _,rfl,by simpa[qgk] using ho2,hx2.out⟩
 case round=>
  obtain⟨k,hk,rfl,ho,hx⟩:=hrel;have hel:=ql6 HB.out k;by_cases hlt:k<xs.length
  ·obtain⟨b,off,x,hA,hc,HX⟩:=(H'.out.ext hx).at_ hlt;subst hA;have hlen:(bs++qa4 xs.length++qgk (xs.take k)).length≤1000000000:=by simp only[zA];omega
   go_wp2_with fail;refine(qiS w.heap.size _ _ x wr ho hx.size hlen (HB.out x (zX HX.out))).mono ?_;rintro e w3 ⟨v3,rfl,ho3,hg3,hs3⟩;go_wp2;go_roundw
   case rel=>exact⟨k+1,by omega,by go_num,by rw[qkw HX.out,←List.append_assoc];exact ho3,hg3.below hx hx.size (fun k hk=>(ho.lt k hk).1)⟩
   case measure=>simp[intOf];omega
  ·go_wp2;go_ret;exact qdz (by rw[qqZ hlt] at ho;exact ho) hx
def qqe(num:Int)(xs:List Int):List UInt8:=if qap num xs then qa4 num.toNat++qa4 xs.length++qgk xs else []
theorem ql7{num:Int}{xs:List Int}(h:qap num xs=true):qqe num xs=qa4 num.toNat++qa4 xs.length++qgk xs:=if_pos h
theorem qtl{num:Int}{xs:List Int}(h:qap num xs=false):qqe num xs=[]:=if_neg (by simp[h])
theorem qoD{num:Int}{xs:List Int}(h:qap num xs=true):∀x∈xs,I64 x:=by
 intro x hx;have:=((qcN (m:=16)).1 (qbC h)).2.2.2 x hx;unfold I64;omega
def qd4:List UInt8→Nat→Nat→Nat×Nat×Int
 | [],_,_=>(0,0,2)
 | c::cs,i,v=>
  if (i=9∧1<c.toNat)∨(0<i∧c.toNat=0) then (0,0,3)
  else if c.toNat<128 then (v+c.toNat % 128*2 ^ (7*i),i+1,0)
  else qd4 cs (i+1) (v+c.toNat % 128*2 ^ (7*i))
def qbt(bs:List UInt8):Nat×Nat×Int:=qd4 bs 0 0
section
variable {bs:List UInt8} {k v:Nat} {c:UInt8}
theorem qts(h:bs[k]?=some c):bs.drop k=c::bs.drop (k+1):=by
 obtain⟨hk,rfl⟩:=zZ h;exact List.drop_eq_getElem_cons hk
theorem qn0(h:¬k<bs.length):qd4 (bs.drop k) k v=(0,0,2):=by rw[List.drop_of_length_le (by omega)];rfl
theorem qia(h:bs[k]?=some c)(hb:(k=9∧1<c.toNat)∨(0<k∧c.toNat=0)):qd4 (bs.drop k) k v=(0,0,3):=by
 rw[qts h,qd4,if_pos hb]
theorem qiX(h:bs[k]?=some c)(hb:¬((k=9∧1<c.toNat)∨(0<k∧c.toNat=0)))(hc:c.toNat<128):qd4 (bs.drop k) k v=(v+c.toNat % 128*2 ^ (7*k),k+1,0):=by
 rw[qts h,qd4,if_neg hb,if_pos hc]
theorem qnl(h:bs[k]?=some c)(hb:¬((k=9∧1<c.toNat)∨(0<k∧c.toNat=0)))(hc:¬c.toNat<128):qd4 (bs.drop k) k v=qd4 (bs.drop (k+1)) (k+1) (v+c.toNat % 128*2 ^ (7*k)):=by
 rw[qts h,qd4,if_neg hb,if_neg hc]
end
theorem qqq(bs:List UInt8):∀i v,i≤9→v<2 ^ (7*i)→(qd4 bs i v).1<U64∧(qd4 bs i v).2.1≤i+bs.length∧(qd4 bs i v).2.1≤10:=by
 induction bs with
 | nil=>intro i v _ _;simp[qd4,U64]
 | cons c cs ih=>
  intro i v hi hv;unfold qd4;split
  ·simp[U64]
  ·next hb=>
   have hc:c.toNat % 128<128:=Nat.mod_lt _ (by decide);have hp:(2:Nat) ^ (7*(i+1))=128*2 ^ (7*i):=by rw[show 7*(i+1)=7+7*i by omega,Nat.pow_add]
   have hsum:v+c.toNat % 128*2 ^ (7*i)<2 ^ (7*(i+1)):=by
    rw[hp];have h1:c.toNat % 128*2 ^ (7*i)≤127*2 ^ (7*i):=Nat.mul_le_mul_right _ (by omega);omega
   split
   ·refine⟨?_,by simp only[zK];omega,by show i+1≤10;omega⟩;rcases Nat.lt_or_ge i 9 with h9|h9
    ·have h2:(2:Nat) ^ (7*(i+1))≤2 ^ 63:=Nat.pow_le_pow_right (by decide) (by omega);unfold U64;simp only;omega
    ·have:i=9:=by omega
     subst this;have h1:c.toNat % 128≤1:=by
      have:c.toNat≤1:=by
       rcases Nat.lt_or_ge 1 c.toNat with h|h
       ·exact absurd (.inl ⟨rfl,h⟩) hb
       ·exact h
      omega
     have h2:c.toNat % 128*2 ^ (7*9)≤1*2 ^ 63:=Nat.mul_le_mul h1 (by decide);unfold U64;simp only;have h3:v<2 ^ 63:=hv;omega
   ·next hge=>
    have h9:i<9:=by
     rcases Nat.lt_or_ge i 9 with h|h
     ·exact h
     ·exact absurd (.inl ⟨by omega,by omega⟩) hb
    have:=ih (i+1) _ (by omega) hsum;simp only[zK];omega
theorem qhC(bs:List UInt8):(qbt bs).1<U64∧(qbt bs).2.1≤bs.length∧(qbt bs).2.1≤10:=by
 have:=qqq bs 0 0 (by omega) (by decide);unfold qbt;omega
theorem qt5(m:Fin 256):bits .and .u8 (m.val:Int) 127=((m.val % 128:Nat):Int):=by revert m;decide +kernel
theorem qon{m:Nat}(h:m<256):bits .and .u8 (m:Int) 127=((m % 128:Nat):Int):=qt5 ⟨m,h⟩
theorem qr9(a b:Nat)(ha:a<18446744073709551616)(hb:b<18446744073709551616):bits .or .u64 (a:Int) (b:Int)=((a||| b:Nat):Int):=by
 have e:∀x:Nat,x<18446744073709551616→(BitVec.ofInt 64 (x:Int)).toNat=x:=fun x hx=>by
  rw[BitVec.ofInt_natCast,BitVec.toNat_ofNat];exact Nat.mod_eq_of_lt hx
 have hx:a||| b<2 ^ 64:=Nat.or_lt_two_pow (by omega) (by omega);show IntKind.u64.wrap ((BitVec.ofInt 64 (a:Int)||| BitVec.ofInt 64 (b:Int)).toNat:Int)=_;rw[BitVec.toNat_or,e a ha,e b hb,IntKind.wrap_u64];omega
theorem qsk(v x s:Nat)(hv:v<2 ^ s):v||| x*2 ^ s=v+x*2 ^ s:=by
 have:=Nat.shiftLeft_add_eq_or_of_lt hv x;rw[Nat.shiftLeft_eq] at this;rw[Nat.or_comm,←this];omega
theorem qjd{v m k:Nat}(hm:m<256)(hv:v<2 ^ (7*k))(hk:k<9) :
  bits BinOp.or IntKind.u64 (v:Int) (IntKind.u64.wrap (IntKind.u64.wrap (bits BinOp.and IntKind.u8 (m:Int) 127)*2 ^ (7*k)))=((v+m % 128*2 ^ (7*k):Nat):Int):=by
 have h1:(2:Nat) ^ (7*k)≤2 ^ 56:=Nat.pow_le_pow_right (by decide) (by omega);have h2:m % 128*2 ^ (7*k)≤127*2 ^ 56:=Nat.mul_le_mul (by omega) h1;have e0:IntKind.u64.wrap (((m % 128:Nat):Int))=((m % 128:Nat):Int):=qcU (by unfold U64;omega);have e1:((m % 128:Nat):Int)*2 ^ (7*k)=((m % 128*2 ^ (7*k):Nat):Int):=by simp
 rw[qon hm,e0,e1,qcU (by unfold U64;omega),qr9 _ _ (by omega) (by omega),qsk _ _ _ hv]
theorem qtB{v m:Nat}(hm:m≤1)(hv:v<2 ^ (7*9)) :
  bits BinOp.or IntKind.u64 (v:Int) (IntKind.u64.wrap (IntKind.u64.wrap (bits BinOp.and IntKind.u8 (m:Int) 127)*9223372036854775808))=((v+m % 128*2 ^ (7*9):Nat):Int):=by
 have hv':v<9223372036854775808:=hv;have e0:IntKind.u64.wrap (((m % 128:Nat):Int))=((m % 128:Nat):Int):=qcU (by unfold U64;omega);have e1:((m % 128:Nat):Int)*9223372036854775808=((m % 128*2 ^ (7*9):Nat):Int):=by simp
 have h2:m % 128*2 ^ (7*9)≤1*2 ^ 63:=Nat.mul_le_mul (by omega) (by decide);rw[qon (by omega),e0,e1,qcU (by unfold U64;omega),qr9 _ _ (by omega) (by omega),qsk _ _ _ hv]
theorem ql8{v m k:Nat}(hv:v<2 ^ (7*k)):v+m % 128*2 ^ (7*k)<2 ^ (7*(k+1)):=by
 have hp:(2:Nat) ^ (7*(k+1))=128*2 ^ (7*k):=by rw[show 7*(k+1)=7+7*k by omega,Nat.pow_add]
 have h1:m % 128*2 ^ (7*k)≤127*2 ^ (7*k):=Nat.mul_le_mul_right _ (by omega);omega
theorem and_one(u:Nat)(h:u<18446744073709551616):bits BinOp.and IntKind.u64 (u:Int) 1=((u % 2:Nat):Int):=by
 have e:(BitVec.ofInt 64 (u:Int)).toNat=u:=by rw[BitVec.ofInt_natCast,BitVec.toNat_ofNat];exact Nat.mod_eq_of_lt h
 show IntKind.u64.wrap ((BitVec.ofInt 64 (u:Int)&&& BitVec.ofInt 64 1).toNat:Int)=_;have e1:(BitVec.ofInt 64 1).toNat=1:=by decide
 rw[BitVec.toNat_and,e,e1,Nat.and_one_is_mod,IntKind.wrap_u64];omega
theorem qkq(a:Nat)(h:a<9223372036854775808):bits BinOp.xor IntKind.i64 (a:Int) 0=(a:Int):=by
 have e:(BitVec.ofInt 64 (a:Int)).toNat=a:=by rw[BitVec.ofInt_natCast,BitVec.toNat_ofNat];exact Nat.mod_eq_of_lt (by omega)
 show IntKind.i64.wrap ((BitVec.ofInt 64 (a:Int) ^^^ BitVec.ofInt 64 0).toNat:Int)=_;simp only[BitVec.ofInt_ofNat,BitVec.xor_zero,e,IntKind.wrap_i64];omega
theorem qjO(a:Nat)(h:a<9223372036854775808):bits BinOp.xor IntKind.i64 (a:Int) (-1) = -(a:Int) - 1:=by
 have e:(BitVec.ofInt 64 (a:Int)).toNat=a:=by rw[BitVec.ofInt_natCast,BitVec.toNat_ofNat];exact Nat.mod_eq_of_lt (by omega)
 show IntKind.i64.wrap ((BitVec.ofInt 64 (a:Int) ^^^ BitVec.ofInt 64 (-1)).toNat:Int)=_;have e1:BitVec.ofInt 64 (-1)=BitVec.allOnes 64:=by decide
 rw[e1,BitVec.xor_allOnes,BitVec.toNat_not,e,IntKind.wrap_i64];omega
theorem qnz{u:Nat}(h:u<U64):bits BinOp.xor IntKind.i64 (wrap64 ((u:Int) / 2)) (wrap64 (-wrap64 (bits BinOp.and IntKind.u64 (u:Int) 1)))=qly u:=by
 unfold U64 at h;have h1:wrap64 ((u:Int) / 2)=((u / 2:Nat):Int):=by unfold wrap64;omega
 rw[and_one u h,h1];unfold qly;split
 ·next hm=>rw[hm,show wrap64 (-wrap64 (((1:Nat):Int))) = -1 by unfold wrap64;omega,qjO _ (by omega)]
 ·next hm=>rw[show u % 2=0 by omega,show wrap64 (-wrap64 (((0:Nat):Int)))=0 by unfold wrap64;omega,qkq _ (by omega)]
def qeO(bs:List UInt8):Int×Nat×Int:=(qly (qbt bs).1,(qbt bs).2.1,(qbt bs).2.2)
def qdE(bs:List UInt8)(m:Nat):Nat×Nat×Int:=
 if (qbt bs).2.2≠0 then (0,0,(qbt bs).2.2) else if m<(qbt bs).1 then (0,0,5) else ((qbt bs).1,(qbt bs).2.1,0)
def qf7(bs:List UInt8):Nat→List Int→Nat→List Int×Nat×Int
 | 0,l,n=>(l,n,0)
 | c+1,l,n=>if (qeO (bs.drop n)).2.2=0 then qf7 bs c (l++[(qeO (bs.drop n)).1]) (n+(qeO (bs.drop n)).2.1) else ([],0,(qeO (bs.drop n)).2.2)
def qgg(bs:List UInt8)(m:Nat):List Int×Nat×Int:=
 if (qdE bs m).2.2≠0 then ([],0,(qdE bs m).2.2) else qf7 bs (qdE bs m).1 [] (qdE bs m).2.1
def qhc(bs:List UInt8):Int×List Int×Nat×Int:=
 if (qbt bs).2.2≠0 then (0,[],0,(qbt bs).2.2)
 else if 1099511627776<(qbt bs).1 then (0,[],0,3)
 else if (qgg (bs.drop (qbt bs).2.1) 16).2.2≠0 then (0,[],0,(qgg (bs.drop (qbt bs).2.1) 16).2.2)
 else if qdY (qgg (bs.drop (qbt bs).2.1) 16).1 16=false then (0,[],0,3)
 else ((qbt bs).1,(qgg (bs.drop (qbt bs).2.1) 16).1,(qbt bs).2.1+(qgg (bs.drop (qbt bs).2.1) 16).2.1,0)
theorem qgq(bs:List UInt8)(m:Nat):(qdE bs m).1≤m∧(qdE bs m).2.1≤bs.length:=by
 have:=qhC bs;unfold qdE;split
 ·exact⟨zO _,zO _⟩
 ·split
  ·exact⟨zO _,zO _⟩
  ·exact⟨by omega,this.2.1⟩
theorem qln(bs:List UInt8):(qeO bs).2.1≤bs.length:=(qhC bs).2.1
theorem qiU{bs:List UInt8}{c n:Nat}{l:List Int}(h:(qeO (bs.drop n)).2.2=0):qf7 bs (c+1) l n=qf7 bs c (l++[(qeO (bs.drop n)).1]) (n+(qeO (bs.drop n)).2.1):=by rw[qf7,if_pos h]
theorem qiK{bs:List UInt8}{c n:Nat}{l:List Int}(h:(qeO (bs.drop n)).2.2≠0):qf7 bs (c+1) l n=([],0,(qeO (bs.drop n)).2.2):=by rw[qf7,if_neg h]
end Go.Proofs.YtponbabbabnaeaaGreat
