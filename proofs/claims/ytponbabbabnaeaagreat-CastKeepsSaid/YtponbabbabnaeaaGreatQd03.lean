/- Part 3 of the proof: contracts of functions that the statement reaches. Conditions: as each theorem says. -/
import Derived.Test.YtponbabbabnaeaaGreatQd02
import Derived.Test.YtponbabbabnaeaaGreatQd01
set_option maxRecDepth 100000
namespace Go.Proofs.YtponbabbabnaeaaGreat
open Go.RowKit
theorem qok {P : Prop} (h : P := by
 go_wp2_with (first
  | (go_at_call 21;refine(qcM _ _ _ _ _ HX.out hn HV.out).mono ?_;rintro e w1 ⟨rfl,hx1⟩;have HC1:=hJ (HC.out.ext hx1);have H1:=hJ (H0.out.trans hx1);clear hx1)
  | (go_at_call 95;refine(qf4 _ _ _ _ HC1.out hnc HCV.out).mono ?_;rintro e w2 ⟨rfl,hs2⟩))
 go_ret
 exact qbj (by rw[HE.out];exact Own.nil _ _ _) (H1.out.trans hs2.ext)) : P := h
theorem qnS {P : Prop} (h : P := by
 go_wp2_with (first
  | (go_at_call 21;refine(qjn _ _ _ _ _ HX.out hn HV.out).mono ?_;rintro e w1 ⟨rfl,hx1⟩))
 go_ret
 exact qbj (by rw[HE.out];exact Own.nil _ _ _) (H0.out.trans hx1)) : P := h
theorem qcM(num:Int)(A:Option Addr)(c:Nat)(xs:List Int)(w:World)(h:Row w A (qam xs))(hn:xs.length≤9223372036854775807)(hv:qan num xs=true) :
  Calls Tryz.prog 21 #[.agg #[Jq num,.slice A xs.length c]] w fun e w'=>e=.returned (.bool true)∧Ext w w':=by
 rw[←hv];exact qfz num A c xs w h hn
theorem qjn(num:Int)(A:Option Addr)(c:Nat)(xs:List Int)(w:World)(h:Row w A (qam xs))(hn:xs.length≤9223372036854775807)(hv:qan num xs=false) :
  Calls Tryz.prog 21 #[.agg #[Jq num,.slice A xs.length c]] w fun e w'=>e=.returned (.bool false)∧Ext w w':=by
 rw[←hv];exact qfz num A c xs w h hn
theorem qcF(A:Option Addr)(c:Nat)(xs:List Int)(w:World)(h:Row w A (qam xs))(hn:xs.length≤9223372036854775807)(hv:qdP xs 32=true) :
  Calls Tryz.prog 95 #[.slice A xs.length c] w fun e w'=>e=.returned (.bool true)∧Still w w':=by
 rw[←hv];exact qe5 A c xs w h hn
theorem qf4(A:Option Addr)(c:Nat)(xs:List Int)(w:World)(h:Row w A (qam xs))(hn:xs.length≤9223372036854775807)(hv:qdP xs 32=false) :
  Calls Tryz.prog 95 #[.slice A xs.length c] w fun e w'=>e=.returned (.bool false)∧Still w w':=by
 rw[←hv];exact qe5 A c xs w h hn
theorem qjq(num:Int)(A Ac:Option Addr)(c cc:Nat)(xs cut:List Int)(w:World)(hx:Row w A (qam xs))(hc:Row w Ac (qam cut))
  (hn:xs.length≤9223372036854775807) (hnc:cut.length≤9223372036854775807) :
  Calls Tryz.prog 97 #[.agg #[Jq num,.slice A xs.length c],.slice Ac cut.length cc] w (GivesI w (qaT num xs cut)):=by
 have H0:=hJ (Ext.new w (.cells #[Jq num,.slice A xs.length c] 46))
 have HX:=hJ (hx.ext H0.out);have HC:=hJ (hc.ext H0.out)
 clear hx hc;by_cases hv:qb6 num xs cut=true
 ·have HE:Hid (qaT num xs cut=qbU cut xs false):=if_pos hv
  have hb:cut.length≤1000000:=by have:=(qds (m:=32) (qa9.1 hv).2).2;omega
  have HV:=hJ (qa9.1 hv)
  clear hv;go_enter Tryz.func97,Tryz.ntmps97
  go_wp2_with (first
   | (go_at_call 21;refine(qcM _ _ _ _ _ HX.out hn HV.out.1).mono ?_;rintro e w1 ⟨rfl,hx1⟩;have q1:=hx1.cell_new 1;simp at q1;have HX1:=hJ (HX.out.ext hx1);have HC1:=hJ (HC.out.ext hx1);have H1:=hJ (H0.out.trans hx1);clear hx1)
   | (go_at_call 95;refine(qcF _ _ _ _ HC1.out hnc HV.out.2).mono ?_;rintro e w2 ⟨rfl,hs2⟩;have q2:=(hs2.ext.cell (p:=⟨w.heap.size,1,none⟩) (by have:=H1.out.size;exact World.block_lt_of_cell? _ _ q1)).trans q1;have HX2:=hJ (HX1.out.ext hs2.ext);have HC2:=hJ (HC1.out.ext hs2.ext);have H2:=hJ (H1.out.trans hs2.ext);clear hs2)
   | (go_at_call 162;refine(qhZ _ _ _ _ _ _ _ _ HC2.out HX2.out hb hn).mono ?_;rintro e w3 ⟨A3,c3,rfl,hc3,hm3,ho3,hx3⟩))
  go_ret
  exact(qbj (by rw[HE.out];exact ho3) hx3).from H2.out
 ·have hv':qb6 num xs cut=false:=by simpa using hv
  have HE:Hid (qaT num xs cut=[]):=if_neg hv
  clear hv;rcases qeh hv' with hv|⟨hv,hcv⟩
  ·have HV:=hJ hv;clear hv hv'
   go_enter Tryz.func97,Tryz.ntmps97
   exact qnS
  ·have HV:=hJ hv;have HCV:=hJ hcv;clear hv hcv hv'
   go_enter Tryz.func97,Tryz.ntmps97
   exact qok
theorem qeK(num:Int)(A Ac:Option Addr)(c cc:Nat)(xs cut:List Int)(w:World)(hx:Row w A (qam xs))(hc:Row w Ac (qam cut))
  (hn:xs.length≤9223372036854775807) (hnc:cut.length≤9223372036854775807) :
  Calls Tryz.prog 96 #[.agg #[Jq num,.slice A xs.length c],.slice Ac cut.length cc] w (GivesI w (qar num xs cut)):=by
 have H0:=hJ (Ext.new w (.cells #[Jq num,.slice A xs.length c] 46))
 have HX:=hJ (hx.ext H0.out);have HC:=hJ (hc.ext H0.out)
 clear hx hc;by_cases hv:qb6 num xs cut=true
 ·have HE:Hid (qar num xs cut=qbU xs cut false):=if_pos hv
  have hb:xs.length≤1000000:=by have:=(qaH (qa9.1 hv).1).2;omega
  have HV:=hJ (qa9.1 hv)
  clear hv;go_enter Tryz.func96,Tryz.ntmps96
  go_wp2_with (first
   | (go_at_call 21;refine(qcM _ _ _ _ _ HX.out hn HV.out.1).mono ?_;rintro e w1 ⟨rfl,hx1⟩;have q1:=hx1.cell_new 1;simp at q1;have HX1:=hJ (HX.out.ext hx1);have HC1:=hJ (HC.out.ext hx1);have H1:=hJ (H0.out.trans hx1);clear hx1)
   | (go_at_call 95;refine(qcF _ _ _ _ HC1.out hnc HV.out.2).mono ?_;rintro e w2 ⟨rfl,hs2⟩;have q2:=(hs2.ext.cell (p:=⟨w.heap.size,1,none⟩) (by have:=H1.out.size;exact World.block_lt_of_cell? _ _ q1)).trans q1;have HX2:=hJ (HX1.out.ext hs2.ext);have HC2:=hJ (HC1.out.ext hs2.ext);have H2:=hJ (H1.out.trans hs2.ext);clear hs2)
   | (go_at_call 162;refine(qhZ _ _ _ _ _ _ _ _ HX2.out HC2.out hb hnc).mono ?_;rintro e w3 ⟨A3,c3,rfl,hc3,hm3,ho3,hx3⟩))
  go_ret
  exact(qbj (by rw[HE.out];exact ho3) hx3).from H2.out
 ·have hv':qb6 num xs cut=false:=by simpa using hv
  have HE:Hid (qar num xs cut=[]):=if_neg hv
  clear hv;rcases qeh hv' with hv|⟨hv,hcv⟩
  ·have HV:=hJ hv;clear hv hv'
   go_enter Tryz.func96,Tryz.ntmps96
   exact qnS
  ·have HV:=hJ hv;have HCV:=hJ hcv;clear hv hcv hv'
   go_enter Tryz.func96,Tryz.ntmps96
   exact qok
theorem qop {P : Prop} (h : P := by
 clear h2;go_wp2;exact bodyPost_ret (v:=.tuple #[.agg #[Jq 0,Zq],Jq 5]) (by simp[results,Tryz.results28,go_sem,q2,q3]) rfl (qdU HF.out (Own.nil _ _ _) (((H0.out.trans H4.out).set (by simp) _).set (by simp) _))) : P := h
theorem qoX(num:Int)(A Ac:Option Addr)(c cc:Nat)(xs cut:List Int)(w:World)(hx:Row w A (qam xs))(hc:Row w Ac (qam cut))
  (hn:xs.length≤9223372036854775807) (hnc:cut.length≤9223372036854775807) (hv:qb6 num xs cut=false) :
  Calls Tryz.prog 28 #[.agg #[Jq num,.slice A xs.length c],.slice Ac cut.length cc] w (qgB w (qcr num xs cut)):=by
 have H0:=hJ (qd0 w num (.slice A xs.length c))
 have HX:=hJ (hx.ext H0.out);have HC:=hJ (hc.ext H0.out)
 clear hx hc;have HE:Hid (qcr num xs cut=(0,[],1)):=if_pos hv
 rcases qeh hv with hv|⟨hv,hcv⟩
 ·have HV:=hJ hv;clear hv
  go_enter Tryz.func28,Tryz.ntmps28
  go_wp2_with (first
   | (go_at_call 21;refine(qjn _ _ _ _ _ HX.out hn HV.out).mono ?_;rintro e w1 ⟨rfl,hx1⟩;obtain⟨q0,q1,q2,q3,q4,q5,q6⟩:=qaG hx1;have H1:=hJ (Ext.trans H0.out hx1);clear hx1))
  exact bodyPost_ret (v:=.tuple #[.agg #[Jq 0,Zq],Jq 1]) (by simp[results,Tryz.results28,go_sem,q2,q3]) rfl (qdU HE.out (Own.nil _ _ _) ((H1.out.set (by simp) _).set (by simp) _))
 ·have HV:=hJ hv;have HCV:=hJ hcv;clear hv hcv
  go_enter Tryz.func28,Tryz.ntmps28
  go_wp2_with (first
   | (go_at_call 21;refine(qcM _ _ _ _ _ HX.out hn HV.out).mono ?_;rintro e w1 ⟨rfl,hx1⟩;have HC1:=hJ (HC.out.ext hx1);have H1:=hJ hx1;clear hx1)
   | (go_at_call 95;refine(qf4 _ _ _ _ HC1.out hnc HCV.out).mono ?_;rintro e w2 ⟨rfl,hs2⟩;have H2:=hJ (H1.out.trans hs2.ext);clear hs2;obtain⟨q0,q1,q2,q3,q4,q5,q6⟩:=qaG H2.out))
  exact bodyPost_ret (v:=.tuple #[.agg #[Jq 0,Zq],Jq 1]) (by simp[results,Tryz.results28,go_sem,q2,q3]) rfl (qdU HE.out (Own.nil _ _ _) (((H0.out.trans H2.out).set (by simp) _).set (by simp) _))
set_option maxHeartbeats 1000000 in
theorem qmK(num:Int)(A Ac:Option Addr)(c cc:Nat)(xs cut:List Int)(w:World)(hx:Row w A (qam xs))(hc:Row w Ac (qam cut))
  (hn:xs.length≤9223372036854775807) (hnc:cut.length≤9223372036854775807) (hv:qb6 num xs cut=true) :
  Calls Tryz.prog 28 #[.agg #[Jq num,.slice A xs.length c],.slice Ac cut.length cc] w (qgB w (qcr num xs cut)):=by
 have H0:=hJ (qd0 w num (.slice A xs.length c))
 have HX:=hJ (hx.ext H0.out);have HC:=hJ (hc.ext H0.out)
 clear hx hc;have HV:=hJ (qa9.1 hv)
 have HO:=hJ hv
 have hl1:xs.length≤16:=(qaH HV.out.1).2
 have hl2:cut.length≤32:=(qds (m:=32) HV.out.2).2
 have hsl:=qk3 HO.out
 have hjl:=qkO HO.out
 have hnum:=qa5 HV.out.1
 clear hv;by_cases h1:2*(qar num xs cut).length≤xs.length
 ·have HF:=hJ (qg3 HO.out h1)
  go_enter Tryz.func28,Tryz.ntmps28
  go_wp2_with (first
   | (go_at_call 21;refine(qcM _ _ _ _ _ HX.out hn HV.out.1).mono ?_;rintro e w1 ⟨rfl,hx1⟩;have HX1:=hJ (HX.out.ext hx1);have HC1:=hJ (HC.out.ext hx1);have H1:=hJ hx1;clear hx1)
   | (go_at_call 95;refine(qcF _ _ _ _ HC1.out hnc HV.out.2).mono ?_;rintro e w2 ⟨rfl,hs2⟩;have H2:=hJ (H1.out.trans hs2.ext);have HX2:=hJ (HX1.out.ext hs2.ext);have HC2:=hJ (HC1.out.ext hs2.ext);clear hs2;obtain⟨q0,q1,q2,q3,q4,q5,q6⟩:=qaG H2.out)
   | (go_at_call 96;refine(qeK _ _ _ _ _ _ _ _ HX2.out HC2.out hn hnc).mono ?_;rintro e w3 ⟨A3,c3,rfl,hc3,hm3,ho3,hx3⟩;have H3:=hJ (H2.out.trans hx3);have HX3:=hJ (HX2.out.ext hx3);have HC3:=hJ (HC2.out.ext hx3);clear hx3 q0 q1 q2 q3 q4 q5 q6;obtain⟨q0,q1,q2,q3,q4,q5,q6⟩:=qaG H3.out))
  exact bodyPost_ret (v:=.tuple #[.agg #[Jq 0,Zq],Jq 9]) (by simp[results,Tryz.results28,go_sem,q2,q3]) rfl (qdU HF.out (Own.nil _ _ _) (((H0.out.trans H3.out).set (by simp) _).set (by simp) _))
 ·have h1':xs.length<2*(qar num xs cut).length:=by omega
  have HN1:=hJ h1
  clear h1;go_enter Tryz.func28,Tryz.ntmps28
  go_wp2_with (first
   | (go_at_call 21;refine(qcM _ _ _ _ _ HX.out hn HV.out.1).mono ?_;rintro e w1 ⟨rfl,hx1⟩;have HX1:=hJ (HX.out.ext hx1);have HC1:=hJ (HC.out.ext hx1);have H1:=hJ hx1;clear hx1)
   | (go_at_call 95;refine(qcF _ _ _ _ HC1.out hnc HV.out.2).mono ?_;rintro e w2 ⟨rfl,hs2⟩;have H2:=hJ (H1.out.trans hs2.ext);have HX2:=hJ (HX1.out.ext hs2.ext);have HC2:=hJ (HC1.out.ext hs2.ext);clear hs2;obtain⟨q0,q1,q2,q3,q4,q5,q6⟩:=qaG H2.out)
   | (go_at_call 96;refine(qeK _ _ _ _ _ _ _ _ HX2.out HC2.out hn hnc).mono ?_;rintro e w3 ⟨A3,c3,rfl,hc3,hm3,ho3,hx3⟩;have H3:=hJ (H2.out.trans hx3);have HX3:=hJ (HX2.out.ext hx3);have HC3:=hJ (HC2.out.ext hx3);clear hx3 q0 q1 q2 q3 q4 q5 q6;obtain⟨q0,q1,q2,q3,q4,q5,q6⟩:=qaG H3.out)
   | (go_at_call 97;fail))
  refine(qjq _ _ _ _ _ _ _ _ HX3.out HC3.out hn hnc).mono ?_
  rintro e w4 ⟨A4,c4,rfl,hc4,hm4,ho4,hx4⟩
  have H4:=hJ (H3.out.trans hx4)
  have HS:=hJ (Own.base (B':=w.heap.size+2) (ho3.ext hx4) (qaG H2.out).2.2.2.2.2.2)
  have HJ:=hJ ho4.row
  clear hx4 q0 q1 q2 q3 q4 q5 q6 HX1 HC1 HX2 HC2 HX3 HC3 ho3 ho4;obtain⟨q0,q1,q2,q3,q4,q5,q6⟩:=qaG H4.out
  by_cases h2:num=1099511627776
  ·have HF:=hJ (qet HO.out HN1.out (.inl h2))
   have h2b:(num == 1099511627776)=true:=by simpa using h2
   exact qop
  ·have h2b:(num == 1099511627776)=false:=by simpa using h2
   by_cases h3:16<(qar num xs cut).length+(qaT num xs cut).length
   ·have HF:=hJ (qet HO.out HN1.out (.inr h3))
    exact qop
   ·have HF:=hJ (qh5 HO.out HN1.out (by omega))
    have h3':(qar num xs cut).length+(qaT num xs cut).length≤16:=by omega
    have h2':num<1099511627776:=by omega
    clear h2 h3;go_wp2;go_loopw [6,8] (fun v i wr=>∃(k:Nat) (A5:Option Addr) (c5:Nat),k≤(qaT num xs cut).length∧v=.slice A5 (qct (qar num xs cut) (qaT num xs cut) k).length c5∧i=Jq k∧Own wr (w.heap.size+2) 3 (.slice A5 (qct (qar num xs cut) (qaT num xs cut) k).length c5) (qam (qct (qar num xs cut) (qaT num xs cut) k))∧Ext w4 wr) (fun _ i _=>(qaT num xs cut).length - (intOf i).toNat)
    case atStart=>exact⟨0,A3,c3,Nat.zero_le _,rfl,rfl,HS.out,Below.refl _ _⟩
    case round=>
     obtain⟨k,A5,c5,hk,rfl,rfl,ho5,hx5⟩:=hrel
     have hfl:=qkg (s:=qar num xs cut) k hk
     have hfl':(qct (qar num xs cut) (qaT num xs cut) k).length≤100:=by omega
     clear hfl;have H5:=hJ (H4.out.trans hx5)
     have HJ5:=hJ (HJ.out.ext hx5)
     by_cases hlt:k<(qaT num xs cut).length
     ·obtain⟨bk,off,x,hA,hc,HXx⟩:=HJ5.out.at_ hlt
      have hA':=hJ hA
      subst hA
      go_wp2_with (first
       | (go_at_call 98;refine(qg6 _ _ _ _ _ ho5.row (by omega)).mono ?_;rintro e w6 ⟨A6,c6,rfl,hc6,hm6,ho6,hx6⟩))
      go_roundw
      case rel=>exact⟨k+1,A6,c6,by omega,by rw[qeq HXx.out],by go_num,by rw[qeq HXx.out];exact ho6.base (qaG H5.out).2.2.2.2.2.2,hx5.trans hx6⟩
      case measure=>simp[intOf];omega
     ·clear q0 q1 q2 q3 q4 q5 q6
      obtain⟨q0,q1,q2,q3,q4,q5,q6⟩:=qaG H5.out
      have HFI:=hJ (qj9 (s:=qar num xs cut) hlt (ql7 num xs cut))
      go_wp2;refine bodyPost_ret (v:=.tuple #[.agg #[Jq (num+1),.slice A5 (qct (qar num xs cut) (qaT num xs cut) k).length c5],Jq 0]) (by simp[results,Tryz.results28,go_sem,q2,q3]) rfl (qdU HF.out ?_ (((H0.out.trans H5.out).set (by simp) _).set (by simp) _))
      rw[←HFI.out]
      refine Own.set (Own.set (ho5.base (by omega)) ?_ _) ?_ _
      ·intro k' hk';have:=(ho5.lt k' hk').1;simp;omega
      ·intro k' hk';have:=(ho5.lt k' hk').1;simp;omega
theorem qoa(num:Int)(A Ac:Option Addr)(c cc:Nat)(xs cut:List Int)(w:World)(hx:Row w A (qam xs))(hc:Row w Ac (qam cut))
  (hn:xs.length≤9223372036854775807) (hnc:cut.length≤9223372036854775807) :
  Calls Tryz.prog 28 #[.agg #[Jq num,.slice A xs.length c],.slice Ac cut.length cc] w (qgB w (qcr num xs cut)):=by
 cases h:qb6 num xs cut
 ·exact qoX num A Ac c cc xs cut w hx hc hn hnc h
 ·exact qmK num A Ac c cc xs cut w hx hc hn hnc h
theorem qpc(num:Int)(A Ac:Option Addr)(c cc:Nat)(xs cut:List Int)(w:World)(hx:Row w A (qam xs))(hc:Row w Ac (qam cut))
  (hn:xs.length≤9223372036854775807) (hnc:cut.length≤9223372036854775807) :
  Calls Tryz.prog 194 #[.agg #[Jq num,.slice A xs.length c],.slice Ac cut.length cc] w (qgB w (qcr num xs cut)):=by
 cases h:qb6 num xs cut
 ·exact qq8 num A Ac c cc xs cut w hx hc hn hnc h
 ·exact qpa num A Ac c cc xs cut w hx hc hn hnc h
def qeL(w:World)(n:Int)(s:Value)(m:Int)(t:Value):World:=(w.alloc (.cells #[.int .i64 n,s] 46)).alloc (.cells #[.int .i64 m,t] 46)
theorem qcp{w w1:World}{n m:Int}{s t:Value}(h:Ext (qeL w n s m t) w1) :
  w1.cell? (Pq w.heap.size 0)=some (Jq n)∧w1.cell? (Pq w.heap.size 1)=some s∧
  w1.cell? (Pq (w.heap.size+1) 0)=some (Jq m)∧w1.cell? (Pq (w.heap.size+1) 1)=some t:=by
 refine⟨?_,?_,?_,?_⟩
 ·rw[h.cell (p:=(Pw w 0)) (by simp[qeL];omega)];simp[qeL]
 ·rw[h.cell (p:=(Pw w 1)) (by simp[qeL];omega)];simp[qeL]
 ·rw[h.cell (p:=(Pv w 0)) (by simp[qeL])];simp[qeL]
 ·rw[h.cell (p:=(Pv w 1)) (by simp[qeL])];simp[qeL]
theorem qlT(w:World)(n m:Int)(s t:Value):Ext w (qeL w n s m t):=(Ext.new w _).alloc _
theorem Own.cap{w:World}{B:Nat}{e:TypeId}{A:Option Addr}{n c:Nat}{xs:List Value}(h:Own w B e (.slice A n c) xs):n≤c:=by
 obtain⟨_,h2⟩:=h
 rcases h2 with ⟨hv,_⟩|⟨g,cap,cur,hv,_,_,h3,_⟩
 ·cases hv;exact Nat.le_refl _
 ·injection hv with _ h4 h5
  omega
set_option maxHeartbeats 800000 in
theorem qoU(n m:Int)(A B:Option Addr)(c d:Nat)(xs ys:List Int)(w:World)(hx:Row w A (qam xs))(hy:Row w B (qam ys))
  (hn:xs.length≤9223372036854775807) (hm:ys.length≤9223372036854775807) :
  Calls Tryz.prog 195 #[.agg #[Jq n,.slice A xs.length c],.agg #[Jq m,.slice B ys.length d]] w (GivesI w (qeW n xs m ys)):=by
 have H0:=hJ (qlT w n m (.slice A xs.length c) (.slice B ys.length d))
 have HX:=hJ (hx.ext H0.out);have HY:=hJ (hy.ext H0.out)
 clear hx hy;by_cases hv:qan n xs=true
 ·have HV:=hJ hv
  clear hv;by_cases hv':qan m ys=true
  ·have HV':=hJ hv'
   clear hv';have HF:=hJ (qjF HV.out HV'.out)
   have hl1:xs.length≤16:=(qaH HV.out).2
   have hl2:ys.length≤16:=(qaH HV'.out).2
   have hl3:=qdD xs ys false
   have hl4:=qdD ys xs false
   go_enter Tryz.func195,Tryz.ntmps195
   go_wp2_with fail
   refine(qcq _ _ _ _ _ HX.out hn HV.out).mono ?_
   rintro e w1 ⟨rfl,hx1⟩
   have H1:=hJ hx1
   have HX1:=hJ (HX.out.ext hx1);have HY1:=hJ (HY.out.ext hx1)
   clear hx1;obtain⟨q0,q1,q2,q3⟩:=qcp H1.out
   go_wp2_with fail
   refine(qcq _ _ _ _ _ HY1.out hm HV'.out).mono ?_
   rintro e w2 ⟨rfl,hx2⟩
   have H2:=hJ (H1.out.trans hx2)
   have HX2:=hJ (HX1.out.ext hx2);have HY2:=hJ (HY1.out.ext hx2)
   clear hx2 q0 q1 q2 q3 HX1 HY1 H1;obtain⟨q0,q1,q2,q3⟩:=qcp H2.out
   go_wp2_with fail
   refine(qe4 _ _ _ _ _ _ _ _ _ _ _ _ _ _ HX2.out HY2.out HX2.out HY2.out hn hm (by omega) hm HV.out (qlb (qbA HV'.out))).mono ?_
   rintro e w3 ⟨A3,c3,A3',c3',rfl,ho3,ho3',hx3⟩
   have H3:=hJ (H2.out.trans hx3)
   have HX3:=hJ (HX2.out.ext hx3);have HY3:=hJ (HY2.out.ext hx3)
   clear hx3 q0 q1 q2 q3 HX2 HY2 H2;obtain⟨q0,q1,q2,q3⟩:=qcp H3.out
   go_wp2_with fail
   refine(qe4 _ _ _ _ _ _ _ _ _ _ _ _ _ _ HX3.out HY3.out HY3.out HX3.out hn hm (by omega) hn HV.out (qlb (qbA HV'.out))).mono ?_
   rintro e w4 ⟨A4,c4,A4',c4',rfl,ho4,ho4',hx4⟩
   have H4:=hJ (H3.out.trans hx4)
   have HR3:=hJ (ho3'.ext hx4).row
   have hc3:=ho3'.cap
   clear hx4 q0 q1 q2 q3 HX3 HY3 H3;obtain⟨q0,q1,q2,q3⟩:=qcp H4.out
   go_wp2_with fail
   refine(qi5 _ _ _ _ _ _ _ HR3.out ho4'.row hc3 (by omega) (by omega)).mono ?_
   rintro e w5 ⟨A5,c5,rfl,hc5,hm5,ho5,hx5⟩
   go_wp2;go_ret
   exact(qbj (by rw[HF.out];exact ho5) hx5).from (H0.out.trans H4.out)
  ·have hv2:qan m ys=false:=by simpa using hv'
   have HV':=hJ hv2
   clear hv' hv2;have HF:=hJ (qow (n:=n) (xs:=xs) HV'.out)
   go_enter Tryz.func195,Tryz.ntmps195
   go_wp2_with fail
   refine(qcq _ _ _ _ _ HX.out hn HV.out).mono ?_
   rintro e w1 ⟨rfl,hx1⟩
   have H1:=hJ hx1
   have HY1:=hJ (HY.out.ext hx1)
   clear hx1;obtain⟨q0,q1,q2,q3⟩:=qcp H1.out
   go_wp2_with fail
   refine(qfn _ _ _ _ _ HY1.out hm HV'.out).mono ?_
   rintro e w2 ⟨rfl,hx2⟩
   go_wp2;go_ret
   exact qbj (by rw[HF.out];exact Own.nil _ _ _) (H0.out.trans (H1.out.trans hx2))
 ·have hv2:qan n xs=false:=by simpa using hv
  have HV:=hJ hv2
  clear hv hv2;have HF:=hJ (qng (m:=m) (ys:=ys) HV.out)
  go_enter Tryz.func195,Tryz.ntmps195
  go_wp2_with fail
  refine(qfn _ _ _ _ _ HX.out hn HV.out).mono ?_
  rintro e w1 ⟨rfl,hx1⟩
  go_wp2;go_ret
  exact qbj (by rw[HF.out];exact Own.nil _ _ _) (H0.out.trans hx1)
def qfL(xs:List Int):List UInt8:=xs.flatMap fun x=>qaS (zig x)
theorem qjt{xs:List Int}{k:Nat}{x:Int}(h:xs[k]?=some x):qfL (xs.take (k+1))=qfL (xs.take k)++qaS (zig x):=by
 unfold qfL;rw[qbh h];simp
theorem qpC{xs:List Int}{k:Nat}(h:¬k<xs.length):qfL (xs.take k)=qfL xs:=by rw[List.take_of_length_le (by omega)]
theorem qlt{xs:List Int}(h:∀x∈xs,I64 x)(k:Nat):(qfL (xs.take k)).length≤11*k:=by
 induction k with
 | zero=>simp[qfL]
 | succ k ih=>
  cases hx:xs[k]? with
  | none=>
   have:xs.take (k+1)=xs.take k:=by rw[List.take_add_one,hx];simp
   rw[this];omega
  | some x=>
   rw[qjt hx,List.length_append]
   have:=qat (qmV (h x (List.mem_of_getElem? hx)))
   omega
theorem qjJ{n:Nat}(h:n≤1000000):n<U64:=by unfold U64;omega
theorem qhq(A A':Option Addr)(c c':Nat)(bs:List UInt8)(xs:List Int)(w:World)(h:Row w A (qad bs))(h':Row w A' (qam xs))(hl:bs.length≤1000000)(hn:xs.length≤1000000)(hb:∀x∈xs,I64 x) :
  Calls Tryz.prog 193 #[.slice A bs.length c,.slice A' xs.length c'] w (GivesB w (bs++qaS xs.length++qfL xs)):=by
 have H:=hJ h;have H':=hJ h';have HB:=hJ hb
 clear h h' hb;go_enter Tryz.func193,Tryz.ntmps193
 go_wp2_with fail
 rw[show (10:Int)+2*(xs.length:Int)=((10+2*xs.length:Nat):Int) by omega]
 refine(qcS A c bs (10+2*xs.length) w H.out (by omega) (by omega)).mono ?_
 rintro e w1 ⟨A1,c1,rfl,hc1,hm1,ho1,hx1⟩
 have hwl:IntKind.u64.wrap (xs.length:Int)=(xs.length:Int):=qcy (qjJ hn)
 go_wp2_with fail
 refine(qc1 w.heap.size _ bs xs.length w1 ho1 hx1.size (by omega) (qjJ hn)).mono ?_
 rintro e w2 ⟨v2,rfl,ho2,hg2,hs2⟩
 have hx2:=hJ (hg2.below hx1 hx1.size (fun k hk=>(ho1.lt k hk).1))
 have hl2:=qat (qjJ hn)
 clear hwl;go_wp2;go_loopw [5,7,20] (fun v _ i wr=>∃k:Nat,k≤xs.length∧i=Jq k∧Own wr w.heap.size 5 v (qad (bs++qaS xs.length++qfL (xs.take k)))∧Ext w wr) (fun _ _ i _=>xs.length - (intOf i).toNat)
 case atStart=>exact⟨0,Nat.zero_le _,rfl,by simpa[qfL] using ho2,hx2.out⟩
 case round=>
  obtain⟨k,hk,rfl,ho,hx⟩:=hrel
  have hel:=qlt HB.out k
  by_cases hlt:k<xs.length
  ·obtain⟨b,off,x,hA,hc,HX⟩:=(H'.out.ext hx).at_ hlt
   subst hA
   have hlen:(bs++qaS xs.length++qfL (xs.take k)).length≤1000000000:=by simp only[List.length_append];omega
   go_wp2_with fail
   refine(qhX w.heap.size _ _ x wr ho hx.size hlen (HB.out x (List.mem_of_getElem? HX.out))).mono ?_
   rintro e w3 ⟨v3,rfl,ho3,hg3,hs3⟩
   go_wp2;go_roundw
   case rel=>exact⟨k+1,by omega,by go_num,by rw[qjt HX.out,←List.append_assoc];exact ho3,hg3.below hx hx.size (fun k hk=>(ho.lt k hk).1)⟩
   case measure=>simp[intOf];omega
  ·go_wp2
   go_ret
   exact qc0 (by rw[qpC hlt] at ho;exact ho) hx
def qoJ(num:Int)(xs:List Int):List UInt8:=if qan num xs then qaS num.toNat++qaS xs.length++qfL xs else []
theorem qkU{num:Int}{xs:List Int}(h:qan num xs=true):qoJ num xs=qaS num.toNat++qaS xs.length++qfL xs:=if_pos h
theorem qrT{num:Int}{xs:List Int}(h:qan num xs=false):qoJ num xs=[]:=if_neg (by simp[h])
theorem qol{num:Int}{xs:List Int}(h:qan num xs=true):∀x∈xs,I64 x:=by
 intro x hx
 have:=((qcl (m:=16)).1 (qbA h)).2.2.2 x hx
 unfold I64;omega
def qdM:List UInt8→Nat→Nat→Nat×Nat×Int
 | [],_,_=>(0,0,2)
 | c::cs,i,v=>
  if (i=9∧1<c.toNat)∨(0<i∧c.toNat=0) then (0,0,3)
  else if c.toNat<128 then (v+c.toNat % 128*2 ^ (7*i),i+1,0)
  else qdM cs (i+1) (v+c.toNat % 128*2 ^ (7*i))
def qbg(bs:List UInt8):Nat×Nat×Int:=qdM bs 0 0
section
variable {bs:List UInt8} {k v:Nat} {c:UInt8}
theorem qrA(h:bs[k]?=some c):bs.drop k=c::bs.drop (k+1):=by
 obtain⟨hk,rfl⟩:=List.getElem?_eq_some_iff.1 h
 exact List.drop_eq_getElem_cons hk
theorem qnt(h:¬k<bs.length):qdM (bs.drop k) k v=(0,0,2):=by rw[List.drop_of_length_le (by omega)];rfl
theorem qgx(h:bs[k]?=some c)(hb:(k=9∧1<c.toNat)∨(0<k∧c.toNat=0)):qdM (bs.drop k) k v=(0,0,3):=by
 rw[qrA h,qdM,if_pos hb]
theorem qhQ(h:bs[k]?=some c)(hb:¬((k=9∧1<c.toNat)∨(0<k∧c.toNat=0)))(hc:c.toNat<128):qdM (bs.drop k) k v=(v+c.toNat % 128*2 ^ (7*k),k+1,0):=by
 rw[qrA h,qdM,if_neg hb,if_pos hc]
theorem qlU(h:bs[k]?=some c)(hb:¬((k=9∧1<c.toNat)∨(0<k∧c.toNat=0)))(hc:¬c.toNat<128):qdM (bs.drop k) k v=qdM (bs.drop (k+1)) (k+1) (v+c.toNat % 128*2 ^ (7*k)):=by
 rw[qrA h,qdM,if_neg hb,if_neg hc]
end
theorem qo7(bs:List UInt8):∀i v,i≤9→v<2 ^ (7*i)→(qdM bs i v).1<U64∧(qdM bs i v).2.1≤i+bs.length∧(qdM bs i v).2.1≤10:=by
 induction bs with
 | nil=>intro i v _ _;simp[qdM,U64]
 | cons c cs ih=>
  intro i v hi hv
  unfold qdM
  split
  ·simp[U64]
  ·next hb=>
   have hc:c.toNat % 128<128:=Nat.mod_lt _ (by decide)
   have hp:(2:Nat) ^ (7*(i+1))=128*2 ^ (7*i):=by rw[show 7*(i+1)=7+7*i by omega,Nat.pow_add]
   have hsum:v+c.toNat % 128*2 ^ (7*i)<2 ^ (7*(i+1)):=by
    rw[hp]
    have h1:c.toNat % 128*2 ^ (7*i)≤127*2 ^ (7*i):=Nat.mul_le_mul_right _ (by omega)
    omega
   split
   ·refine⟨?_,by simp only[List.length_cons];omega,by show i+1≤10;omega⟩
    rcases Nat.lt_or_ge i 9 with h9|h9
    ·have h2:(2:Nat) ^ (7*(i+1))≤2 ^ 63:=Nat.pow_le_pow_right (by decide) (by omega)
     unfold U64;simp only;omega
    ·have:i=9:=by omega
     subst this
     have h1:c.toNat % 128≤1:=by
      have:c.toNat≤1:=by
       rcases Nat.lt_or_ge 1 c.toNat with h|h
       ·exact absurd (.inl ⟨rfl,h⟩) hb
       ·exact h
      omega
     have h2:c.toNat % 128*2 ^ (7*9)≤1*2 ^ 63:=Nat.mul_le_mul h1 (by decide)
     unfold U64;simp only
     have h3:v<2 ^ 63:=hv
     omega
   ·next hge=>
    have h9:i<9:=by
     rcases Nat.lt_or_ge i 9 with h|h
     ·exact h
     ·exact absurd (.inl ⟨by omega,by omega⟩) hb
    have:=ih (i+1) _ (by omega) hsum
    simp only[List.length_cons]
    omega
theorem qhb(bs:List UInt8):(qbg bs).1<U64∧(qbg bs).2.1≤bs.length∧(qbg bs).2.1≤10:=by
 have:=qo7 bs 0 0 (by omega) (by decide)
 unfold qbg;omega
theorem qtg(m:Fin 256):bits .and .u8 (m.val:Int) 127=((m.val % 128:Nat):Int):=by revert m;decide +kernel
theorem qnA{m:Nat}(h:m<256):bits .and .u8 (m:Int) 127=((m % 128:Nat):Int):=qtg ⟨m,h⟩
theorem qqn(a b:Nat)(ha:a<18446744073709551616)(hb:b<18446744073709551616):bits .or .u64 (a:Int) (b:Int)=((a||| b:Nat):Int):=by
 have e:∀x:Nat,x<18446744073709551616→(BitVec.ofInt 64 (x:Int)).toNat=x:=fun x hx=>by
  rw[BitVec.ofInt_natCast,BitVec.toNat_ofNat];exact Nat.mod_eq_of_lt hx
 have hx:a||| b<2 ^ 64:=Nat.or_lt_two_pow (by omega) (by omega)
 show IntKind.u64.wrap ((BitVec.ofInt 64 (a:Int)||| BitVec.ofInt 64 (b:Int)).toNat:Int)=_
 rw[BitVec.toNat_or,e a ha,e b hb,IntKind.wrap_u64]
 omega
theorem qqu(v x s:Nat)(hv:v<2 ^ s):v||| x*2 ^ s=v+x*2 ^ s:=by
 have:=Nat.shiftLeft_add_eq_or_of_lt hv x
 rw[Nat.shiftLeft_eq] at this
 rw[Nat.or_comm,←this];omega
theorem qiw{v m k:Nat}(hm:m<256)(hv:v<2 ^ (7*k))(hk:k<9) :
  bits BinOp.or IntKind.u64 (v:Int) (IntKind.u64.wrap (IntKind.u64.wrap (bits BinOp.and IntKind.u8 (m:Int) 127)*2 ^ (7*k)))=((v+m % 128*2 ^ (7*k):Nat):Int):=by
 have h1:(2:Nat) ^ (7*k)≤2 ^ 56:=Nat.pow_le_pow_right (by decide) (by omega)
 have h2:m % 128*2 ^ (7*k)≤127*2 ^ 56:=Nat.mul_le_mul (by omega) h1
 have e0:IntKind.u64.wrap (((m % 128:Nat):Int))=((m % 128:Nat):Int):=qcy (by unfold U64;omega)
 have e1:((m % 128:Nat):Int)*2 ^ (7*k)=((m % 128*2 ^ (7*k):Nat):Int):=by simp
 rw[qnA hm,e0,e1,qcy (by unfold U64;omega),qqn _ _ (by omega) (by omega),qqu _ _ _ hv]
theorem qsg{v m:Nat}(hm:m≤1)(hv:v<2 ^ (7*9)) :
  bits BinOp.or IntKind.u64 (v:Int) (IntKind.u64.wrap (IntKind.u64.wrap (bits BinOp.and IntKind.u8 (m:Int) 127)*9223372036854775808))=((v+m % 128*2 ^ (7*9):Nat):Int):=by
 have hv':v<9223372036854775808:=hv
 have e0:IntKind.u64.wrap (((m % 128:Nat):Int))=((m % 128:Nat):Int):=qcy (by unfold U64;omega)
 have e1:((m % 128:Nat):Int)*9223372036854775808=((m % 128*2 ^ (7*9):Nat):Int):=by simp
 have h2:m % 128*2 ^ (7*9)≤1*2 ^ 63:=Nat.mul_le_mul (by omega) (by decide)
 rw[qnA (by omega),e0,e1,qcy (by unfold U64;omega),qqn _ _ (by omega) (by omega),qqu _ _ _ hv]
theorem qlu{v m k:Nat}(hv:v<2 ^ (7*k)):v+m % 128*2 ^ (7*k)<2 ^ (7*(k+1)):=by
 have hp:(2:Nat) ^ (7*(k+1))=128*2 ^ (7*k):=by rw[show 7*(k+1)=7+7*k by omega,Nat.pow_add]
 have h1:m % 128*2 ^ (7*k)≤127*2 ^ (7*k):=Nat.mul_le_mul_right _ (by omega)
 omega
theorem and_one(u:Nat)(h:u<18446744073709551616):bits BinOp.and IntKind.u64 (u:Int) 1=((u % 2:Nat):Int):=by
 have e:(BitVec.ofInt 64 (u:Int)).toNat=u:=by rw[BitVec.ofInt_natCast,BitVec.toNat_ofNat];exact Nat.mod_eq_of_lt h
 show IntKind.u64.wrap ((BitVec.ofInt 64 (u:Int)&&& BitVec.ofInt 64 1).toNat:Int)=_
 have e1:(BitVec.ofInt 64 1).toNat=1:=by decide
 rw[BitVec.toNat_and,e,e1,Nat.and_one_is_mod,IntKind.wrap_u64]
 omega
theorem qjl(a:Nat)(h:a<9223372036854775808):bits BinOp.xor IntKind.i64 (a:Int) 0=(a:Int):=by
 have e:(BitVec.ofInt 64 (a:Int)).toNat=a:=by rw[BitVec.ofInt_natCast,BitVec.toNat_ofNat];exact Nat.mod_eq_of_lt (by omega)
 show IntKind.i64.wrap ((BitVec.ofInt 64 (a:Int) ^^^ BitVec.ofInt 64 0).toNat:Int)=_
 simp only[BitVec.ofInt_ofNat,BitVec.xor_zero,e,IntKind.wrap_i64]
 omega
theorem qjw(a:Nat)(h:a<9223372036854775808):bits BinOp.xor IntKind.i64 (a:Int) (-1) = -(a:Int) - 1:=by
 have e:(BitVec.ofInt 64 (a:Int)).toNat=a:=by rw[BitVec.ofInt_natCast,BitVec.toNat_ofNat];exact Nat.mod_eq_of_lt (by omega)
 show IntKind.i64.wrap ((BitVec.ofInt 64 (a:Int) ^^^ BitVec.ofInt 64 (-1)).toNat:Int)=_
 have e1:BitVec.ofInt 64 (-1)=BitVec.allOnes 64:=by decide
 rw[e1,BitVec.xor_allOnes,BitVec.toNat_not,e,IntKind.wrap_i64]
 omega
theorem qmq{u:Nat}(h:u<U64):bits BinOp.xor IntKind.i64 (wrap64 ((u:Int) / 2)) (wrap64 (-wrap64 (bits BinOp.and IntKind.u64 (u:Int) 1)))=qkl u:=by
 unfold U64 at h
 have h1:wrap64 ((u:Int) / 2)=((u / 2:Nat):Int):=by unfold wrap64;omega
 rw[and_one u h,h1]
 unfold qkl
 split
 ·next hm=>rw[hm,show wrap64 (-wrap64 (((1:Nat):Int))) = -1 by unfold wrap64;omega,qjw _ (by omega)]
 ·next hm=>rw[show u % 2=0 by omega,show wrap64 (-wrap64 (((0:Nat):Int)))=0 by unfold wrap64;omega,qjl _ (by omega)]
def qd8(bs:List UInt8):Int×Nat×Int:=(qkl (qbg bs).1,(qbg bs).2.1,(qbg bs).2.2)
def qc9(bs:List UInt8)(m:Nat):Nat×Nat×Int:=
 if (qbg bs).2.2≠0 then (0,0,(qbg bs).2.2) else if m<(qbg bs).1 then (0,0,5) else ((qbg bs).1,(qbg bs).2.1,0)
def qfs(bs:List UInt8):Nat→List Int→Nat→List Int×Nat×Int
 | 0,l,n=>(l,n,0)
 | c+1,l,n=>if (qd8 (bs.drop n)).2.2=0 then qfs bs c (l++[(qd8 (bs.drop n)).1]) (n+(qd8 (bs.drop n)).2.1) else ([],0,(qd8 (bs.drop n)).2.2)
def qft(bs:List UInt8)(m:Nat):List Int×Nat×Int:=
 if (qc9 bs m).2.2≠0 then ([],0,(qc9 bs m).2.2) else qfs bs (qc9 bs m).1 [] (qc9 bs m).2.1
def qgp(bs:List UInt8):Int×List Int×Nat×Int:=
 if (qbg bs).2.2≠0 then (0,[],0,(qbg bs).2.2)
 else if 1099511627776<(qbg bs).1 then (0,[],0,3)
 else if (qft (bs.drop (qbg bs).2.1) 16).2.2≠0 then (0,[],0,(qft (bs.drop (qbg bs).2.1) 16).2.2)
 else if qdP (qft (bs.drop (qbg bs).2.1) 16).1 16=false then (0,[],0,3)
 else ((qbg bs).1,(qft (bs.drop (qbg bs).2.1) 16).1,(qbg bs).2.1+(qft (bs.drop (qbg bs).2.1) 16).2.1,0)
theorem qfR(bs:List UInt8)(m:Nat):(qc9 bs m).1≤m∧(qc9 bs m).2.1≤bs.length:=by
 have:=qhb bs
 unfold qc9
 split
 ·exact⟨Nat.zero_le _,Nat.zero_le _⟩
 ·split
  ·exact⟨Nat.zero_le _,Nat.zero_le _⟩
  ·exact⟨by omega,this.2.1⟩
theorem qj6(bs:List UInt8):(qd8 bs).2.1≤bs.length:=(qhb bs).2.1
theorem qhM{bs:List UInt8}{c n:Nat}{l:List Int}(h:(qd8 (bs.drop n)).2.2=0):qfs bs (c+1) l n=qfs bs c (l++[(qd8 (bs.drop n)).1]) (n+(qd8 (bs.drop n)).2.1):=by rw[qfs,if_pos h]
theorem qhF{bs:List UInt8}{c n:Nat}{l:List Int}(h:(qd8 (bs.drop n)).2.2≠0):qfs bs (c+1) l n=([],0,(qd8 (bs.drop n)).2.2):=by rw[qfs,if_neg h]
theorem qpX(id:Int)(xs:List Int):∀k,0≤find id xs k↔id∈xs:=by
 induction xs with
 | nil=>intro k;simp[find]
 | cons x xs ih=>
  intro k
  unfold find
  split
  ·next h=>subst h;simp
  ·next h=>rw[ih (k+1)];simp[Ne.symm h]
theorem qb4{xs:List Int}{id:Int}:qbr xs id=true↔id∈xs:=by
 unfold qbr qme;rw[decide_eq_true_eq];exact qpX id xs 0
theorem qrK{xs:List Int}{id:Int}:qbr xs id=false↔id∉xs:=by
 rw[←qb4];simp
theorem qbI{l m:List Int}{x:Int}:x∈qbU l m false↔x∈l∧x∉m:=by
 unfold qbU;rw[List.mem_filter];simp[qrK]
theorem qdd{l m:List Int}{b:Bool}(h:l.Pairwise (·<·)):(qbU l m b).Pairwise (·<·):=List.Pairwise.filter _ h
theorem qeB{a b:List Int}{x:Int}:x∈qaK a b↔x∈a∨x∈b:=by unfold qaK;exact List.mem_merge
theorem qhT(a b:List Int):(qaK a b).length=a.length+b.length:=by unfold qaK;simp
theorem qfm:∀(a b:List Int),a.Pairwise (·<·)→b.Pairwise (·<·)→(∀x,x∈a→x∉b)→(qaK a b).Pairwise (·<·):=by
 intro a
 induction a with
 | nil=>intro b _ hb _;rw[qdG];exact hb
 | cons x a iha=>
  intro b
  induction b with
  | nil=>intro ha _ _;rw[qbX];exact ha
  | cons y b ihb=>
   intro ha hb hd
   have ha':=List.pairwise_cons.1 ha
   have hb':=List.pairwise_cons.1 hb
   by_cases h:x≤y
   ·rw[qdO h]
    refine List.pairwise_cons.2 ⟨fun z hz=>?_,iha (y::b) ha'.2 hb (fun z hz=>hd z (by simp[hz]))⟩
    rcases qeB.1 hz with hz|hz
    ·exact ha'.1 z hz
    ·have hne:x≠y:=fun e=>hd x (by simp) (by simp[e])
     rcases List.mem_cons.1 hz with rfl|hz
     ·omega
     ·have:=hb'.1 z hz;omega
   ·rw[qe6 (by omega)]
    refine List.pairwise_cons.2 ⟨fun z hz=>?_,ihb ha hb'.2 (fun z hz hz'=>hd z hz (by simp[hz']))⟩
    rcases qeB.1 hz with hz|hz
    ·rcases List.mem_cons.1 hz with rfl|hz
     ·omega
     ·have:=ha'.1 z hz;omega
    ·exact hb'.1 z hz
theorem qhY:∀(a b:List Int),a.Pairwise (·<·)→b.Pairwise (·<·)→(∀x,x∈a↔x∈b)→a=b:=by
 intro a
 induction a with
 | nil=>
  intro b _ _ h
  cases b with
  | nil=>rfl
  | cons y b=>have:=(h y).2 (by simp);simp at this
 | cons x a ih=>
  intro b ha hb h
  cases b with
  | nil=>have:=(h x).1 (by simp);simp at this
  | cons y b=>
   have ha':=List.pairwise_cons.1 ha
   have hb':=List.pairwise_cons.1 hb
   have e:x=y:=by
    rcases List.mem_cons.1 ((h x).1 (by simp)) with e|h1
    ·exact e
    ·rcases List.mem_cons.1 ((h y).2 (by simp)) with e|h2
     ·exact e.symm
     ·have:=hb'.1 x h1;have:=ha'.1 y h2;omega
   subst e
   rw[ih b ha'.2 hb'.2 (fun z=>?_)]
   constructor
   ·intro hz
    rcases List.mem_cons.1 ((h z).1 (by simp[hz])) with e|h1
    ·subst e;have:=ha'.1 z hz;omega
    ·exact h1
   ·intro hz
    rcases List.mem_cons.1 ((h z).2 (by simp[hz])) with e|h1
    ·subst e;have:=hb'.1 z hz;omega
    ·exact h1
theorem qgL{num:Int}{xs cut:List Int}{n:Int}{ys:List Int}(h:qcr num xs cut=(n,ys,0)) :
  qb6 num xs cut=true∧n=num+1∧num<1099511627776∧ys=qaK (qbU xs cut false) (qbU cut xs false)∧ys.Pairwise (·<·)∧(∀x,x∈ys↔(x∈xs∧x∉cut)∨(x∈cut∧x∉xs))∧
  xs.length<2*(qbU xs cut false).length∧(qbU xs cut false).length+(qbU cut xs false).length≤16∧qan n ys=true:=by
 cases ho:qb6 num xs cut
 ·rw[show qcr num xs cut=(0,[],1) from if_pos ho] at h;simp at h
 ·by_cases h1:2*(qar num xs cut).length≤xs.length
  ·rw[qg3 ho h1] at h;simp at h
  ·by_cases h2:num=1099511627776∨16<(qar num xs cut).length+(qaT num xs cut).length
   ·rw[qet ho h1 h2] at h;simp at h
   ·rw[qh5 ho h1 h2] at h
    simp only[Prod.mk.injEq,and_true] at h
    obtain⟨rfl,rfl⟩:=h
    have hs:qar num xs cut=qbU xs cut false:=if_pos ho
    have hj:qaT num xs cut=qbU cut xs false:=if_pos ho
    rw[hs] at h1
    rw[hs,hj] at h2
    have hv:=qa9.1 ho
    have hxs:=qbV (qbA hv.1)
    have hcs:=qbV hv.2
    have hnum:=qa5 hv.1
    have hsort:(qaK (qbU xs cut false) (qbU cut xs false)).Pairwise (·<·):=
     qfm _ _ (qdd hxs) (qdd hcs) (fun x h h'=>(qbI.1 h').2 (qbI.1 h).1)
    have hmem:∀x,x∈qaK (qbU xs cut false) (qbU cut xs false)↔(x∈xs∧x∉cut)∨(x∈cut∧x∉xs):=fun x=>by rw[qeB,qbI,qbI]
    refine⟨rfl,rfl,by omega,by rw[hs,hj],by rw[hs,hj];exact hsort,by rw[hs,hj];exact hmem,by omega,by omega,?_⟩
    rw[hs,hj]
    have h3:=qhT (qbU xs cut false) (qbU cut xs false)
    rw[qfC (by omega) (by omega)]
    refine(qcl (m:=16)).2 ⟨by omega,by omega,hsort,fun x hx=>?_⟩
    rcases(hmem x).1 hx with hx|hx
    ·exact((qcl (m:=16)).1 (qbA hv.1)).2.2.2 x hx.1
    ·exact((qcl (m:=32)).1 hv.2).2.2.2 x hx.1
theorem qjy{n m:Int}{xs ys:List Int}(h:qan n xs=true)(h':qan m ys=true):(qeW n xs m ys).Pairwise (·<·)∧∀x,x∈qeW n xs m ys↔(x∈xs∧x∉ys)∨(x∈ys∧x∉xs):=by
 rw[qjF h h']
 have h1:=qbV (qbA h)
 have h2:=qbV (qbA h')
 exact⟨qfm _ _ (qdd h1) (qdd h2) (fun x h h'=>(qbI.1 h').2 (qbI.1 h).1),fun x=>by rw[qeB,qbI,qbI]⟩
theorem qoA{num:Int}{xs cut:List Int}{n:Int}{ys:List Int}(h:qcr num xs cut=(n,ys,0)):qeW num xs n ys=cut∧qeW n ys num xs=cut:=by
 obtain⟨ho,_,_,_,_,hm,_,_,hv⟩:=qgL h
 have hv0:=(qa9.1 ho).1
 have hc:=qbV (qa9.1 ho).2
 have h1:=qjy hv0 hv
 have h2:=qjy hv hv0
 refine⟨qhY _ _ h1.1 hc fun x=>?_,qhY _ _ h2.1 hc fun x=>?_⟩
 ·rw[h1.2,hm];by_cases h1:x∈xs<;>by_cases h2:x∈cut<;>simp[h1,h2]
 ·rw[h2.2,hm];by_cases h1:x∈xs<;>by_cases h2:x∈cut<;>simp[h1,h2]
structure Ent where
 v:Int
 o:Int
 q:Int
 p:List UInt8
 deriving DecidableEq
abbrev Vw:=Int×List Int
abbrev Fls:=Int×Int×List Ent
structure St where
 self:Int
 views:List Vw
 base:Int
 log:List Ent
 stable:Int
 sent:Int
 pend:List (List UInt8)
 marks:List (Int×Int)
 fls:List Fls
 deriving DecidableEq
def qab(n:Int)(xs:List Int):Ent:=⟨n,0,n,qoJ n xs⟩
def qcg(e:Ent):Bool:=decide ((qgp e.p).2.2.2=0)&&(decide ((qgp e.p).2.2.1=e.p.length)&&decide (e=qab (qgp e.p).1 (qgp e.p).2.1))
def qay(l:List Ent)(o:Int):Nat:=l.countP fun e=>e.o == o
def qgi(l:List Ent)(i:Nat):Int:=match l[i - 1]? with|some e=>e.v|none=>0
def qdN(l:List Ent)(i:Nat)(e:Ent):Bool:=
 if i=0∨e.v≠qgi l i then (decide (i=0)||decide (qgi l i≤e.v))&&qcg e
 else qb2 e.o&&(decide (e.p.length≤6000)&&decide (e.q=qay (l.take i) e.o+1))
def qhu(l:List Ent)(i:Nat):Bool:=match l[i]? with|some e=>qdN l i e|none=>true
def qaw(l:List Ent):Bool:=decide (l.length≤2000)&&(List.range l.length).all (qhu l)
theorem qdS{l:List Ent}{i:Nat}{e:Ent}(h:l[i]?=some e):qhu l i=qdN l i e:=by unfold qhu;rw[h]
theorem qoi{l:List Ent}(h:¬l.length≤2000):qaw l=false:=by unfold qaw;rw[decide_eq_false h];rfl
theorem qfy{l:List Ent}{i:Nat}{e:Ent}(h:l[i]?=some e)(hn:qdN l i e=false):qaw l=false:=by
 unfold qaw
 rw[show (List.range l.length).all (qhu l)=false from by
  rw[List.all_eq_false]
  exact⟨i,List.mem_range.2 (List.getElem?_eq_some_iff.1 h).1,by rw[qdS h,hn];simp⟩,Bool.and_false]
theorem qoQ{l:List Ent}(hl:l.length≤2000)(h:∀i,i<l.length→qhu l i=true):qaw l=true:=by
 unfold qaw
 rw[decide_eq_true hl,show (List.range l.length).all (qhu l)=true from by rw[List.all_eq_true];exact fun i hi=>h i (List.mem_range.1 hi)];rfl
theorem qe3{l:List Ent}(h:qaw l=true):l.length≤2000∧∀i,i<l.length→qhu l i=true:=by
 unfold qaw at h
 simp only[Bool.and_eq_true,decide_eq_true_eq,List.all_eq_true,List.mem_range] at h
 exact h
def qbs(a b:Vw):Bool:=decide (qcr a.1 a.2 (qeW a.1 a.2 b.1 b.2)=(b.1,b.2,0))
def qbB(l:List Vw)(i:Nat):Vw:=(l[i]?).getD (0,[])
def qaq(l:List Vw):Bool:=decide (1≤l.length)&&(decide (l.length≤2000)&&(qan (qbB l 0).1 (qbB l 0).2&&(List.range (l.length - 1)).all fun i=>qbs (qbB l i) (qbB l (i+1))))
def qaf(l:List Vw):Vw:=qbB l (l.length - 1)
def qaA(l:List Vw)(n:Int):Option Vw:=l.find? fun v=>v.1 == n
def qb9(l:List Ent):Int:=match l[l.length - 1]? with|some e=>e.v|none=>0
def qaX(l:List Ent)(base:Int):Bool:=if base = -1 then decide (l.length=0) else decide (0<l.length)&&(qaw l&&decide (qb9 l=base))
def qbL(vs:List Vw)(f:Fls):Bool:=
 (if f.2.1 = -1 then true else match qaA vs f.2.1 with|none=>false|some v=>decide (f.2.1<(qaf vs).1)&&qbr v.2 f.1)&&qaX f.2.2 f.2.1
def qbl(v:Vw):Int:=if qan v.1 v.2 then (v.2[0]?).getD 0 else 0
def qaL(s:St):Bool:=decide (s.base=(qaf s.views).1)
def qaN(s:St):Bool:=decide (qbl (qaf s.views)=s.self)
def qqV(l:List (Int×Int))(i:Nat):Int:=if i=0 then 0 else ((l[i - 1]?).getD (0,0)).1
def qe2(s:St)(i:Nat)(m:Int×Int):Bool:=decide (qqV s.marks i<m.1)&&(decide (m.1≠s.self)&&(qbr (qaf s.views).2 m.1&&(decide (0≤m.2)&&decide (m.2≤s.log.length))))
def qqv(l:List Fls)(i:Nat):Int:=if i=0 then 0 else ((l[i - 1]?).getD (0,0,[])).1
def qrj(s:St)(i:Nat)(f:Fls):Bool:=decide (qqv s.fls i<f.1)&&(qb2 f.1&&qbL s.views f)
def qbo(s:St)(i:Nat):Bool:=match s.marks[i]? with|some m=>qe2 s i m|none=>true
def qdm(s:St)(i:Nat):Bool:=match s.fls[i]? with|some f=>qrj s i f|none=>true
def qca(s:St):Bool:=
 (decide (s.marks.length=0)||(qaL s&&qaN s))&&((decide (s.fls.length=0)||(!qaL s&&qaN s))&&((List.range s.marks.length).all (qbo s)&&(List.range s.fls.length).all (qdm s)))
def qbp(s:St):Bool:=
 qb2 s.self&&(qaq s.views&&(decide (0≤s.sent)&&(decide (s.sent≤1099511627776)&&(qaX s.log s.base&&
 ((decide (s.base = -1)||(match qaA s.views s.base with|none=>false|some v=>qbr v.2 s.self))&&
 (decide ((qay s.log s.self:Int)≤s.sent)&&(decide (0≤s.stable)&&(decide (s.stable≤s.log.length)&&
 (decide (s.pend.length≤32)&&(decide ((s.pend.length:Int)=s.sent - qay (s.log.take s.stable.toNat) s.self)&&
 ((s.pend.all fun p=>decide (p.length≤6000))&&qca s)))))))))))
end Go.Proofs.YtponbabbabnaeaaGreat
