/- Part 12 of the proof: contracts of functions that the statement reaches. Conditions: as each theorem says. -/
import Derived.Test.YtponbabbabnaeaaGreatQf01
import Derived.Test.YtponbabbabnaeaaGreatQf11
import Derived.Test.YtponbabbabnaeaaGreatQf10
import Derived.Test.YtponbabbabnaeaaGreatQf07
import Derived.Test.YtponbabbabnaeaaGreatQf06
set_option maxRecDepth 100000
set_option maxHeartbeats 40000000
namespace Go.Proofs.YtponbabbabnaeaaGreat
theorem qow {P : Prop} (h : P := by
 have h2:=qfN (l:=l) (fun e he=>(h e he).2.2.2);have h3:=qaL [(l.length:Int)];simp only[qbe,zA,zK,List.length_nil] at *;omega) : P := h
theorem qkV {P : Prop} (h : P := by
 have:=qos hl h [];rw[List.append_nil] at this;simp[this]) : P := h
def qil(n:Int):Prop:=0≤n∧n≤1099511627776
theorem qus{n:Int}(h:qil n):(uN n:Int)=n∧uN n<2 ^ 63:=by
 obtain⟨h0,h1⟩:=h;unfold uN;have:n % 18446744073709551616=n:=Int.emod_eq_of_lt h0 (by omega);rw[this];omega
theorem qbX{n:Int}(h:qil n)(r:List UInt8):qdS (qa4 (uN n)++r,false)=(n,(r,false)):=by
 obtain⟨h1,h2⟩:=qus h;have h3:=h.2;unfold qdS;simp only[qff h2 r];rw[if_neg (by omega),h1];unfold qeM;simp
theorem qsK(n:Int):qav [n]=qa4 (uN n):=by simp[qav]
theorem qhd:qav []=[]:=rfl
theorem qfI(n:Int)(l:List Int):qav (n::l)=qa4 (uN n)++qav l:=rfl
theorem qmO{n m:Nat}(h:n≤m)(hm:m<2 ^ 63)(r:List UInt8):qdE (qa4 n++r) m=(n,(qa4 n).length,0):=by
 unfold qdE;rw[qff (by omega) r];simp;omega
theorem ql1{p:List UInt8}(h:p.length≤6000)(r:List UInt8):qnO (qeH p++r,false)=(p,(r,false)):=by
 unfold qnO qlE qeH;simp only[List.append_assoc];rw[qmO h (by omega)];simp only[ne_eq,not_true_eq_false,if_false];rw[if_neg (by simp only[zA];omega)];have e:((qa4 p.length++(p++r)).drop (qa4 p.length).length)=p++r:=by rw[List.drop_left'];rfl
 rw[e];unfold qeM;simp only[ne_eq,not_true_eq_false,if_false,Prod.mk.injEq,and_true];constructor
 ·rw[List.take_left'];rfl
 ·rw[←List.drop_drop,e,List.drop_left'];rfl
def qqc(e:Ent):Prop:=qil e.v∧qil e.o∧qil e.q∧e.p.length≤6000
theorem qq2{e:Ent}(h:qqc e)(r:List UInt8):qqd (qhL e++r,false)=(e,(r,false)):=by
 obtain⟨h1,h2,h3,h4⟩:=h;unfold qqd qhL;simp only[qfI,qhd,List.append_assoc,List.nil_append];simp only[qbX h1,qbX h2,qbX h3,ql1 h4]
theorem qiQ:∀(l:List Ent) (r:List UInt8) (out:List Ent),(∀e∈l,qqc e)→qcs l.length (l.flatMap qhL++r,false) out=(out++l,(r,false))
 | [],r,out,_=>by simp[qcs]
 | e::l,r,out,h=>by
  have h1:=qq2 (h e (by simp)) (l.flatMap qhL++r);have h2:=qiQ l r (out++[e]) (fun x hx=>h x (by simp[hx]));simp only[zK,List.flatMap_cons,List.append_assoc];unfold qcs;simp only[Bool.false_eq_true,if_false];rw[h1];simp only;rw[h2];simp
theorem qos{l:List Ent}(hl:l.length≤2000)(h:∀e∈l,qqc e)(r:List UInt8):qdo (qbe l++r,false)=(l,(r,false)):=by
 unfold qdo qbe;rw[qsK,List.append_assoc,qbX ⟨by omega,by omega⟩];rw[if_neg (by omega)];have:=qiQ l r [] h;simpa using this
theorem qp3{n:Int}(h : -1≤n∧n≤1099511627776)(r:List UInt8):qit (qa4 (zig n)++r,false)=(n,(r,false)):=by
 have h2:qly (zig n)=n∧zig n<2 ^ 63:=by
  unfold qly zig;constructor
  ·split<;>split<;>omega
  ·split<;>omega
 unfold qit qeO;simp only[qff h2.2 r,h2.1];rw[if_neg (by omega)];unfold qeM;simp
theorem qnp{k:Nat}{body:List UInt8}(hk:1≤k∧k≤255)(hb:body.length≤16777216):qeN (qa3 k body)=((k:Int),body,(qa3 k body).length,0):=by
 obtain⟨C,hC⟩:∃C,C=le4 (qgM (qeJ k body)):=⟨_,rfl⟩;have hC4:C.length=4:=by rw[hC];rfl
 have hs:qa3 k body=qeJ k body++C:=by unfold qa3;rw[if_pos hb,hC]
 obtain⟨n,hn⟩:∃n,n=(qa4 body.length).length:=⟨_,rfl⟩;have hp:qeJ k body=[65,71,UInt8.ofNat k]++(qa4 body.length++body):=by unfold qeJ;simp
 have hpl:(qeJ k body).length=3+n+body.length:=by rw[hp];simp only[zA,zK,List.length_nil];omega
 have hk8:(UInt8.ofNat k).toNat=k:=by rw[UInt8.toNat_ofNat'];omega
 rw[hs];have h0:(qeJ k body++C)[0]?=some 65:=by rw[hp];rfl
 have h1:(qeJ k body++C)[1]?=some 71:=by rw[hp];rfl
 have h2:(qeJ k body++C)[2]?=some (UInt8.ofNat k):=by rw[hp];rfl
 have hd:(qeJ k body++C).drop 3=qa4 body.length++(body++C):=by rw[hp];simp
 have ht:(qeJ k body++C).take (3+n+body.length)=qeJ k body:=by rw[←hpl,List.take_left'];rfl
 have hd2:(qeJ k body++C).drop (3+n+body.length)=C:=by rw[←hpl,List.drop_left'];rfl
 have hbd:(qeJ k body).drop (3+n)=body:=by
  rw[hp,←List.append_assoc,List.drop_left'];simp only[zA,zK,List.length_nil];omega
 unfold qeN;rw[if_neg (by simp only[zA,hpl];omega),h0,h1,h2];rw[if_neg (by
  simp only[ne_eq,not_true_eq_false,false_or,zJ];intro e;have:=congrArg UInt8.toNat e;rw[hk8] at this;simp at this;omega)]
 simp only[hd];rw[qmO hb (by decide),←hn];simp only[ne_eq,not_true_eq_false,if_false];rw[if_neg (by simp only[zA,hpl,hC4];omega),ht,hd2,List.take_of_length_le (by omega),if_neg (by rw[hC];simp)];simp only[hbd,Option.getD_some,hk8,zA,hpl,hC4]
theorem qeR{k:Nat}{body:List UInt8}{m:Msg}(hk:1≤k∧k≤255)(hb:body.length≤16777216)(hm:qeP (k:Int) (body,false)=some (m,([],false))):qa7 (qa3 k body)=some m:=by
 unfold qa7;rw[qnp hk hb];simp only[ne_eq,not_true_eq_false,false_or,if_false];rw[hm];simp
theorem qhl{b q:Int}{p:List UInt8}(hb:qil b)(hq:qil q)(hp:p.length≤6000):qa7 (qa3 11 (qav [b,q]++qeH p))=some ⟨11,b,q,0,p,[]⟩:=by
 refine qeR (k:=11) (by omega) ?_ ?_
 ·have h1:=qaL [b,q];have h2:=qaz (v:=p.length) (by unfold U64;omega);simp only[qeH,zA,zK,List.length_nil] at *;omega
 ·unfold qeP;simp only[qfI,qhd,List.append_assoc,List.nil_append,qbX hb,qbX hq];have:=ql1 hp [];rw[List.append_nil] at this;simp[this]
theorem qh0{b st n:Int}{l:List Ent}(hb:qil b)(hst:qil st)(hn:qil n)(hl:l.length≤2000)(h:∀e∈l,qqc e):qa7 (qa3 12 (qav [b,st,n]++qbe l))=some ⟨12,b,st,n,[],l⟩:=by
 refine qeR (k:=12) (by omega) ?_ ?_
 ·have h1:=qaL [b,st,n];exact qow
 ·unfold qeP;simp only[qfI,qhd,List.append_assoc,List.nil_append,qbX hb,qbX hst,qbX hn];exact qkV
theorem qmG{b n:Int}(hb:qil b)(hn:qil n):qa7 (qa3 13 (qav [b,n]))=some ⟨13,b,n,0,[],[]⟩:=by
 refine qeR (k:=13) (by omega) ?_ ?_
 ·have h1:=qaL [b,n];simp only[zK,List.length_nil] at *;omega
 ·unfold qeP;have:=qbX hn [];rw[List.append_nil] at this;simp[qfI,qhd,qbX hb,this]
theorem qgt{t b:Int}{l:List Ent}(ht:qil t)(hb : -1≤b∧b≤1099511627776)(hl:l.length≤2000)(h:∀e∈l,qqc e):qa7 (qa3 14 (qav [t]++qa4 (zig b)++qbe l))=some ⟨14,t,b,0,[],l⟩:=by
 refine qeR (k:=14) (by omega) ?_ ?_
 ·have h1:=qaL [t];have h2:=qfN (l:=l) (fun e he=>(h e he).2.2.2);have h3:=qaL [(l.length:Int)];have h4:=qaz (v:=zig b) (by unfold U64 zig;split<;>omega);simp only[qbe,zA,zK,List.length_nil] at *;omega
 ·unfold qeP;simp only[qsK,List.append_assoc,qbX ht,qp3 hb];exact qkV
theorem qgL{b:Int}{l:List Ent}(hb:qil b)(hl:l.length≤2000)(h:∀e∈l,qqc e):qa7 (qa3 15 (qav [b]++qbe l))=some ⟨15,b,0,0,[],l⟩:=by
 refine qeR (k:=15) (by omega) ?_ ?_
 ·have h1:=qaL [b];exact qow
 ·unfold qeP;simp only[qsK,qbX hb];exact qkV
section
variable {vs:List Vw} {mem:List St} {H:qc8} {S S':qdT} {i:Nat} {s s':St}
theorem VS.more{s:St}(h:VS s){p:List UInt8}(hp:p.length≤6000)(hl:s.pend.length≠32)(hs:s.sent≠1099511627776):VS {s with sent:=s.sent+1,pend:=s.pend++[p]}:=by
 have hs':=h.sent;have hs0:=h.sent0;have hpl:=h.pl;have hd:=h.pd;have ho:=h.own;refine⟨h.self,h.vs,by show 0≤s.sent+1;omega,by show s.sent+1≤_;omega,h.based,h.known,by show (qar s.log s.self:Int)≤s.sent+1;omega,h.st0,h.st,?_,?_,?_,h.mk0,h.fl0,h.mka,h.mks,h.fla,h.fls⟩
 ·simp only[zA,zK,List.length_nil];omega
 ·show ((s.pend++[p]).length:Int)=s.sent+1 - qar (s.log.take s.stable.toNat) s.self;simp only[zA,zK,List.length_nil];omega
 ·intro q hq;rcases List.mem_append.1 hq with hq|hq
  ·exact h.pp q hq
  ·simp only[zC,zN,or_false] at hq;subst hq;exact hp
def qnN(S:qdT)(o:Int)(p:List UInt8):qdT:=fun q=>if q=o then S q++[p] else S q
theorem qmA(S:qdT)(o:Int)(p:List UInt8)(q:Int):S q<+:qnN S o p q:=by
 unfold qnN;split
 ·exact List.prefix_append _ _
 ·exact List.prefix_rfl
theorem Core.submit(c:Core vs mem H S)(hi:mem[i]?=some s){p:List UInt8}(he:(qaI s p).2=0):Step1 vs mem H S i (qaI s p).1 (qnN S s.self p):=by
 obtain⟨hsm,hvs,hpre,hlen⟩:=c.here hi;have c1:=(c.cur s hsm).1;unfold qaI at he⊢;rw[if_neg (by rw[qb2.2 hvs];simp)] at he⊢;split at he
 ·cases he
 ·next hc=>
  rw[if_neg hc];have h':VS {s with sent:=s.sent+1,pend:=s.pend++[p]}:=hvs.more (by have:=mt Or.inl hc;omega) (fun e=>hc (.inr (.inl e))) (fun e=>hc (.inr (.inr e)));obtain⟨p1,p2⟩:=c.pend s hsm;have hk:qar (s.log.take s.stable.toNat) s.self≤(S s.self).length:=by
   have:=qcp s.log s.stable.toNat s.self;have:=hvs.own;omega
  have hst:Step1 vs mem H S i {s with sent:=s.sent+1,pend:=s.pend++[p]} (qnN S s.self p):=by
   obtain⟨k1,k2⟩:=c.step hi h' rfl rfl (S':=qnN S s.self p) (fun q hq=>by unfold qnN;rw[if_neg hq]) (qmA _ _ _ _) (.inl ⟨rfl,List.prefix_rfl,.inl rfl⟩) (.inr (by show s.log<+:H (qjp vs s.base) s.base;rw[←c1];exact c.led _ _))
    (c.stab s hsm) (c.marks s hsm) (c.fls s hsm) (by
     have e:qnN S s.self p s.self=S s.self++[p]:=by unfold qnN;rw[if_pos rfl]
     rw[e];refine⟨?_,?_⟩
     ·show s.sent+1=_;rw[p1,zA];rfl
     ·show s.pend++[p]=_;rw[List.drop_append_of_le_length hk,p2]) (fun e he=>(c.good s.self s.base e (by rw[c1];exact he)).mono List.prefix_rfl (qmA S s.self p))
   exact⟨_,k1,k2⟩
  simp only;split
  ·next hol=>
   simp only[zB] at hol;exact hst.next hlen (fun mem' H' c' hi' _=>c'.take hi' hol.1 hol.2)
  ·exact hst
theorem qqy{l:List Fls}{f g:Fls}(h:g∈putF l f):g=f∨g∈l:=by
 unfold putF at h;split at h
 ·rcases List.mem_or_eq_of_mem_set h with h|h
  ·exact .inr h
  ·exact .inl h
 ·exact qgp h
theorem Core.putFl(c:Core vs mem H S)(hi:mem[i]?=some s)(ho:qan s=false)(hl:qas s=true){f:Fls}(hid:qcl f.1=true)(hp:qbL s.views f=true)(hf:qsd mem H (tgt s) f):Step1 vs mem H S i {s with fls:=putF s.fls f} S:=by
 obtain⟨hsm,hvs,hpre,hlen⟩:=c.here hi;exact c.tweak hi (hvs.put ho hl hid hp) rfl rfl rfl rfl (c.stab s hsm) (c.marks s hsm) (fun g hg=>by
  rcases qqy hg with rfl|hg
  ·exact hf
  ·exact c.fls s hsm g hg) (c.pend s hsm)
theorem qpX(l:List Fls):∀b:Int,b≤l.foldl (fun b f=>max b f.2.1) b∧(∀f∈l,f.2.1≤l.foldl (fun b f=>max b f.2.1) b)∧(l.foldl (fun b f=>max b f.2.1) b=b∨∃f∈l,l.foldl (fun b f=>max b f.2.1) b=f.2.1):=by
 induction l with
 | nil=>intro b;exact⟨Int.le_refl _,(fun f hf=>by cases hf),.inl rfl⟩
 | cons g l ih=>
  intro b;obtain⟨h1,h2,h3⟩:=ih (max b g.2.1);simp only[List.foldl_cons];refine⟨by omega,fun f hf=>?_,?_⟩
  ·rcases zC.1 hf with rfl|hf
   ·omega
   ·exact h2 f hf
  ·rcases h3 with h3|⟨f,hf,h3⟩
   ·rw[h3];rcases Int.le_total g.2.1 b with h|h
    ·left;omega
    ·right;exact⟨g,by simp,by omega⟩
   ·exact .inr ⟨f,by simp[hf],h3⟩
theorem qiL(base:Int):∀(l:List Fls) (out:List Ent),out.length≤(l.foldl (fun out f=>if f.2.1=base∧out.length<f.2.2.length then f.2.2 else out) out).length∧∀f∈l,f.2.1=base→f.2.2.length≤(l.foldl (fun out f=>if f.2.1=base∧out.length<f.2.2.length then f.2.2 else out) out).length:=by
 intro l;induction l with
 | nil=>intro out;exact⟨zR _,fun f hf=>by cases hf⟩
 | cons g l ih=>
  intro out;simp only[List.foldl_cons];obtain⟨h1,h2⟩:=ih (if g.2.1=base∧out.length<g.2.2.length then g.2.2 else out);by_cases hc:g.2.1=base∧out.length<g.2.2.length
  ·rw[if_pos hc] at h1 h2⊢;refine⟨by omega,fun f hf he=>?_⟩;rcases zC.1 hf with rfl|hf
   ·exact h1
   ·exact h2 f hf he
  ·rw[if_neg hc] at h1 h2⊢;refine⟨h1,fun f hf he=>?_⟩;rcases zC.1 hf with rfl|hf
   ·have:¬out.length<f.2.2.length:=fun h=>hc ⟨he,h⟩;omega
   ·exact h2 f hf he
theorem Core.install(c:Core vs mem H S)(hi:mem[i]?=some s)(ho:qan s=false)(hl:qas s=true):Step1 vs mem H S i (qaD s) S:=by
 obtain⟨hsm,hvs,hpre,hlen⟩:=c.here hi;have hVS:=(hvs.install ho hl).1;unfold qaD at hVS⊢;split
 ·exact c.refl hi
 ·next h1=>
  rw[if_neg h1] at hVS;split
  ·exact c.refl hi
  ·next h2=>
   rw[if_neg h2] at hVS;split
   ·exact c.refl hi
   ·next h3=>
    rw[if_neg h3] at hVS;have h3':qgy s (qa0 s.fls (qaA s.fls))=true:=by simpa using h3
    unfold qgy qgs at h3';simp only[zB,zE] at h3';obtain⟨f1,⟨f2,f2'⟩,f3⟩:=h3';have hst0:=hvs.st0;have hst:=hvs.st;rw[zT,Nat.min_eq_left (by omega)] at f2 f2';have hb1:qaA s.fls≠-1:=fun e=>h1 (.inr e);obtain⟨b1,b2,b3⟩:=qpX s.fls (-1);have hB:s.fls.foldl (fun b f=>max b f.2.1) (-1)=qaA s.fls:=rfl;rw[hB] at b1 b2 b3;obtain⟨g0,hg0,hg0b⟩:∃f∈s.fls,qaA s.fls=f.2.1:=by rcases b3 with h|h;exact absurd h hb1;exact h
    have hcm:=(qiL (qaA s.fls) s.fls []).2;have hC:s.fls.foldl (fun out f=>if f.2.1=qaA s.fls∧out.length<f.2.2.length then f.2.2 else out) []=qa0 s.fls (qaA s.fls):=rfl;have hgo:=qd1 (qaA s.fls) s.fls [];rw[hC] at hcm hgo;have hcne:qa0 s.fls (qaA s.fls)≠[]:=by
     have hp:=(hvs.fls g0 hg0).2;unfold qbL qaY at hp;rw[if_neg (c:=g0.2.1 = -1) (by omega),if_neg (by omega)] at hp;simp only[zB,zE] at hp;have:=hcm g0 hg0 hg0b.symm;exact List.ne_nil_of_length_pos (by omega)
    obtain⟨g,hg,hgb,hgc⟩:∃f∈s.fls,f.2.1=qaA s.fls∧qa0 s.fls (qaA s.fls)=f.2.2:=by
     rcases hgo with h|h
     ·exact absurd h hcne
     ·exact h
    have hgf:=c.fls s hsm g hg;have hHg:H g.1 (qaA s.fls)=qa0 s.fls (qaA s.fls):=by rw[hgc,←hgb];exact hgf.2.2.1
    obtain⟨_,_,x,hkx,_⟩:=c.log g.1 (qaA s.fls) (by rw[hHg];exact hcne);have hlead:s.self=qa1 (qad s.views):=by unfold qas at hl;simp only[zE] at hl;exact hl.symm
    refine c.enter hi ho (l:=qa0 s.fls (qaA s.fls)++[qab (qad s.views).1 (qad s.views).2]) hVS (by rw[List.take_append_of_le_length f2];exact f2') (ch:=qa0 s.fls (qaA s.fls)) (.inr ⟨qaA s.fls,s.fls.map Prod.fst,(c.ne_first hkx).1,?_,hcne,fun y hy hy1 hy2=>?_,fun f hf=>?_,g.1,List.mem_map_of_mem hg,hHg⟩) List.prefix_rfl (fun p hp=>?_) (.inl hlead) (fun e he=>?_)
    ·have:=hgf.2.1;omega
    ·have hyv:y∈s.views:=qpr hpre hvs.vs c.vld hy (qbb (qdf hvs.vs)).1 (by unfold tgt at hy2;omega);have h4:qfd s=false:=by simpa using h2
     unfold qfd at h4;rw[List.any_eq_false] at h4;have h5:=h4 y hyv;simp only[zB,zE,Bool.not_eq_true',not_and,Bool.not_eq_false] at h5;have h6:=h5 hy1 hy2;unfold qc0 at h6;simp only[zE] at h6;refine⟨(s.fls.filter fun f=>qbN y.2 f.1).map Prod.fst,?_,fun a ha=>?_,?_⟩
     ·exact List.Pairwise.imp (fun h=>by omega) (List.Pairwise.sublist ((List.filter_sublist).map _) hvs.fla.1)
     ·obtain⟨f,hf,rfl⟩:=List.mem_map.1 ha;obtain⟨hf1,hf2⟩:=List.mem_filter.1 hf;exact⟨qbq.1 hf2,List.mem_map_of_mem hf1⟩
     ·rw[zP,←List.countP_eq_length_filter];exact h6
    ·obtain⟨f',hf',rfl⟩:=List.mem_map.1 hf;obtain⟨q1,q2,q3,q4⟩:=c.fls s hsm f' hf';have hle:=b2 f' hf';refine⟨q1,fun b' hb' hb''=>q4 b' (by omega) hb'',?_⟩;by_cases he:f'.2.1=qaA s.fls
     ·rw[←he,q3,he];exact hcm f' hf' he
     ·rw[q4 _ (by omega) (by have:=hgf.2.1;omega)];exact zO _
    ·exfalso;apply hp;have h4:=c.led p (tgt s);rw[qeC (qbw hvs hpre),←hlead,(c.cur s hsm).2 _ (qcB hvs ho)] at h4;exact List.prefix_nil.1 h4
    ·rcases List.mem_append.1 he with he|he
     ·exact c.good g.1 (qaA s.fls) e (by rw[hHg];exact he)
     ·simp only[zC,zN,or_false] at he;exact .inl ⟨by rw[he];rfl,qad s.views,(qbb (qbw hvs hpre)).1,he⟩
def quM(vs:List Vw)(mem:List St)(H:qc8)(S:qdT)(a:Int)(pk:List (Int×List UInt8)):Prop:=∀x∈pk,x.1≠a∧∃m,qa7 x.2=some m∧qcv vs mem H S a m
theorem Core.limN(c:Core vs mem H S){x:Vw}(h:x∈vs):qil x.1:=by
 have:=qaV (qb4 c.vld h).2.2.1;exact this
theorem Core.limE(c:Core vs mem H S){p b:Int}{e:Ent}(h:e∈H p b):qqc e:=by
 have hb:=(c.log p b (fun e'=>by rw[e'] at h;cases h)).1;have hpay:=qkn hb e h;rcases c.good p b e h with ⟨h1,x,h2,h3⟩|⟨h1,⟨h2,h3⟩,x,h4,h5⟩
 ·have h4:=c.limN h2;have hv:e.v=x.1:=by rw[h3];rfl
  have hq:e.q=x.1:=by rw[h3];rfl
  exact⟨by rw[hv];exact h4,by rw[h1];exact⟨by omega,by omega⟩,by rw[hq];exact h4,hpay⟩
 ·have hne:S e.o≠[]:=fun e'=>by rw[e'] at h3;simp at h3
  obtain⟨s,hs,hso⟩:∃s∈mem,s.self=e.o:=by
   apply Classical.byContradiction;intro hn;exact hne (c.out e.o (fun s hs he=>hn ⟨s,hs,he⟩)).2
  have hvs:=(c.ok s hs).1;have hid:=hvs.self;unfold qcl at hid;simp only[zB,zE] at hid;have h6:=(c.pend s hs).1;have h7:=hvs.sent;have h8:=(zZ h3).1;rw[hso] at h6;exact⟨by rw[h5];exact c.limN h4,⟨by omega,by omega⟩,⟨by omega,by omega⟩,hpay⟩
theorem Core.logE(c:Core vs mem H S)(hs:s∈mem):s.log.length≤2000∧(∀e∈s.log,qqc e):=by
 have h1:=(c.cur s hs).1;exact⟨qdh (c.ok s hs).1.based,fun e he=>c.limE (p:=s.self) (b:=s.base) (by rw[h1];exact he)⟩
theorem qmo(l:List Int):∀(c:Cs) (x:Int×List UInt8),x∈(l.foldl qaP c).pk→x∈c.pk∨(x.1≠c.s.self∧(x.2=qa3 15 (qav [c.s.base]++qbe c.s.log)∨∃m∈c.s.marks,x.2=qa3 12 (qav [c.s.base,m.2,c.s.stable]++qbe (qcQ c.s.log m.2 (min (m.2+16) c.s.log.length))))):=by
 induction l with
 | nil=>intro c x hx;exact .inl hx
 | cons a l ih=>
  intro c x hx;rw[List.foldl_cons] at hx;have hk:=(qh6 c a).1;rcases ih _ x hx with h|h
  ·unfold qaP at h;split at h
   ·exact .inl h
   ·next hne=>
    split at h
    ·unfold qcm at h;rcases List.mem_append.1 h with h|h
     ·exact .inl h
     ·simp only[zC,zN,or_false] at h;subst h;exact .inr ⟨hne,.inl rfl⟩
    ·next st hst=>
     unfold qcm at h;rcases List.mem_append.1 h with h|h
     ·exact .inl h
     ·simp only[zC,zN,or_false] at h;subst h;unfold qb0 at hst;obtain⟨m,hm1,hm2⟩:=Option.map_eq_some_iff.1 hst;exact .inr ⟨hne,.inr ⟨m,List.mem_of_find?_eq_some hm1,by rw[hm2]⟩⟩
  ·rw[hk] at h;exact .inr h
theorem qkr(l:List Nat):∀(c:Cs) (x:Int×List UInt8),x∈(l.foldl qaZ c).pk→x∈c.pk∨∃j∈l,x=(qa1 (qad c.s.views),qa3 11 (qav [c.s.base,qar c.s.log c.s.self+1+j]++qeH (qcg c.s (qar c.s.log c.s.self+1+j)))):=by
 induction l with
 | nil=>intro c x hx;exact .inl hx
 | cons a l ih=>
  intro c x hx;rw[List.foldl_cons] at hx;rcases ih _ x hx with h|⟨j,hj,h⟩
  ·unfold qaZ qcm at h;rcases List.mem_append.1 h with h|h
   ·exact .inl h
   ·simp only[zC,zN,or_false] at h;exact .inr ⟨a,by simp,h⟩
  ·exact .inr ⟨j,by simp[hj],h⟩
theorem Core.lead_ok(c:Core vs mem H S)(hs:s∈mem)(ho:qan s=true){x:Int×List UInt8}(h:x.1≠s.self∧(x.2=qa3 15 (qav [s.base]++qbe s.log)∨∃m∈s.marks,x.2=qa3 12 (qav [s.base,m.2,s.stable]++qbe (qcQ s.log m.2 (min (m.2+16) s.log.length))))):x.1≠s.self∧∃m,qa7 x.2=some m∧qcv vs mem H S s.self m:=by
 obtain⟨h1,h2⟩:=h;have hvs:=(c.ok s hs).1;have c1:=(c.cur s hs).1;obtain⟨l1,l2⟩:=c.logE hs;have hb:qil s.base:=by rw[qdI ho];exact c.limN (qbb (qbw hvs (c.ok s hs).2)).1
 have hst0:=hvs.st0;have hst:=hvs.st;refine⟨h1,?_⟩;rcases h2 with h2|⟨m,hm,h2⟩
 ·rw[h2];refine⟨_,qgL hb l1 l2,fun hk=>by simp at hk,fun hk=>by simp at hk,fun hk=>by simp at hk,fun hk=>by simp at hk,fun _=>?_⟩;show s.log<+:H s.self s.base;rw[c1];exact List.prefix_rfl
 ·rw[h2];obtain⟨_,_,m3,m4⟩:=hvs.mks m hm;have hcut:∀n:Int,qcQ s.log m.2 n<+:s.log.drop m.2.toNat:=fun n=>by unfold qcQ;rw[List.drop_take];exact List.take_prefix _ _
  refine⟨_,qh0 hb ⟨m3,by omega⟩ ⟨hst0,by omega⟩ (zL (hcut _).length_le (by rw[zD];omega)) (fun e he=>l2 e (List.mem_of_mem_drop ((hcut _).subset he))),fun hk=>by simp at hk,fun _=>?_,fun hk=>by simp at hk,fun hk=>by simp at hk,fun hk=>by simp at hk⟩;simp only;rw[c1];exact⟨m3,hcut _,hst,c.stab s hs⟩
theorem Core.tick(c:Core vs mem H S)(hi:mem[i]?=some s):∃H',Core vs (mem.set i (qaM s).s) H' S∧(∀a m,qcv vs mem H S a m→qcv vs (mem.set i (qaM s).s) H' S a m)∧quM vs (mem.set i (qaM s).s) H' S s.self (qaM s).pk:=by
 obtain⟨hsm,hvs,hpre,hlen⟩:=c.here hi;have same:∀pk,quM vs mem H S s.self pk→∃H',Core vs (mem.set i s) H' S∧(∀a m,qcv vs mem H S a m→qcv vs (mem.set i s) H' S a m)∧quM vs (mem.set i s) H' S s.self pk:=fun pk h=>by
  obtain⟨hl,hs⟩:=zZ hi;have e:mem.set i s=mem:=by rw[←hs];exact List.set_getElem_self _
  rw[e];exact⟨H,c,fun _ _ h=>h,h⟩
 have sd:qa1 (qad s.views)≠s.self→∀k body,(qa1 (qad s.views),qa3 k body).1≠s.self:=fun h k body=>h;unfold qaM;rw[if_neg (by rw[qb2.2 hvs];simp)];unfold qdw;cases ho:qan s with
 | true=>
  simp only[if_true];cases hl:qas s with
  | true=>
   simp only[if_true];unfold qfR;simp only;obtain⟨k1,_,_⟩:=qcj (qad (qam {(⟨s,[],[]⟩:Cs) with s:=qbo s}).s.views).2 (qam {(⟨s,[],[]⟩:Cs) with s:=qbo s});obtain⟨a1,a2,a3,a4,a5,a6,a7,a8⟩:=qaK (⟨qbo s,[],[]⟩:Cs);have hst:Step1 vs mem H S i (qam ⟨qbo s,[],[]⟩).s S:=(c.take hi ho hl).next hlen (fun mem' H' c' hi' _=>c'.announce hi' ho hl [] []);obtain⟨H',c',ah⟩:=hst;rw[k1];refine⟨H',c',ah,fun x hx=>?_⟩;have hm':(qam ⟨qbo s,[],[]⟩).s∈mem.set i (qam ⟨qbo s,[],[]⟩).s:=List.mem_set hlen _;have ho':qan (qam ⟨qbo s,[],[]⟩).s=true:=by unfold qan at ho⊢;rw[a3,a4];exact ho
   have hse:(qam ⟨qbo s,[],[]⟩).s.self=s.self:=a5;rcases qmo _ _ x hx with h|h
   ·rw[a7] at h;cases h
   ·have:=c'.lead_ok hm' ho' h;rwa [hse] at this
  | false=>
   simp only[Bool.false_eq_true,if_false];have hne:qa1 (qad s.views)≠s.self:=by unfold qas at hl;simpa using hl
   unfold qcV;obtain⟨k1,_⟩:=qew (List.range (qbK s)) (qcm ⟨s,[],[]⟩ (qa1 (qad s.views)) 13 (qav [s.base,s.log.length]));rw[k1];refine same _ (fun x hx=>?_);have hb:qil s.base:=by rw[qdI ho];exact c.limN (qbb (qbw hvs hpre)).1
   obtain⟨l1,l2⟩:=c.logE hsm;rcases qkr _ _ x hx with h|⟨j,hj,rfl⟩
   ·simp only[qcm,List.nil_append,zC,zN,or_false] at h;subst h;refine⟨hne,_,qmG hb ⟨by omega,by omega⟩,fun hk=>by simp at hk,fun hk=>by simp at hk,fun _=>?_,fun hk=>by simp at hk,fun hk=>by simp at hk⟩;show (s.log.length:Int)≤((H s.self s.base).length:Int);rw[(c.cur s hsm).1];exact Int.le_refl _
   ·have hj':j<(s.sent - qar s.log s.self).toNat:=List.mem_range.1 hj;obtain⟨p1,p2⟩:=c.pend s hsm;have hw:=qcp s.log s.stable.toNat s.self;have hsn:=hvs.sent;refine⟨hne,_,qhl (b:=s.base) (q:=qar s.log s.self+1+j) hb ⟨by omega,by omega⟩ (qfW hvs.pp _),fun _=>?_,fun hk=>by simp at hk,fun hk=>by simp at hk,fun hk=>by simp at hk,fun hk=>by simp at hk⟩;exact qkm (s:=s) (q:=(qar s.log s.self:Int)+1+j) p1 p2 (by omega) (by omega)
 | false=>
  simp only[Bool.false_eq_true,if_false];have hfl:qsd mem H (tgt s) (s.self,s.base,s.log):=⟨⟨s,hsm,rfl,Int.le_refl _⟩,qcB hvs ho,(c.cur s hsm).1,fun b hb _=>(c.cur s hsm).2 b hb⟩;cases hl:qas s with
  | true=>
   simp only[if_true];have hno:∀(s':St),Step1 vs mem H S i s' S→∃H',Core vs (mem.set i s') H' S∧(∀a m,qcv vs mem H S a m→qcv vs (mem.set i s') H' S a m)∧quM vs (mem.set i s') H' S s.self []:=fun s' h=>by
    obtain⟨H',h1,h2⟩:=h;exact⟨H',h1,h2,fun x hx=>by cases hx⟩
   refine hno _ ?_;by_cases hm:qhY s=true
   ·rw[if_pos hm];exact c.install hi ho hl
   ·rw[if_neg hm];have hp:qbL s.views (s.self,s.base,s.log)=true:=by
     unfold qbL;simp only[zB];refine⟨?_,hvs.based⟩;split
     ·rfl
     ·next hb=>
      rcases hvs.known with hk|⟨v,hk,hv⟩
      ·exact absurd hk hb
      ·rw[hk];simp only[zB,zE];exact⟨qcB hvs ho,hv⟩
    exact(c.putFl hi ho hl hvs.self hp hfl).next hlen (fun mem' H' c' hi' _=>c'.install hi' ho hl)
  | false=>
   simp only[Bool.false_eq_true,if_false];have hne:qa1 (qad s.views)≠s.self:=by unfold qas at hl;simpa using hl
   refine same _ (fun x hx=>?_);simp only[qcm,List.nil_append,zC,zN,or_false] at hx;subst hx;obtain⟨l1,l2⟩:=c.logE hsm;have ht:qil (qad s.views).1:=c.limN (qbb (qbw hvs hpre)).1;have hbase : -1≤s.base∧s.base≤1099511627776:=by
    have:=hvs.base_le;have h2:=ht.2;unfold tgt at this;rcases hvs.known with hk|⟨v,hk,_⟩
    ·omega
    ·have:=(qb4 hvs.vs (qbb hk).1).2.2.2.1;have:=(qbb hk).2;omega
   exact⟨hne,_,qgt ht hbase l1 l2,fun hk=>by simp at hk,fun hk=>by simp at hk,fun hk=>by simp at hk,fun _=>hfl,fun hk=>by simp at hk⟩
end
theorem qqL{l:List (Int×Int)}{fr n:Int}(hn:0≤n){x:Int×Int}(h:x∈qfi l fr n):x∈l∨(x.1=fr∧(x.2=n∨∃y∈l,y.1=fr∧x.2=max y.2 n)):=by
 unfold qfi at h;split at h
 ·next a b hab=>
  split at h
  ·next he=>
   subst he;rcases List.mem_or_eq_of_mem_set h with h|rfl
   ·exact .inl h
   ·exact .inr ⟨rfl,.inr ⟨(a,b),zX hab,rfl,rfl⟩⟩
  ·rcases qgp h with rfl|h
   ·exact .inr ⟨rfl,.inl (by simp only;omega)⟩
   ·exact .inl h
 ·rcases List.mem_append.1 h with h|h
  ·exact .inl h
  ·simp only[zC,zN,or_false] at h;subst h;exact .inr ⟨rfl,.inl (by simp only;omega)⟩
section
variable {vs:List Vw} {mem:List St} {H:qc8} {S S':qdT} {i:Nat} {s s':St}
theorem qiM{L log ents:List Ent}{f k:Nat}(hlog:log<+:L)(he:ents<+:L.drop f)(hf:f≤log.length)(hk:k=min (log.length - f) ents.length):log++ents.drop k<+:L:=by
 by_cases hle:ents.length≤log.length - f
 ·rw[hk,Nat.min_eq_right hle,List.drop_eq_nil_of_le (zR _),List.append_nil];exact hlog
 ·rw[hk,Nat.min_eq_left (by omega)];obtain⟨r,rfl⟩:=hlog;rw[List.prefix_append_right_inj];obtain⟨t,ht⟩:=he;have h1:(ents++t).drop (log.length - f)=r:=by
   rw[ht,List.drop_drop,show f+(log.length - f)=log.length by omega,List.drop_left'];rfl
  rw[←h1,List.drop_append_of_le_length (by omega)];exact List.prefix_append _ _
theorem Core.handle(c:Core vs mem H S)(hi:mem[i]?=some s){fr:Int}(hf:qcl fr=true)(hne:fr≠s.self){m:Msg}(h11:m.kind=11→m.pay.length≤6000)(h13:m.kind=13→0≤m.first)(hnum:m.num=tgt s)(hm:qcv vs mem H S fr m) :
  Step1 vs mem H S i (qao ⟨s,[],[]⟩ fr m).s S∧(qao ⟨s,[],[]⟩ fr m).pk=[]:=by
 obtain⟨hsm,hvs,hpre,hlen⟩:=c.here hi;have c1:=(c.cur s hsm).1;obtain⟨q1,q2,q3,q4,q5⟩:=hm;unfold qao;simp only;split
 ·next hc=>
  refine⟨?_,by unfold qa5;split<;>rfl⟩;have hg:=(Good.begin hvs []).submitted (c:=⟨s,[],[]⟩) hc.2.1 hf hne (h11 hc.1);have hv:=hg.vs;unfold qa5 at hv⊢;split
  ·next he=>
   rw[if_pos he] at hv;refine c.extend hi hc.2.1 hv (.inl hc.2.2.1) (fun e hem=>?_);simp only[zC,zN,or_false] at hem;subst hem;exact .inr ⟨own_ne hf,q1 hc.1,c.base_mem hi hc.2.1⟩
  ·exact c.refl hi
 ·split
  ·next hc=>
   obtain⟨hk,ho,hl,hfr⟩:=hc;refine⟨?_,by unfold qaS;split<;>(try split)<;>(try split)<;>(try split)<;>first|rfl|exact(qdj _ _).2.2.2.2.2.2.1⟩;obtain⟨r1,r2,r3,r4⟩:=q2 hk;have hbase:=qdI ho;rw[hnum,←hbase] at r2 r3 r4;have hseq:qjp vs s.base=fr:=by rw[qeC (by rw[hbase];exact qbw hvs hpre)];exact hfr.symm
   have hled:=c.led s.self s.base;rw[c1,hseq] at hled;obtain⟨_,hb⟩:=hvs.open_base ho;obtain⟨b1,b2,b3⟩:=hvs.log hb;unfold qaS;simp only;split
   ·exact c.refl hi
   ·next a1=>
    split
    ·exact c.refl hi
    ·split
     ·exact c.refl hi
     ·next hany=>
      split
      ·exact c.refl hi
      ·next hv=>
       have hv1:qax (s.log++m.ents.drop (qcH ⟨s,[],[]⟩ m))=true:=by
        cases hx:qax (s.log++m.ents.drop (qcH ⟨s,[],[]⟩ m)) with
        | true=>rfl
        | false=>exact absurd (.inl hx) hv
       have hv2:¬s.sent<qar (s.log++m.ents.drop (qcH ⟨s,[],[]⟩ m)) s.self:=fun e=>hv (.inr e);have hall:∀e∈m.ents.drop (qcH ⟨s,[],[]⟩ m),e.v=s.base:=by
        intro e he;have h1:∀x∈m.ents.drop (qcH ⟨s,[],[]⟩ m),x.v=s.base∧¬x.o=0:=by simpa using hany
        exact(h1 e he).1
       have hnew:s.log++m.ents.drop (qcH ⟨s,[],[]⟩ m)<+:H fr s.base:=qiM hled r2 (by omega) rfl;have hstep:=c.extend hi ho (ex:=m.ents.drop (qcH ⟨s,[],[]⟩ m)) (hvs.extend (qfa (by simp only[zA];omega) hv1 (qiI b3 hall) hb) (by omega)) (.inr (by rw[hseq];exact hnew)) (fun e he=>c.good fr s.base e (hnew.subset (List.mem_append.2 (.inr he))));have hms:Stab vs H s.base ((s.log++m.ents.drop (qcH ⟨s,[],[]⟩ m)).take (min m.stable ((s.log++m.ents.drop (qcH ⟨s,[],[]⟩ m)).length:Int)).toNat):=by
        refine r4.pre ?_;refine List.prefix_of_prefix_length_le (l₃:=H fr s.base) ((List.take_prefix _ _).trans hnew) (List.take_prefix _ _) ?_;have:=hnew.length_le;simp only[zT];omega
       refine hstep.next hlen (fun mem' H' c' hi' hah=>?_);obtain⟨hsm',_,_,_⟩:=c'.here hi';refine c'.raiseF hi' (by simp only;omega) (fun _=>?_) [] [];have hA:=(hah fr m ⟨q1,q2,q3,q4,q5⟩).2.1 hk;obtain⟨z1,z2,z3,z4⟩:=hA;rw[hnum,←hbase] at z2 z3 z4;have c1':=(c'.cur _ hsm').1;have hled':=c'.led s.self s.base;rw[show H' s.self s.base=s.log++m.ents.drop (qcH ⟨s,[],[]⟩ m) from c1',hseq] at hled';refine z4.pre ?_;refine List.prefix_of_prefix_length_le (l₃:=H' fr s.base) ((List.take_prefix _ _).trans hled') (List.take_prefix _ _) ?_;have:=hled'.length_le;simp only[zT];omega
  ·split
   ·next hc=>
    obtain⟨hk,ho,hl,hmem⟩:=hc;have hbase:=qdI ho;have r:=q3 hk;rw[hnum,←hbase] at r;have hn0:=h13 hk;refine⟨?_,?_⟩
    ·unfold qco;split
     ·exact c.refl hi
     ·next hle=>
      have h':=hvs.ack ho hl hne hmem hn0 (by simp only at hle;omega);have hst:Step1 vs mem H S i {s with marks:=qfi s.marks fr m.first} S:=c.tweak hi h' rfl rfl rfl rfl (c.stab s hsm) (fun x hx=>by
       rcases qqL hn0 hx with hx|⟨x1,x2⟩
       ·exact c.marks s hsm x hx
       ·rw[x1];rcases x2 with x2|⟨y,hy,y1,x2⟩
        ·omega
        ·have:=c.marks s hsm y hy;rw[y1] at this;omega) (c.fls s hsm) (c.pend s hsm)
      exact hst.next hlen (fun mem' H' c' hi' _=>c'.announce hi' ho hl [] [])
    ·unfold qco;split
     ·rfl
     ·exact(qaK _).2.2.2.2.2.2.1
   ·split
    ·next hc=>
     obtain⟨hk,ho,hl⟩:=hc;split
     ·next hp=>
      refine⟨?_,rfl⟩;have r:=q4 hk;rw[hnum] at r;exact(c.putFl hi ho hl hf hp r).next hlen (fun mem' H' c' hi' _=>c'.install hi' ho hl)
     ·exact⟨c.refl hi,rfl⟩
    ·split
     ·next hc=>
      obtain⟨hk,ho,hl,hfr,hmem⟩:=hc;refine⟨?_,by unfold qbp;split<;>rfl⟩;have r:=q5 hk;rw[hnum] at r;unfold qbp;split
      ·next hin=>
       obtain⟨i1,i2,i3,i4⟩:=hin;simp only at i2 i3 i4;rw[hnum] at i2;have hmk:s.marks=[]:=by
        rcases hvs.mk0 with hm|⟨hm,_⟩
        ·exact hm
        ·rw[ho] at hm;cases hm
       have hfl:s.fls=[]:=by
        rcases hvs.fl0 with hm|⟨_,hm⟩
        ·exact hm
        ·rw[hl] at hm;cases hm
       obtain⟨k1,k2⟩:=hvs.relog hmk i2 hmem i3 i4;have e:({s with base:=m.num,log:=m.ents}:St)={s with base:=tgt s,log:=m.ents,fls:=[]}:=by rw[hnum,←hfl]
       show Step1 vs mem H S i {s with base:=m.num,log:=m.ents} S;rw[e];have hHne:H fr (tgt s)≠[]:=fun e'=>by rw[e'] at r;rw[List.prefix_nil.1 r] at i1;simp at i1
       obtain⟨x,ch,hkx,hbirth,hini⟩:=c.born fr (tgt s) hHne;have hx:x=qad s.views:=by have:=qbw hvs hpre;rw[hkx] at this;exact Option.some.inj this
       subst hx;have hinit:ch++[qab (qad s.views).1 (qad s.views).2]<+:m.ents:=by
        refine List.prefix_of_prefix_length_le (hini fr hHne) r ?_;apply Classical.byContradiction;intro hlt;have hch:m.ents<+:ch:=List.prefix_of_prefix_length_le r ((List.prefix_append _ _).trans (hini fr hHne)) (by simp only[zA,zK,List.length_nil] at hlt;omega);have hne0:m.ents≠[]:=List.ne_nil_of_length_pos i1;obtain⟨e0,he0,hev⟩:=qpP hne0;have hlast:qca m.ents=tgt s:=by
         unfold qaY at i2;split at i2
         ·simp only[zE] at i2;omega
         ·simp only[zB,zE] at i2;exact i2.2.2
        have he0c:=hch.subset he0;rcases hbirth with ⟨_,hnil⟩|⟨t,F,t1,t2,t3,_,_,f,t6,t7⟩
        ·rw[hnil] at he0c;cases he0c
        ·have:=qjH (c.log f t (by rw[t7];exact t3)).1 (by rw[t7];exact he0c);omega
       exact c.enter hi ho k1 k2 hbirth hinit hini (.inr (by rw[←hfr];exact r)) (fun e he=>c.good fr (tgt s) e (r.subset he))
      ·exact c.refl hi
     ·exact⟨c.refl hi,rfl⟩
theorem Core.receive(c:Core vs mem H S)(hi:mem[i]?=some s){fr:Int}(hf:qcl fr=true)(hne:fr≠s.self){frame:List UInt8}{m:Msg}(hr:qa7 frame=some m)(hm:qcv vs mem H S fr m) :
  (qak s fr frame).2=0∧Step1 vs mem H S i (qak s fr frame).1.s S∧(qak s fr frame).1.pk=[]:=by
 obtain⟨hsm,hvs,hpre,hlen⟩:=c.here hi;have e:qak s fr frame=(if m.num=(qad s.views).1 then qao ⟨s,[],[]⟩ fr m else ⟨s,[],[]⟩,0):=by
  unfold qak;rw[if_neg (by rw[qb2.2 hvs,hf];simp[hne]),hr]
 rw[e];refine⟨rfl,?_⟩;simp only;obtain⟨r1,r2⟩:=qod hr;split
 ·next hn=>exact c.handle hi hf hne r1 r2 hn hm
 ·exact⟨c.refl hi,rfl⟩
theorem Good.told{s:St}{c:Cs}(g:Good s c):c.s.log.take c.s.stable.toNat=s.log.take s.stable.toNat++c.dl:=by
 have h1:=g.gr.st;have h0:=g.z;rw[←g.gr.pre,←g.gr.cut];unfold qcQ;rw[show c.s.log.take s.stable.toNat=(c.s.log.take c.s.stable.toNat).take s.stable.toNat by rw[List.take_take,Nat.min_eq_left (by omega)],List.take_append_drop]
end
abbrev Fly:=Int×Int×List UInt8
structure Wd where
 views:List Vw
 mem:List St
 down:List Bool
 told:List (List Ent)
 sent:List (List (List UInt8))
 fly:List Fly
def qq4(w:Wd)(s:St):Wd:={w with mem:=w.mem++[s],down:=w.down++[false],told:=w.told++[[]],sent:=w.sent++[[]]}
def qc1(v:Vw):Wd:=v.2.foldl (fun w m=>qq4 w (qbl v m).1) ⟨[v],[],[],[],[],[]⟩
def qeo(w:Wd)(i:Nat):St:=(w.mem[i]?).getD qc7
def qaB(w:Wd)(i:Nat):Bool:=(w.down[i]?).getD false
def qnj(self:Int):List St→Nat→Int
 | [],_=>-1
 | s::l,k=>if s.self=self then (k:Int) else qnj self l (k+1)
theorem qey(self:Int)(l:List St):∀k,(qnj self l k = -1∧∀s∈l,s.self≠self)∨∃i s,qnj self l k=((k+i:Nat):Int)∧l[i]?=some s∧s.self=self:=by
 induction l with
 | nil=>intro k;exact .inl ⟨rfl,by simp⟩
 | cons a l ih=>
  intro k;unfold qnj;split
  ·next h=>exact .inr ⟨0,a,by simp,by simp,h⟩
  ·next h=>
   rcases ih (k+1) with ⟨h1,h2⟩|⟨i,s,h1,h2,h3⟩
   ·left;refine⟨h1,fun s hs=>?_⟩;rcases zC.1 hs with rfl|hs
    ·exact h
    ·exact h2 s hs
   ·exact .inr ⟨i+1,s,by rw[h1];congr 1;omega,by simpa using h2,h3⟩
def qfw(w:Wd)(self:Int):Int:=qnj self w.mem 0
def qm3(a:Int)(n:Nat)(p:List (Int×List UInt8)):List Fly:=(p.take (400 - n)).map fun x=>(a,x.1,x.2)
def qg9(w:Wd)(i:Nat)(p:List (Int×List UInt8))(l:List Ent):Wd:=
 {w with told:=w.told.set i ((w.told[i]?).getD []++l),fly:=w.fly++qm3 (qeo w i).self w.fly.length p}
def qfv(w:Wd)(i:Nat)(s:St):Wd:={w with mem:=w.mem.set i s}
def qbm(w:Wd)(f:Fly):Wd×Bool:=
 let t:=qfw w f.2.1
 if t<0∨qaB w t.toNat=true then (w,true)
 else
  let r:=qak (qeo w t.toNat) f.1 f.2.2
  if r.2≠0 then (w,false) else (qg9 (qfv w t.toNat r.1.s) t.toNat r.1.pk r.1.dl,true)
def qe0(w:Wd)(i:Nat):Int:=(qbu (qeo w i).views 0).1 - (qbu w.views 0).1+(qeo w i).views.length
def qbZ(w:Wd)(i:Nat):Wd×Bool:=
 if (w.views.length:Int)≤qe0 w i then (w,true)
 else
  let r:=qaT (qeo w i) (qbu w.views (qe0 w i).toNat)
  if r.2≠0 then (w,false) else (qfv w i r.1,true)
def qlb(vs:List Vw)(self:Int):St×Int:=
 if qaw vs&&qbN (qad vs).2 self then (⟨self,vs,-1,[],0,0,[],[],[]⟩,0) else (qc7,1)
structure Mv where
 kind:Nat
 a:Nat
 cut:Nat
 n:Nat
def qch(c i:Nat):Bool:=decide (c / 2 ^ i % 2=1)
def qiu(c:Nat)(xs:List Int)(k:Nat):List Int:=((List.range k).filter (qch c)).map fun i=>(xs[i]?).getD 0
def qdr(m:Mv):Int:=1+m.n % 1000
def quI(w:Wd)(m:Mv):Bool:=decide (m.n % 3=0)&&(decide (qfw w (qdr m)<0)&&(!qbN (qad w.views).2 (qdr m)&&decide (w.mem.length<7)))
def qlu(w:Wd)(m:Mv):List Int:=
 let c:=qiu m.cut (qad w.views).2 (qad w.views).2.length
 if quI w m then qcX c (qdr m) else c
def qi7(w:Wd)(m:Mv):Wd×Bool:=
 let v:=qb9 (qad w.views).1 (qad w.views).2 (qlu w m)
 if v.2.2≠0 then (w,true)
 else
  let w1:Wd:={w with views:=w.views++[(v.1,v.2.1)]}
  if qbN v.2.1 (qdr m)&&decide (qfw w (qdr m)<0) then
   let r:=qlb w1.views (qdr m)
   if r.2≠0 then (w1,false) else (qq4 w1 r.1,true)
  else (w1,true)
def qnr(w:Wd)(a:Nat):Wd:=let r:=qaM (qeo w a);qg9 (qfv w a r.s) a r.pk r.dl
theorem qg3{l:List Vw}{v:Vw}(h:qaw l=true)(hl:l.length<2000)(hf:qbD (qad l) v=true):qaw (l++[v])=true:=by
 obtain⟨h1,_,h3,h4⟩:=qa8 h;have at_:∀i,i<l.length→qbu (l++[v]) i=qbu l i:=fun i hi=>by unfold qbu;rw[List.getElem?_append_left hi]
 have atl:qbu (l++[v]) l.length=v:=by unfold qbu;simp
 unfold qaw;simp only[zB,zE,List.all_eq_true,List.mem_range,zA,zK,List.length_nil];refine⟨by omega,by omega,by rw[at_ 0 (by omega)];exact h3,fun i hi=>?_⟩;rw[at_ i (by omega)];by_cases he:i+1=l.length
 ·rw[he,atl];have:qbu l i=qad l:=by unfold qad;congr 1;omega
  rw[this];exact hf
 ·rw[at_ (i+1) (by omega)];exact h4 i (by omega)
theorem qhS{l l':List Vw}(h:qaw l'=true)(hp:l<+:l')(hl:1≤l.length):qaw l=true:=by
 obtain⟨h1,h2,h3,h4⟩:=qa8 h;obtain⟨r,rfl⟩:=hp;have at_:∀i,i<l.length→qbu (l++r) i=qbu l i:=fun i hi=>by unfold qbu;rw[List.getElem?_append_left hi]
 unfold qaw;simp only[zB,zE,List.all_eq_true,List.mem_range];rw[zA] at h2 h4;refine⟨hl,by omega,by rw[←at_ 0 (by omega)];exact h3,fun i hi=>?_⟩;rw[←at_ i (by omega),←at_ (i+1) (by omega)];exact h4 i (by omega)
theorem qgK(l:List Vw)(v:Vw):qad (l++[v])=v:=by unfold qad qbu;simp
theorem qhQ{v:Vw}{cut:List Int}{n:Int}{ys:List Int}(h:qb9 v.1 v.2 cut=(n,ys,0)):qbD v (n,ys)=true:=by
 unfold qbD;rw[(qor h).1,h];simp
section
variable {vs vs':List Vw} {mem mem':List St} {H:qc8} {S:qdT} {i:Nat} {s s':St}
theorem Core.learn(c:Core vs mem H S)(hi:mem[i]?=some s){v:Vw}(hp:s.views++[v]<+:vs) :
  (qaT s v).2=0∧Step1 vs mem H S i (qaT s v).1 S∧(qaT s v).1.self=s.self∧(qaT s v).1.log=s.log∧(qaT s v).1.stable=s.stable:=by
 obtain⟨hsm,hvs,hpre,hlen⟩:=c.here hi;have hvv:qaw (s.views++[v])=true:=qhS c.vld hp (by simp);have he:qaT s v=({s with views:=s.views++[v],marks:=[],fls:=[]},0):=by
  unfold qaT;rw[if_neg (by rw[qb2.2 hvs];simp),if_neg (by rw[hvv];simp)]
 have hV:=(qlA hvs (v:=v) (by rw[he])).1;rw[he] at hV⊢;refine⟨rfl,?_,rfl,rfl,rfl⟩;clear he;show Step1 vs mem H S i {s with views:=s.views++[v],marks:=[],fls:=[]} S;replace hV:VS {s with views:=s.views++[v],marks:=[],fls:=[]}:=hV;have htg:tgt s≤tgt {s with views:=s.views++[v],marks:=[],fls:=[]}:=by
  have h1:=qb4 hvv (x:=qad s.views) (List.mem_append.2 (.inl (qbb (qdf hvs.vs)).1));exact h1.2.1
 have g:Grow vs mem H S vs (mem.set i {s with views:=s.views++[v],marks:=[],fls:=[]}) H S:=by
  refine⟨List.prefix_rfl,⟨c.vld,c.vld⟩,fun t htm=>?_,fun _ _=>List.prefix_rfl,fun _ _ h=>absurd rfl h,fun _=>List.prefix_rfl⟩;rcases qdv (s':={s with views:=s.views++[v],marks:=[],fls:=[]}) hi htm with rfl|h
  ·exact⟨_,List.mem_set hlen _,rfl,htg⟩
  ·exact⟨t,h,rfl,Int.le_refl _⟩
 refine⟨H,?_,fun a m h=>g.msg h⟩;refine⟨c.vld,fun t htm=>?_,by rw[qmb (s':={s with views:=s.views++[v],marks:=[],fls:=[]}) hi rfl];exact c.ids,fun t htm=>?_,fun p hp=>?_,c.log,c.led,fun p b hne=>?_,fun t htm=>?_,fun t htm m hmm=>?_,fun t htm f hff=>?_,fun t htm=>?_,c.good⟩
 ·rcases qbf c.ids hi htm with rfl|⟨h,_⟩
  ·exact⟨hV,hp⟩
  ·exact c.ok t h
 ·rcases qbf c.ids hi htm with rfl|⟨h,_⟩
  ·exact c.cur s hsm
  ·exact c.cur t h
 ·refine c.out p (fun t htm he=>?_);rcases qdv (s':={s with views:=s.views++[v],marks:=[],fls:=[]}) hi htm with rfl|h
  ·exact hp _ (List.mem_set hlen _) he
  ·exact hp t h he
 ·obtain⟨x,ch,k1,k2,k3⟩:=c.born p b hne;exact⟨x,ch,k1,g.birth k1 k2,k3⟩
 ·rcases qbf c.ids hi htm with rfl|⟨h,_⟩
  ·exact c.stab s hsm
  ·exact c.stab t h
 ·rcases qbf c.ids hi htm with rfl|⟨h,_⟩
  ·cases hmm
  ·exact c.marks t h m hmm
 ·rcases qbf c.ids hi htm with rfl|⟨h,_⟩
  ·cases hff
  ·exact g.flok (c.fls t h f hff)
 ·rcases qbf c.ids hi htm with rfl|⟨h,_⟩
  ·exact c.pend s hsm
  ·exact c.pend t h
theorem Core.more(c:Core vs mem H S){v:Vw}(hv:qaw (vs++[v])=true):Core (vs++[v]) mem H S∧∀a m,qcv vs mem H S a m→qcv (vs++[v]) mem H S a m:=by
 have g:Grow vs mem H S (vs++[v]) mem H S:=⟨List.prefix_append _ _,⟨c.vld,hv⟩,fun t htm=>⟨t,htm,rfl,Int.le_refl _⟩,fun _ _=>List.prefix_rfl,fun _ _ h=>absurd rfl h,fun _=>List.prefix_rfl⟩;refine⟨⟨hv,fun t htm=>⟨(c.ok t htm).1,(c.ok t htm).2.trans g.pre⟩,c.ids,c.cur,c.out,fun p b hne=>?_,fun p b=>?_,fun p b hne=>?_,fun t htm=>g.stab (c.stab t htm),c.marks,fun t htm f hf=>g.flok (c.fls t htm f hf),c.pend,fun p b e he=>(c.good p b e he).mono g.pre (fun _=>List.prefix_rfl)⟩,fun a m h=>g.msg h⟩
 ·obtain⟨h1,h2,x,h3,h4⟩:=c.log p b hne;exact⟨h1,h2,x,qeg g.pre h3,h4⟩
 ·by_cases hne:H p b=[]
  ·rw[hne];exact List.nil_prefix
  ·obtain⟨_,_,x,h3,_⟩:=c.log p b hne;rw[ql4 g.pre h3];exact c.led p b
 ·obtain⟨x,ch,k1,k2,k3⟩:=c.born p b hne;exact⟨x,ch,qeg g.pre k1,g.birth k1 k2,k3⟩
theorem Core.join(c:Core vs mem H S){p:Int}(hid:qcl p=true)(hnew:∀s∈mem,s.self≠p) :
  Core vs (mem++[⟨p,vs,-1,[],0,0,[],[],[]⟩]) H S∧∀a m,qcv vs mem H S a m→qcv vs (mem++[⟨p,vs,-1,[],0,0,[],[],[]⟩]) H S a m:=by
 have g:Grow vs mem H S vs (mem++[⟨p,vs,-1,[],0,0,[],[],[]⟩]) H S:=⟨List.prefix_rfl,⟨c.vld,c.vld⟩,fun t htm=>⟨t,List.mem_append.2 (.inl htm),rfl,Int.le_refl _⟩,fun _ _=>List.prefix_rfl,fun _ _ h=>absurd rfl h,fun _=>List.prefix_rfl⟩;obtain⟨o1,o2⟩:=c.out p hnew;have hcase:∀t∈mem++[(⟨p,vs,-1,[],0,0,[],[],[]⟩:St)],t∈mem∨t=⟨p,vs,-1,[],0,0,[],[],[]⟩:=fun t ht=>by
  rcases List.mem_append.1 ht with h|h
  ·exact .inl h
  ·exact .inr (by simpa using h)
 have hV:VS (⟨p,vs,-1,[],0,0,[],[],[]⟩:St):=⟨hid,c.vld,Int.le_refl _,by show (0:Int)≤_;omega,by unfold qaY;simp,.inl rfl,by simp[qar],Int.le_refl _,by simp,by simp,by simp[qar],by simp,.inl rfl,.inl rfl,⟨List.Pairwise.nil,by simp⟩,by simp,⟨List.Pairwise.nil,by simp⟩,by simp⟩;refine⟨⟨c.vld,fun t ht=>?_,?_,fun t ht=>?_,fun q hq=>c.out q (fun t ht=>hq t (List.mem_append.2 (.inl ht))),c.log,c.led,fun q b hne=>?_,fun t ht=>?_,fun t ht m hm=>?_,fun t ht f hf=>?_,fun t ht=>?_,c.good⟩,fun a m h=>g.msg h⟩
 ·rcases hcase t ht with h|rfl
  ·exact c.ok t h
  ·exact⟨hV,List.prefix_rfl⟩
 ·rw[List.map_append];refine List.nodup_append.2 ⟨c.ids,by simp,fun a ha b hb e=>?_⟩;obtain⟨t,ht,rfl⟩:=List.mem_map.1 ha;simp only[List.map_cons,List.map_nil,zC,zN,or_false] at hb;exact hnew t ht (by rw[e,hb])
 ·rcases hcase t ht with h|rfl
  ·exact c.cur t h
  ·exact⟨o1 _,fun b _=>o1 b⟩
 ·obtain⟨x,ch,k1,k2,k3⟩:=c.born q b hne;exact⟨x,ch,k1,g.birth k1 k2,k3⟩
 ·rcases hcase t ht with h|rfl
  ·exact c.stab t h
  ·exact .inl (by simp)
 ·rcases hcase t ht with h|rfl
  ·exact c.marks t h m hm
  ·cases hm
 ·rcases hcase t ht with h|rfl
  ·exact g.flok (c.fls t h f hf)
  ·cases hf
 ·rcases hcase t ht with h|rfl
  ·exact c.pend t h
  ·simp only;rw[o2];simp
def qg7(v:Vw)(p:Int):St:=⟨p,[v],v.1,[qab v.1 v.2],0,0,[],[],[]⟩
def qiv(v:Vw):qc8:=fun p b=>if p∈v.2∧b=v.1 then [qab v.1 v.2] else []
theorem qib{v:Vw}(hv:qap v.1 v.2=true):qaw [v]=true:=by
 unfold qaw;simp[qbu,hv]
theorem Core.begin{v:Vw}(hv:qap v.1 v.2=true):Core [v] (v.2.map (qg7 v)) (qiv v) (fun _=>[]):=by
 have hn:=qaV hv;have hids:=qcb (qbC hv);have hid:∀p∈v.2,qcl p=true:=fun p hp=>by
  have:=((qcN (m:=16)).1 (qbC hv)).2.2.2 p hp;unfold qcl;simp;omega
 have hk:qaQ [v] v.1=some v:=by unfold qaQ;simp
 have hlog:qax [qab v.1 v.2]=true∧qca [qab v.1 v.2]=v.1:=by
  have:=qkc (l:=[]) (by decide) (by simp) hv (.inl rfl);simpa using this
 have hbased:qaY [qab v.1 v.2] v.1=true:=qfa (by simp) hlog.1 hlog.2 (by omega);have hown:∀p∈v.2,qar [qab v.1 v.2] p=0:=fun p hp=>by
  have:=own_ne (hid p hp);simp[qar,qab];omega
 have hmem:∀t∈v.2.map (qg7 v),∃p∈v.2,t=qg7 v p:=fun t ht=>by
  obtain⟨p,hp,rfl⟩:=List.mem_map.1 ht;exact⟨p,hp,rfl⟩
 have hne:∀p b,qiv v p b≠[]→p∈v.2∧b=v.1∧qiv v p b=[qab v.1 v.2]:=fun p b h=>by
  unfold qiv at h⊢;split at h
  ·next hc=>exact⟨hc.1,hc.2,if_pos hc⟩
  ·exact absurd rfl h
 have hat:∀p∈v.2,qiv v p v.1=[qab v.1 v.2]:=fun p hp=>by unfold qiv;rw[if_pos ⟨hp,rfl⟩]
 refine⟨qib hv,fun t ht=>?_,?_,fun t ht=>?_,fun p hp=>⟨fun b=>?_,rfl⟩,fun p b h=>?_,fun p b=>?_,fun p b h=>?_,fun t ht=>?_,fun t ht m hm=>?_,fun t ht f hf=>?_,fun t ht=>?_,fun p b e he=>?_⟩
 ·obtain⟨p,hp,rfl⟩:=hmem t ht;exact⟨⟨hid p hp,qib hv,Int.le_refl _,by show (0:Int)≤_;omega,hbased,.inr ⟨v,hk,qbq.2 hp⟩,by show (qar [qab v.1 v.2] p:Int)≤0;rw[hown p hp];simp,Int.le_refl _,by simp[qg7],by simp[qg7],by simp[qg7,qar],by simp[qg7],.inl rfl,.inl rfl,⟨List.Pairwise.nil,by simp[qg7]⟩,by simp[qg7],⟨List.Pairwise.nil,by simp[qg7]⟩,by simp[qg7]⟩,List.prefix_rfl⟩
 ·rw[List.map_map];have:(v.2.map (St.self∘qg7 v))=v.2:=by
   rw[show (St.self∘qg7 v)=id from rfl,List.map_id]
  rw[this];exact List.Pairwise.imp (fun h=>by omega) hids
 ·obtain⟨p,hp,rfl⟩:=hmem t ht;refine⟨hat p hp,fun b hb=>?_⟩;have:b≠v.1:=by simp only[qg7] at hb;omega
  unfold qiv;rw[if_neg (fun h=>this h.2)]
 ·by_cases h:qiv v p b=[]
  ·exact h
  ·exact absurd rfl (hp (qg7 v p) (List.mem_map_of_mem (hne p b h).1))
 ·obtain⟨h1,rfl,h3⟩:=hne p b h;rw[h3];exact⟨hbased,by omega,v,hk,qbq.2 h1⟩
 ·by_cases h:qiv v p b=[]
  ·rw[h];exact List.nil_prefix
  ·obtain⟨h1,rfl,h3⟩:=hne p b h;have hq:qa1 v∈v.2:=by
    unfold qa1;rw[if_pos hv];have:=(qaU hv).1;rw[zY (by omega)];exact List.getElem_mem _
   rw[h3,qeC hk,hat _ hq];exact List.prefix_rfl
 ·obtain⟨h1,rfl,h3⟩:=hne p b h;exact⟨v,[],hk,.inl ⟨rfl,rfl⟩,fun q hq=>by rw[(hne q _ hq).2.2];exact List.prefix_rfl⟩
 ·obtain⟨p,hp,rfl⟩:=hmem t ht;exact .inl (by simp[qg7])
 ·obtain⟨p,hp,rfl⟩:=hmem t ht;cases hm
 ·obtain⟨p,hp,rfl⟩:=hmem t ht;cases hf
 ·obtain⟨p,hp,rfl⟩:=hmem t ht;exact⟨rfl,by simp[qg7]⟩
 ·have:=hne p b (fun e'=>by rw[e'] at he;cases he);rw[this.2.2] at he;simp only[zC,zN,or_false] at he;exact .inl ⟨by rw[he];rfl,v,by simp,he⟩
end
open Go.RowKit
theorem qoc{l:List (Int×Int)}{k:Nat}{x:Int×Int}(n:Int)(h:l[k]?=some x):n::(l.take (k+1)).map (fun m=>m.2)=(n::(l.take k).map fun m=>m.2)++[x.2]:=by
 rw[List.take_add_one,h];simp
theorem qpQ(x:Int)(w:World):Own (w.alloc (.cells #[Jq x] 3)) w.heap.size 3 (.slice (some (Pq w.heap.size 0)) 1 1) (qaq [x]):=
 ⟨rfl,.inr ⟨w.heap.size,1,_,rfl,zR _,(by show (w.heap.push _)[w.heap.size]?=_;simp;rfl),zR _,by unfold maxLen;decide,rfl,rfl⟩⟩
theorem qgN(m:CM)(B:Nat)(col:Nat→Nat)(p:Nat)(w:World)(h:CS w B col p m)(hvs:0<m.b.vs.length)(hs:0≤m.b.stable)(hmk:∀x∈m.b.marks,x.2≤(m.b.log.length:Int))(hdl:m.dl.length≤100000)
  (hmj:1≤qfB (qad (vws m.b.vs)).2.length) (hpd:∀n:Int,n≤m.b.log.length→qar (qcQ m.b.log m.b.stable n) m.b.self≤m.b.pend.length) :
  Calls Tryz.prog 118 #[.pointer (some (Pq p 0))] w (qix B col p w (qam m.cs)):=by
 have H:=hJ h;have hpl:=h.lt;have q1:=h.cell 1;have q3:=h.cell 3;have q7:=h.cell 7;have hfv:=h.fits.vs;have hfm:=h.fits.marks;have hfl:=h.fits.log;have hxl:=qhV h.fits.vx;obtain⟨⟨nv,xs⟩,hlv⟩:∃v,qad (vws m.b.vs)=v:=⟨_,rfl⟩;have HLV:=hJ hlv;rw[hlv] at hxl hmj;have HPD:=hJ hpd;have HMK:=hJ hmk;have HAN:Hid (qam m.cs=if ((qb8 m.b.st).length:Int)<qfB xs.length then m.cs else raiseF m.cs (((qeD (qb8 m.b.st))[(((qb8 m.b.st).length:Int) - qfB xs.length).toNat]?).getD 0)):=hJ (by
  show (if ((qb8 m.b.st).length:Int)<qfB (qad (vws m.b.vs)).2.length then m.cs else raiseF m.cs (((qeD (qb8 m.b.st))[(((qb8 m.b.st).length:Int) - qfB (qad (vws m.b.vs)).2.length).toNat]?).getD 0))=_;rw[hlv])
 have HLF:Hid (qb8 m.b.st=(m.b.log.length:Int)::m.b.marks.map fun x=>x.2):=hJ rfl;obtain⟨ln,hln⟩:∃l,l=qb8 m.b.st:=⟨_,rfl⟩;rw[←hln] at HAN HLF;have hfd:=qbH;clear h hlv hpd hmk hln;obtain⟨mj,hmjz⟩:∃k:Nat,qfB (xs.length:Int)=(k:Int):=⟨(qfB (xs.length:Int)).toNat,by simp only at hmj;omega⟩;simp only at hxl hmj;have hmj1:1≤mj:=by omega
 have HMJ:=hJ hmjz;rw[hmjz] at HAN;clear hmjz hmj;obtain⟨M,hM⟩:∃x,x=m:=⟨_,rfl⟩;have HM:=hJ hM;rw[←hM] at H HAN⊢;clear hM;obtain⟨⟨self,base,stable,sent,Av,cv,vs,Al,cl,log,Ap,cp,pend,Am,cm,marks,Af,cf,fls⟩,Ak,ck,pk,Ad,cd,dl⟩:=m;simp only at hvs hs hfv hfm hfl hdl HLV HPD HMK HLF;replace q1:w.cell? (Pq p 1)=some (.slice Av vs.length cv):=q1;replace q3:w.cell? (Pq p 3)=some (.slice Al log.length cl):=q3;replace q7:w.cell? (Pq p 7)=some (.slice Am marks.length cm):=q7;have HVB:Hid (qaC.Box w Av vs):=hJ (by have:=H.out.lies.vs;rw[HM.out] at this;exact this);have HMR:Hid (Row w Am (qat.cells marks)):=hJ (by have:=H.out.lies.marks.row;rw[HM.out] at this;exact this);go_enter Tryz.func118,Tryz.ntmps118;go_wp2_with fail;refine(qef Av cv vs w HVB.out hvs (by omega) nv xs HLV.out).mono ?_;rintro en w1 ⟨A1,c1,rfl,h11,h12,HR1,hx1⟩;have X1:=hJ hx1;have r3:w1.cell? (Pq p 3)=some (.slice Al log.length cl):=by rw[hx1.cell (by exact hpl)];exact q3
 have r7:w1.cell? (Pq p 7)=some (.slice Am marks.length cm):=by rw[hx1.cell (by exact hpl)];exact q7
 have hpl1:p<w1.heap.size:=by have:=hx1.size;omega
 clear hx1 q1 q3 q7;go_wp2;go_loopw [3,27] (fun v i wr=>∃(k:Nat) (v':Value),v'=v∧k≤marks.length∧i=Jq k∧Hid (Own wr w.heap.size 3 v' (qaq ((log.length:Int)::(marks.take k).map fun x=>x.2)))∧Hid (Ext w wr)) (fun _ i _=>marks.length - (intOf i).toNat)
 case atStart=>exact⟨0,_,rfl,zO _,rfl,hJ ((qpQ _ w1).base X1.out.size),hJ (X1.out.trans (Ext.new _ _))⟩
 case round=>
  obtain⟨k,v,rfl,hk,rfl,HO,HX⟩:=hrel;by_cases hlt:k<marks.length
  ·obtain⟨bb,off,x,rfl,hb,c0,c1',HE⟩:=qgf (HMR.out.ext HX.out) hlt;have HSN:=hJ (qoc (log.length:Int) HE.out);go_wp2_with (first
    | (at_builtin;refine qdP rfl (.tmp 31) (.tmp 34) _ 3 _ 8 rfl Tryz.underlying44 qhi rfl (by decide) _ w.heap.size _ (qaq ((log.length:Int)::(marks.take k).map fun x=>x.2)) (by rfl) _ 1 1 (qaq [x.2]) (by rfl) (by rfl) (by exact qvm (qfM x.2 _) (by simp)) (by intro u hu;simp[qaq] at hu;subst hu;rfl) (by exact HO.out.ext ((Ext.new _ _).trans (Ext.new _ _))) (by simp[qaq];omega) (by have:=HX.out.size;simp;omega) ?_;intro v2 w2 ho2 hg2 hs2))
   have X2:Hid (Ext w w2):=hJ (hg2.below ((HX.out.trans (Ext.new _ _)).trans (Ext.new _ _)) (by have:=HX.out.size;simp;omega) (fun k hk=>(HO.out.lt k hk).1));go_roundw
   case rel=>exact⟨k+1,_,rfl,by omega,by go_num,hJ (by rw[HSN.out];simpa[qaq] using ho2),X2⟩
   case measure=>simp[intOf];omega
  ·have hkl:marks.take k=marks:=List.take_of_length_le (by omega);rw[hkl,←HLF.out] at HO;have hll:Hid (ln.length=marks.length+1):=hJ (by rw[HLF.out];simp);obtain⟨A3,c3,rfl,h31,h32⟩:∃A c',v=.slice A ln.length c'∧ln.length≤c'∧c'≤maxLen:=by
    obtain⟨A,c',h1,h2,h3,_⟩:=HO.out.slice;have e:(qaq ln).length=ln.length:=by simp[qaq]
    rw[e] at h1 h2;exact⟨A,c',h1,h2,h3⟩
   go_wp2_with fail;refine(qgQ xs.length wr).mono ?_;rintro en w3 ⟨rfl,rfl⟩;rw[HMJ.out];by_cases hnd:ln.length<mj
   ·have HR:Hid (qam M.cs=M.cs):=hJ (by rw[HAN.out,if_pos (by omega)]);have hd:decide ((ln.length:Int)<(mj:Int))=true:=by simp;omega
    go_wp2;(try simp only[Exit.inBlock,Exit.then]);refine bodyPost_ret (results_none rfl _ _ _) rfl ?_
    rw[HR.out];exact⟨M,col,rfl,H.out.ext HX.out,rfl,Stp.ext' H.out.Bsz HX.out⟩
   ·have hd:decide ((ln.length:Int)<(mj:Int))=false:=by simp;omega
    obtain⟨g,rfl⟩:∃g,A3=some (Pq g 0):=by
     obtain⟨_,h2⟩:=HO.out;rcases h2 with ⟨h2,hz⟩|⟨g,cap,cur,hv,_⟩
     ·have:=hll.out;have e:(qaq ln).length=ln.length:=by simp[qaq]
      rw[e] at hz;omega
     ·simp only[Value.slice.injEq] at hv;exact⟨g,hv.1⟩
    go_wp2_with fail;refine(qrJ g c3 w.heap.size ln wr HO.out (by have:=hll.out;omega)).mono ?_;rintro en w4 ⟨rfl,ho4,hg4⟩;have HO4:=hJ ho4;have X4:Hid (Ext w w4):=hJ (hg4.below HX.out HX.out.size (fun k hk=>(HO.out.lt k hk).1));clear ho4 hg4;obtain⟨ix,hix⟩:∃ix:Nat,ix=ln.length - mj:=⟨_,rfl⟩;have HIX:=hJ hix;have hixl:ix<(qeD ln).length:=by rw[qeZ];omega
    obtain⟨b5,off5,z,hA5,c5,HZ⟩:=HO4.out.row.at_ hixl;cases hA5;have hsub:IntKind.i64.wrap ((ln.length:Int) - (mj:Int))=(ix:Int):=by rw[IntWalk.i64_in _ (by have:=hll.out;omega)];omega
    have hi0:(0:Int)≤(ix:Int):=by omega
    have hil:(ix:Int)<(ln.length:Int):=by omega
    have HR:Hid (qam M.cs=raiseF M.cs z):=hJ (by
     rw[HAN.out,if_neg (by omega)];have:((ln.length:Int) - (mj:Int)).toNat=ix:=by omega
     rw[this,HZ.out];rfl)
    have hzl:Hid (z≤(log.length:Int)):=hJ (by
     have h1:z∈ln:=(qcI ln).mem_iff.1 (zX HZ.out);rw[HLF.out] at h1;rcases zC.1 h1 with h1|h1
     ·omega
     ·obtain⟨x,hx,rfl⟩:=List.mem_map.1 h1;exact HMK.out x hx)
    rw[Nat.zero_add] at c5;clear hix;have C4:=hJ (H.out.ext X4.out);go_wp2_with fail;refine(qj1 M B col p z w4 C4.out (by rw[HM.out];exact hs) (by rw[HM.out];exact hzl.out) (by rw[HM.out];exact hdl) (by rw[HM.out];exact HPD.out z hzl.out)).mono ?_;rintro en w5 ⟨m5,col5,rfl,hc5,hm5,hs5⟩;go_wp2;go_end0;rw[HR.out]
    exact⟨m5,col5,rfl,hc5,hm5,(Stp.ext' H.out.Bsz X4.out).trans hs5⟩
theorem qio:∀(l:List (Int×Int)) (k:Nat) (x:Int×Int) (n:Int),l[k]?=some x→qat.cells (l.set k (x.1,n))=(qat.cells l).set (k*2+1) (Jq n):=by
 intro l;induction l with
 | nil=>intro k x n h;simp at h
 | cons y l ih=>
  intro k x n h
  match k,h with
  | 0,h=>simp only[List.getElem?_cons_zero,zJ] at h;subst h;rfl
  | k+1,h=>
   rw[List.set_cons_succ,qat.cells_cons,qat.cells_cons,ih k x n (by simpa using h)];have e1:(k+1)*2+1=k*2+1+1+1:=by omega
   rw[e1];rfl
theorem qh3{w:World}{B g cap:Nat}{l:List (Int×Int)}{k:Nat}{x:Int×Int}(n:Int)(h:qat.Own w B (.slice (some (Pq g 0)) l.length cap) l)(hx:l[k]?=some x) :
  qat.Own (w.setCell (Pq g (k*2+1)) (Jq n)) B (.slice (some (Pq g 0)) l.length cap) (l.set k (x.1,n)):=by
 obtain⟨h1,h2⟩:=h;refine⟨by rw[qat.cells_len],.inr ?_⟩;rcases h2 with ⟨h2,_⟩|⟨g',cap',cur,hv,h3,hh,h4,h5,h6,h7⟩
 ·cases h2
 ·simp only[Value.slice.injEq,zJ,Addr.mk.injEq,and_true,true_and] at hv;obtain⟨rfl,rfl⟩:=hv;refine⟨g,cap,cur.setIfInBounds (k*2+1) (Jq n),by rw[List.length_set],h3,?_,by rw[List.length_set];exact h4,h5,by simpa using h6,?_⟩
  ·exact heap_setCell_same _ _ _ _ _ _ hh
  ·rw[List.length_set,Array.toList_setIfInBounds,List.take_set,h7,qio l k x n hx]
theorem qn9(a b:Int)(w:World):Row (w.alloc (.cells #[Jq a,Jq b] 123)) (some (Pq w.heap.size 0)) (qat.cells [(a,b)]):=by
 intro _;refine⟨w.heap.size,0,rfl,by simp,fun j q hj=>?_⟩;simp only[Elem.cells,qat,List.flatMap_cons,List.flatMap_nil,List.append_nil] at hj
 match j,hj with
 | 0,hj=>simpa using hj
 | 1,hj=>simpa using hj
theorem qsW{w:World}{B:Nat}{v:Value}{l:List (Int×Int)}(h:qat.Own w B v l):qat.OB w B v l:=⟨h,fun _ _=>⟨trivial,fun r hr=>by simp[qat] at hr⟩⟩
theorem qis{w:World}{B:Nat}{v:Value}{l:List (Int×Int)}(h:qat.Own w B v l):∃A c,v=.slice A l.length c∧l.length≤c∧c≤maxLen∧(A=none∨∃g,A=some (Pq g 0)):=by
 obtain⟨_,h2⟩:=h;rcases h2 with ⟨h2,h3⟩|⟨g,cap,cur,hv,h3,hh,h4,h5,h6,h7⟩
 ·subst h2;have:l=[]:=List.eq_nil_of_length_eq_zero h3;subst this;exact⟨none,0,rfl,zR _,zO _,.inl rfl⟩
 ·exact⟨_,cap,hv,h4,h5,.inr ⟨g,rfl⟩⟩
theorem qno(B:Nat)(A:Option Addr)(c:Nat)(l:List (Int×Int))(x:Int×Int)(w:World)(ho:qat.Own w B (.slice A l.length c) l)(hB:B≤w.heap.size)(g c2:Nat)(hr:Row w (some (Pq g 0)) (qat.cells [x]))(hn:l.length≤1000000)(hc:l.length≤c∧c≤maxLen) :
  Calls Tryz.prog 186 #[.slice A l.length c,Jq (l.length:Int),.slice (some (Pq g 0)) 1 c2] w fun e w'=>∃v',e=.returned v'∧qat.Own w' B v' (l++[x])∧Grew w w' (.slice A l.length c)∧Stems w (.slice A l.length c) v':=by
 have HO:=hJ (qsW ho);have HR:=hJ hr;clear ho hr;obtain⟨hc1,hc2⟩:=hc;rcases A with _|ad
 ·go_enter Tryz.func186,Tryz.ntmps186;go_wp2_with (first
   | (at_builtin;refine qcr qat rfl (.tmp 23) (.tmp 24) rfl _ B _ l (by rfl) _ _ _ [x] (by rfl) rfl HR.out HO.out (fun q hq=>⟨trivial,fun r hr=>by simp[qat] at hr⟩) (by simp;omega) hB ?_;intro v1 w1 ho1 hg1 hs1))
  all_goals (go_ret;exact⟨v1,rfl,ho1.1,hg1,hs1⟩)
 ·go_enter Tryz.func186,Tryz.ntmps186;go_wp2_with (first
   | (at_builtin;refine qcr qat rfl (.tmp 23) (.tmp 24) rfl _ B _ l (by rfl) _ _ _ [x] (by rfl) rfl HR.out HO.out (fun q hq=>⟨trivial,fun r hr=>by simp[qat] at hr⟩) (by simp;omega) hB ?_;intro v1 w1 ho1 hg1 hs1))
  all_goals (go_ret;exact⟨v1,rfl,ho1.1,hg1,hs1⟩)
end Go.Proofs.YtponbabbabnaeaaGreat
