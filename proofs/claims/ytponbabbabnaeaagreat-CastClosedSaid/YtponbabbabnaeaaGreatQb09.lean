/- Part 9 of the proof: contracts of functions that the statement reaches. Conditions: as each theorem says. -/
import Derived.Lib.AppendStr
import Derived.Laws.BitsAllLaws
import Derived.Deep.RegionHeld3
import Derived.Test.YtponbabbabnaeaaGreatQb01
import Derived.Test.YtponbabbabnaeaaGreatQb03
import Derived.Test.YtponbabbabnaeaaGreatQb02
import Derived.Test.YtponbabbabnaeaaGreatQb05
import Derived.Test.YtponbabbabnaeaaGreatQb04
namespace Go.Proofs.YtponbabbabnaeaaGreat
def uN (n : Int) : Nat := (n % 18446744073709551616).toNat
def numsF (l : List Int) : List UInt8 := l.flatMap fun n => encU (uN n)
def strF (p : List UInt8) : List UInt8 := encU p.length ++ p
def entF (e : Ent) : List UInt8 := numsF [e.v, e.o, e.q] ++ strF e.p
def entsF (l : List Ent) : List UInt8 := numsF [l.length] ++ l.flatMap entF
def crc1 (s : Nat) : Nat := (s / 2) ^^^ (3988292384 * (s % 2))
def crc8 (s : Nat) (b : UInt8) : Nat := crc1 (crc1 (crc1 (crc1 (crc1 (crc1 (crc1 (crc1 (s ^^^ b.toNat))))))))
def crcF (bs : List UInt8) : Nat := 4294967295 ^^^ bs.foldl crc8 4294967295
def le4 (v : Nat) : List UInt8 := [UInt8.ofNat v, UInt8.ofNat (v / 256), UInt8.ofNat (v / 65536), UInt8.ofNat (v / 16777216)]
def preF (kind : Nat) (body : List UInt8) : List UInt8 := [65, 71, UInt8.ofNat kind] ++ encU body.length ++ body
def sealF (kind : Nat) (body : List UInt8) : List UInt8 := if body.length ≤ 16777216 then preF kind body ++ le4 (crcF (preF kind body)) else []
structure Cs where
 s : St
 pk : List (Int × List UInt8)
 dl : List Ent
 deriving DecidableEq
def zeroS : St := ⟨0, [], 0, [], 0, 0, [], [], []⟩
def pendAt (s : St) (seq : Int) : List UInt8 := (s.pend[((s.pend.length : Int) - 1 - (s.sent - seq)).toNat]?).getD []
def takeN (s : St) : Nat := min (s.sent - ownN s.log s.self).toNat (2000 - s.log.length)
def takeL (s : St) (j : Nat) : List Ent := s.log ++ (List.range j).map fun i => ⟨s.base, s.self, ownN s.log s.self + 1 + i, pendAt s (ownN s.log s.self + 1 + i)⟩
def takeF (s : St) : St := { s with log := takeL s (takeN s) }
def submitF (s : St) (p : List UInt8) : St × Int :=
 if validS s = false then (zeroS, 1)
 else if 6000 < p.length ∨ s.pend.length = 32 ∨ s.sent = 1099511627776 then (zeroS, 5)
 else
  let o : St := { s with sent := s.sent + 1, pend := s.pend ++ [p] }
  (if openB o && leadB o then takeF o else o, 0)
def newViewF (s : St) (v : Vw) : St × Int :=
 if validS s = false then (zeroS, 1)
 else if validVs (s.views ++ [v]) = false then (zeroS, 8)
 else ({ s with views := s.views ++ [v], marks := [], fls := [] }, 0)
def genesisF (v : Vw) (self : Int) : St × Int :=
 if validB v.1 v.2 && hasB v.2 self then (⟨self, [v], v.1, [viewEnt v.1 v.2], 0, 0, [], [], []⟩, 0) else (zeroS, 1)
def sendF (c : Cs) (tg : Int) (kind : Nat) (body : List UInt8) : Cs := { c with pk := c.pk ++ [(tg, sealF kind body)] }
def cutL (l : List Ent) (i j : Int) : List Ent := (l.take j.toNat).drop i.toNat
def raiseF (c : Cs) (n : Int) : Cs :=
 if n ≤ c.s.stable then c
 else { c with s := { c.s with pend := c.s.pend.drop (ownN (cutL c.s.log c.s.stable n) c.s.self), stable := n }, dl := c.dl ++ cutL c.s.log c.s.stable n }
def insI (x : Int) : List Int → List Int
 | [] => [x]
 | y :: l => if x ≤ y then x :: y :: l else y :: insI x l
def sortI : List Int → List Int
 | [] => []
 | x :: l => insI x (sortI l)
def lensF (s : St) : List Int := (s.log.length : Int) :: s.marks.map fun m => m.2
def announceF (c : Cs) : Cs :=
 if ((lensF c.s).length : Int) < majZ (lastV c.s.views).2.length then c
 else raiseF c (((sortI (lensF c.s))[(((lensF c.s).length : Int) - majZ (lastV c.s.views).2.length).toNat]?).getD 0)
def markF (l : List (Int × Int)) (m : Int) : Option Int := (l.find? fun x => x.1 == m).map fun x => x.2
def baseMax (l : List Fls) : Int := l.foldl (fun b f => max b f.2.1) (-1)
def mineB (s : St) : Bool := s.fls.any fun f => f.1 == s.self
def coverB (l : List Fls) (v : Vw) : Bool := decide (majZ v.2.length ≤ (l.countP fun f => hasB v.2 f.1 : Nat))
def chosenF (l : List Fls) (base : Int) : List Ent := l.foldl (fun out f => if f.2.1 = base ∧ out.length < f.2.2.length then f.2.2 else out) []
def begsB (log pre : List Ent) : Bool := decide (pre.length ≤ log.length) && decide (log.take pre.length = pre)
def blockedB (s : St) : Bool := s.views.any fun v => decide (baseMax s.fls ≤ v.1) && (decide (v.1 < (lastV s.views).1) && !coverB s.fls v)
def fitsB (s : St) (log : List Ent) : Bool := decide (log.length < 2000) && (begsB log (s.log.take s.stable.toNat) && decide ((ownN log s.self : Int) ≤ s.sent))
def installF (s : St) : St :=
 if mineB s = false ∨ baseMax s.fls = -1 then s
 else if blockedB s then s
 else if fitsB s (chosenF s.fls (baseMax s.fls)) = false then s
 else { s with base := (lastV s.views).1, log := chosenF s.fls (baseMax s.fls) ++ [viewEnt (lastV s.views).1 (lastV s.views).2], fls := [] }
def spotF (l : List Fls) (m : Int) : Nat := (l.takeWhile fun f => decide (f.1 < m)).length
def putF (l : List Fls) (f : Fls) : List Fls :=
 if ((l[spotF l f.1]?).map fun g => g.1) = some f.1 then l.set (spotF l f.1) f else l.take (spotF l f.1) ++ f :: l.drop (spotF l f.1)
def leadStep (c : Cs) (m : Int) : Cs :=
 if m = c.s.self then c
 else match markF c.s.marks m with
  | none => sendF c m 15 (numsF [c.s.base] ++ entsF c.s.log)
  | some st => sendF c m 12 (numsF [c.s.base, st, c.s.stable] ++ entsF (cutL c.s.log st (min (st + 16) c.s.log.length)))
def leadF (c : Cs) : Cs :=
 let c1 := announceF { c with s := takeF c.s }
 (lastV c1.s.views).2.foldl leadStep c1
def followN (s : St) : Nat := (s.sent - ownN s.log s.self).toNat
def followStep (c : Cs) (j : Nat) : Cs := sendF c (seqrF (lastV c.s.views)) 11 (numsF [c.s.base, ownN c.s.log c.s.self + 1 + j] ++ strF (pendAt c.s (ownN c.s.log c.s.self + 1 + j)))
def followF (c : Cs) : Cs :=
 (List.range (followN c.s)).foldl followStep (sendF c (seqrF (lastV c.s.views)) 13 (numsF [c.s.base, c.s.log.length]))
def tickC (c : Cs) : Cs :=
 if openB c.s then (if leadB c.s then leadF c else followF c)
 else if leadB c.s then { c with s := installF (if mineB c.s then c.s else { c.s with fls := putF c.s.fls (c.s.self, c.s.base, c.s.log) }) }
 else sendF c (seqrF (lastV c.s.views)) 14 (numsF [(lastV c.s.views).1] ++ encU (zig c.s.base) ++ entsF c.s.log)
def tickF (s : St) : Cs := if validS s = false then ⟨zeroS, [], []⟩ else tickC ⟨s, [], []⟩
structure Msg where
 kind : Int
 num : Int
 first : Int
 stable : Int
 pay : List UInt8
 ents : List Ent
 deriving DecidableEq
abbrev Rd := List UInt8 × Bool
def decS (bs : List UInt8) (m : Nat) : List UInt8 × Nat × Int :=
 if (decN bs m).2.2 ≠ 0 then ([], 0, (decN bs m).2.2)
 else if bs.length - (decN bs m).2.1 < (decN bs m).1 then ([], 0, 2)
 else ((bs.drop (decN bs m).2.1).take (decN bs m).1, (decN bs m).2.1 + (decN bs m).1, 0)
def takeR (r : Rd) (n : Nat) (e : Int) : Rd := if e ≠ 0 then (r.1, true) else (r.1.drop n, r.2)
def numR (r : Rd) : Int × Rd :=
 if 1099511627776 < (decU r.1).1 then (0, (takeR r (decU r.1).2.1 (decU r.1).2.2).1, true) else ((decU r.1).1, takeR r (decU r.1).2.1 (decU r.1).2.2)
def baseR (r : Rd) : Int × Rd :=
 if (decI r.1).1 < -1 ∨ 1099511627776 < (decI r.1).1 then ((decI r.1).1, (takeR r (decI r.1).2.1 (decI r.1).2.2).1, true) else ((decI r.1).1, takeR r (decI r.1).2.1 (decI r.1).2.2)
def payR (r : Rd) : List UInt8 × Rd := ((decS r.1 6000).1, takeR r (decS r.1 6000).2.1 (decS r.1 6000).2.2)
def entR (r : Rd) : Ent × Rd :=
 let a := numR r; let b := numR a.2; let c := numR b.2; let d := payR c.2
 (⟨a.1, b.1, c.1, d.1⟩, d.2)
def entsGo : Nat → Rd → List Ent → List Ent × Rd
 | 0, r, out => (out, r)
 | n + 1, r, out => if r.2 then (out, r) else entsGo n (entR r).2 (out ++ [(entR r).1])
def entsR (r : Rd) : List Ent × Rd :=
 entsGo (numR r).1.toNat (if 2000 < (numR r).1 then ((numR r).2.1, true) else (numR r).2) []
def openF (b : List UInt8) : Int × List UInt8 × Nat × Int :=
 if b.length < 3 then (0, [], 0, 2)
 else if b[0]? ≠ some 65 ∨ b[1]? ≠ some 71 ∨ b[2]? = some 0 then (0, [], 0, 3)
 else
  let d := decN (b.drop 3) 16777216
  if d.2.2 ≠ 0 then (0, [], 0, d.2.2)
  else if b.length - (3 + d.2.1) < d.1 + 4 then (0, [], 0, 2)
  else if le4 (crcF (b.take (3 + d.2.1 + d.1))) ≠ (b.drop (3 + d.2.1 + d.1)).take 4 then (0, [], 0, 4)
  else ((((b[2]?).getD 0).toNat : Int), (b.take (3 + d.2.1 + d.1)).drop (3 + d.2.1), 3 + d.2.1 + d.1 + 4, 0)
def bodyR (kind : Int) (r0 : Rd) : Option (Msg × Rd) :=
 let a := numR r0
 if kind = 11 then let b := numR a.2; let p := payR b.2; some (⟨kind, a.1, b.1, 0, p.1, []⟩, p.2)
 else if kind = 12 then let b := numR a.2; let s := numR b.2; let l := entsR s.2; some (⟨kind, a.1, b.1, s.1, [], l.1⟩, l.2)
 else if kind = 13 then let b := numR a.2; some (⟨kind, a.1, b.1, 0, [], []⟩, b.2)
 else if kind = 14 then let b := baseR a.2; let l := entsR b.2; some (⟨kind, a.1, b.1, 0, [], l.1⟩, l.2)
 else if kind = 15 then let l := entsR a.2; some (⟨kind, a.1, 0, 0, [], l.1⟩, l.2)
 else none
def readF (frame : List UInt8) : Option Msg :=
 let o := openF frame
 if o.2.2.2 ≠ 0 ∨ o.2.2.1 ≠ frame.length then none
 else match bodyR o.1 (o.2.1, false) with
  | none => none
  | some (m, r) => if r.2 = false ∧ r.1.length = 0 then some m else none
def submittedF (c : Cs) (fr : Int) (m : Msg) : Cs :=
 if m.first = ownN c.s.log fr + 1 ∧ c.s.log.length < 2000 then { c with s := { c.s with log := c.s.log ++ [⟨c.s.base, fr, m.first, m.pay⟩] } } else c
def bothN (c : Cs) (m : Msg) : Nat := min (c.s.log.length - m.first.toNat) m.ents.length
def appendedF (c : Cs) (m : Msg) : Cs :=
 if (c.s.log.length : Int) < m.first then c
 else if (c.s.log.drop m.first.toNat).take (bothN c m) ≠ m.ents.take (bothN c m) then c
 else if (m.ents.drop (bothN c m)).any (fun e => decide (e.v ≠ c.s.base) || decide (e.o = 0)) then c
 else if validLog (c.s.log ++ m.ents.drop (bothN c m)) = false ∨ c.s.sent < ownN (c.s.log ++ m.ents.drop (bothN c m)) c.s.self then c
 else raiseF { c with s := { c.s with log := c.s.log ++ m.ents.drop (bothN c m) } } (min m.stable (c.s.log ++ m.ents.drop (bothN c m)).length)
def spotM (l : List (Int × Int)) (m : Int) : Nat := (l.takeWhile fun x => decide (x.1 < m)).length
def ackM (l : List (Int × Int)) (fr n : Int) : List (Int × Int) :=
 match l[spotM l fr]? with
 | some (a, b) => if a = fr then l.set (spotM l fr) (a, max b n) else l.take (spotM l fr) ++ (fr, max 0 n) :: l.drop (spotM l fr)
 | none => l ++ [(fr, max 0 n)]
def ackedF (c : Cs) (fr n : Int) : Cs :=
 if (c.s.log.length : Int) < n then c else announceF { c with s := { c.s with marks := ackM c.s.marks fr n } }
def installedF (c : Cs) (m : Msg) : Cs :=
 if 0 < m.ents.length ∧ basedB m.ents m.num = true ∧ begsB m.ents (c.s.log.take c.s.stable.toNat) = true ∧ (ownN m.ents c.s.self : Int) ≤ c.s.sent then { c with s := { c.s with base := m.num, log := m.ents } } else c
def handleF (c : Cs) (fr : Int) (m : Msg) : Cs :=
 if m.kind = 11 ∧ openB c.s = true ∧ leadB c.s = true ∧ hasB (lastV c.s.views).2 fr = true then submittedF c fr m
 else if m.kind = 12 ∧ openB c.s = true ∧ leadB c.s = false ∧ fr = seqrF (lastV c.s.views) then appendedF c m
 else if m.kind = 13 ∧ openB c.s = true ∧ leadB c.s = true ∧ hasB (lastV c.s.views).2 fr = true then ackedF c fr m.first
 else if m.kind = 14 ∧ openB c.s = false ∧ leadB c.s = true then
  (if possB c.s.views (fr, m.first, m.ents) then { c with s := installF { c.s with fls := putF c.s.fls (fr, m.first, m.ents) } } else c)
 else if m.kind = 15 ∧ openB c.s = false ∧ leadB c.s = false ∧ fr = seqrF (lastV c.s.views) ∧ hasB (lastV c.s.views).2 c.s.self = true then installedF c m
 else c
def receiveF (s : St) (fr : Int) (frame : List UInt8) : Cs × Int :=
 if validS s = false ∨ isId fr = false ∨ fr = s.self then (⟨zeroS, [], []⟩, 1)
 else match readF frame with
  | none => (⟨zeroS, [], []⟩, 3)
  | some m => (if m.num = (lastV s.views).1 then handleF ⟨s, [], []⟩ fr m else ⟨s, [], []⟩, 0)
end Go.Proofs.YtponbabbabnaeaaGreat
namespace Go.Proofs.YtponbabbabnaeaaGreat
open Go.RowKit
theorem strCells_strB (p : List UInt8) : Go.Lib.strCells (strB p) = bytesV p := by
 rw [strB_data]; simp [Go.Lib.strCells, bytesV]
set_option maxRecDepth 100000 in
theorem putString_any (B : Nat) (v : Value) (xs p : List UInt8) (w : World) (ho : Own w B 5 v (bytesV xs)) (hB : B ≤ w.heap.size) (hl : xs.length ≤ 100000000) (hp : p.length ≤ 100000000) :
  Calls Tryz.prog 172 #[v, .string (strB p)] w fun e w' => ∃ v', e = .returned v' ∧ Own w' B 5 v' (bytesV (xs ++ strF p)) ∧ Grew w w' v := by
 have HO := hJ ho; clear ho
 have hn : Hid (p.length < U64) := hJ (by unfold U64; omega)
 have HL := hJ (encU_len10 hn.out)
 have hsz := strB_size p
 have hw : IntKind.u64.wrap (p.length : Int) = (p.length : Int) := u64_nat hn.out
 go_enter Tryz.func172, Tryz.ntmps172
 go_wp2_with fail
 refine (putUint_any B v xs p.length w HO.out hB (by omega) hn).mono ?_
 rintro e w1 ⟨v1, rfl, ho1, hg1, hs1⟩
 have HO1 := hJ ho1; clear ho1
 have hl1 : (xs ++ encU p.length).length ≤ 100000100 := by have := HL.out; simp; omega
 obtain ⟨i0, hi, hz0, hz1, hz2⟩ := info_parts info_u8
 go_wp2_with (first
  | (at_builtin; refine Go.Lib.wpList_append_own_string w1 rfl (.tmp 9) (.tmp 10) 29 9 rfl B 5 i0 Tryz.underlying29 Tryz.underlying9 hi hz0 hz1 hz2 v1 (xs ++ encU p.length).length (bytesV (xs ++ encU p.length)) (by rfl) (by have := HO1.out; unfold Own at this; rw [bytesV_len] at this; exact this) (strB p) (by rfl) (by rw [strB_size]; unfold maxLen; omega) (by rw [strB_size]; omega) (Nat.le_trans hB hg1.size) ?_; intro v2 w2 ho2 hg2 _))
 go_ret
 refine ⟨v2, rfl, ?_, hg1.trans hs1 hg2⟩
 have hb : bytesV (xs ++ strF p) = bytesV (xs ++ encU p.length) ++ Go.Lib.strCells (strB p) := by rw [strCells_strB, ← bytesV_app]; unfold strF; rw [List.append_assoc]
 unfold Own
 rw [hb, List.length_append, bytesV_len, Go.Lib.strCells_length]
 exact ho2
set_option maxRecDepth 100000 in
theorem appendString_any (A : Option Addr) (c : Nat) (bs p : List UInt8) (w : World) (h : Row w A (bytesV bs)) (hl : bs.length ≤ 100000000) (hp : p.length ≤ 100000000) :
  Calls Tryz.prog 120 #[.slice A bs.length c, .string (strB p)] w (GivesB w (bs ++ strF p)) := by
 have H := hJ h; clear h
 have hsz := strB_size p
 have hw : IntKind.i64.wrap ((p.length : Int) + 10) = ((p.length + 10 : Nat) : Int) := by rw [IntWalk.i64_in _ (by omega)]; simp
 go_enter Tryz.func120, Tryz.ntmps120
 go_wp2_with fail
 refine (extend_any A c bs (p.length + 10) w H.out (by omega) (by omega)).mono ?_
 rintro e w1 ⟨A1, c1, rfl, hc1, hm1, ho1, hx1⟩
 go_wp2_with fail
 refine (putString_any w.heap.size _ bs p w1 ho1 hx1.size hl hp).mono ?_
 rintro e w2 ⟨v2, rfl, ho2, hg2⟩
 go_wp2; go_ret
 exact gives_b ho2 (hg2.below hx1 hx1.size (fun k hk => (ho1.lt k hk).1))
def crcN : Nat → Nat → Nat
 | 0, s => s
 | k + 1, s => crcN k (crc1 s)
theorem crcN_succ (k : Nat) : ∀ s, crcN (k + 1) s = crc1 (crcN k s) := by
 induction k with
 | zero => intro s; rfl
 | succ k ih => intro s; rw [crcN, ih (crc1 s), crcN]
theorem crc8_eq (s : Nat) (b : UInt8) : crc8 s b = crcN 8 (s ^^^ b.toNat) := rfl
theorem crc1_lt {s : Nat} (h : s < 4294967296) : crc1 s < 4294967296 := by
 unfold crc1
 refine Nat.xor_lt_two_pow (n := 32) (by omega) ?_
 have : s % 2 < 2 := Nat.mod_lt _ (by decide)
 omega
theorem crcN_lt (k : Nat) : ∀ s, s < 4294967296 → crcN k s < 4294967296 := by
 induction k with
 | zero => intro s h; exact h
 | succ k ih => intro s h; exact ih _ (crc1_lt h)
theorem byte_xor_lt {s : Nat} (b : UInt8) (h : s < 4294967296) : s ^^^ b.toNat < 4294967296 := Nat.xor_lt_two_pow (n := 32) h (by have := b.toNat_lt; omega)
theorem crcFold_lt (bs : List UInt8) : ∀ s, s < 4294967296 → bs.foldl crc8 s < 4294967296 := by
 induction bs with
 | nil => intro s h; exact h
 | cons b l ih => intro s h; exact ih _ (by rw [crc8_eq]; exact crcN_lt _ _ (byte_xor_lt b h))
theorem crc_step {s : Nat} (h : s < 4294967296) : bits .xor .u32 ((s : Int) / 2) (3988292384 * bits .and .u32 (s : Int) 1 % 4294967296) = ((crc1 s : Nat) : Int) := by
 have h1 : bits .and .u32 (s : Int) 1 = ((s % 2 : Nat) : Int) := by
  have := u32_and_nat s 1 h (by decide)
  rw [Nat.and_one_is_mod] at this
  exact this
 rw [h1]
 have h2 : (3988292384 * ((s % 2 : Nat) : Int)) % 4294967296 = ((3988292384 * (s % 2) : Nat) : Int) := by
  have : s % 2 < 2 := Nat.mod_lt _ (by decide)
  omega
 rw [h2]
 have h3 : ((s : Int) / 2) = ((s / 2 : Nat) : Int) := by omega
 rw [h3, u32_xor_nat _ _ (by omega) (by have : s % 2 < 2 := Nat.mod_lt _ (by decide); omega)]
 rfl
theorem crc_byte {s : Nat} (b : UInt8) (h : s < 4294967296) : bits .xor .u32 (s : Int) ((b.toNat : Int) % 4294967296) = ((s ^^^ b.toNat : Nat) : Int) := by
 have hb := b.toNat_lt
 rw [show ((b.toNat : Int) % 4294967296) = (b.toNat : Int) by omega]
 exact u32_xor_nat _ _ h (by omega)
set_option maxRecDepth 100000 in
theorem checksum_any (A : Option Addr) (c : Nat) (bs : List UInt8) (w : World) (h : Row w A (bytesV bs)) (hl : bs.length ≤ 1000000000) :
  Calls Tryz.prog 175 #[.slice A bs.length c] w fun e w' => e = .returned (.int .u32 (crcF bs : Int)) ∧ w = w' := by
 have H := hJ h; clear h
 go_enter Tryz.func175, Tryz.ntmps175
 go_wp2; go_loopw [3, 8] (fun s i wr => ∃ (k n : Nat), k ≤ bs.length ∧ i = .int .i64 (k : Int) ∧ s = .int .u32 (n : Int) ∧ Hid (n = (bs.take k).foldl crc8 4294967295) ∧ w = wr) (fun _ i _ => bs.length - (intOf i).toNat)
 case atStart => exact ⟨0, 4294967295, Nat.zero_le _, rfl, rfl, hJ rfl, rfl⟩
 case round =>
  obtain ⟨k, n, hk, rfl, rfl, HN, rfl⟩ := hrel
  have hn : Hid (n < 4294967296) := hJ (by rw [HN.out]; exact crcFold_lt _ _ (by decide))
  by_cases hlt : k < bs.length
  ·obtain ⟨b, off, x, rfl, c0, HX⟩ := H.out.byte hlt
   have hcb := crc_byte x hn.out
   have hfin : ∀ m j : Nat, m = crcN j (n ^^^ x.toNat) → j ≤ 8 → ¬ j < 8 → m = (bs.take (k + 1)).foldl crc8 4294967295 := by
    intro m j h1 h2 h3
    have h8 : j = 8 := by omega
    subst h8
    rw [h1, ← crc8_eq, HN.out, List.take_add_one, HX.out]; simp
   go_wp2; go_loopw [3, 16] (fun s i wr => ∃ (j m : Nat), j ≤ 8 ∧ i = .int .i64 (j : Int) ∧ s = .int .u32 (m : Int) ∧ Hid (m = crcN j (n ^^^ x.toNat)) ∧ w = wr) (fun _ i _ => 8 - (intOf i).toNat)
   case atStart => exact ⟨0, n ^^^ x.toNat, Nat.zero_le _, rfl, rfl, hJ rfl, by first | trivial | rfl⟩
   case round =>
    obtain ⟨j, m, hj, rfl, rfl, HM, rfl⟩ := hrel
    have hm : Hid (m < 4294967296) := hJ (by rw [HM.out]; exact crcN_lt _ _ (byte_xor_lt x hn.out))
    by_cases hj8 : j < 8
    ·have hcs := crc_step hm.out
     go_wp2; go_roundw
     case rel => exact ⟨j + 1, crc1 m, by omega, by go_num, rfl, hJ (by rw [crcN_succ, HM.out]), by first | trivial | rfl⟩
     case measure => simp [intOf]; omega
    ·go_wp2
     go_roundw
     case rel => exact ⟨k + 1, m, by omega, by go_num, rfl, hJ (hfin m j HM.out hj hj8), by first | trivial | rfl⟩
     case measure => simp [intOf]; omega
  ·have hkl : k = bs.length := by omega
   subst hkl
   go_wp2; go_ret
   refine ⟨?_, rfl⟩
   have hx := u32_xor_nat 4294967295 n (by decide) hn.out
   have hc : crcF bs = 4294967295 ^^^ n := by unfold crcF; rw [HN.out, List.take_length]
   rw [hc, ← hx]
   rfl
theorem le4_row (v : Nat) (w : World) : Row (w.alloc (.cells #[.int .u8 ((v : Int) % 256), .int .u8 ((v : Int) / 256 % 256), .int .u8 ((v : Int) / 65536 % 256), .int .u8 ((v : Int) / 16777216 % 256)] 5)) (some ⟨w.heap.size, 0, none⟩) (bytesV (le4 v)) := by
 intro _
 refine ⟨w.heap.size, 0, rfl, by simp, fun j q hj => ?_⟩
 simp only [bytesV, le4, List.map_cons, List.map_nil, UInt8.toNat_ofNat'] at hj
 rw [show ((v % 2 ^ 8 : Nat) : Int) = (v : Int) % 256 by omega, show ((v / 256 % 2 ^ 8 : Nat) : Int) = (v : Int) / 256 % 256 by omega, show ((v / 65536 % 2 ^ 8 : Nat) : Int) = (v : Int) / 65536 % 256 by omega, show ((v / 16777216 % 2 ^ 8 : Nat) : Int) = (v : Int) / 16777216 % 256 by omega] at hj
 match j, hj with
 | 0, hj => simpa using hj
 | 1, hj => simpa using hj
 | 2, hj => simpa using hj
 | 3, hj => simpa using hj
set_option maxRecDepth 100000 in
theorem word_any (B : Nat) (v : Value) (xs : List UInt8) (n : Nat) (w : World) (ho : Own w B 5 v (bytesV xs)) (hB : B ≤ w.heap.size) (hl : xs.length ≤ 1000000000) :
  Calls Tryz.prog 174 #[v, .int .u32 (n : Int)] w fun e w' => ∃ v', e = .returned v' ∧ Own w' B 5 v' (bytesV (xs ++ le4 n)) ∧ Grew w w' v := by
 have HO := hJ ho; clear ho
 go_enter Tryz.func174, Tryz.ntmps174
 go_wp2_with (first
  | (at_builtin; refine push_row rfl (.tmp 5) (.tmp 17) _ 5 _ 1 rfl Tryz.underlying29 info_u8 rfl (by decide) _ B v (bytesV xs) (by rfl) _ _ _ (bytesV (le4 n)) (by rfl) (by rfl) (le4_row n w) (bytesV_one _) (HO.out.ext (Ext.new _ _)) (by rw [bytesV_len]; omega) (by simp; omega) ?_; intro v1 w1 ho1 hg1 hs1))
 go_ret
 refine ⟨v1, rfl, ?_, ?_⟩
 ·rw [bytesV_app]; exact ho1
 ·exact ⟨hg1.os, hg1.tape, hg1.output, Nat.le_trans (by simp) hg1.size, fun k hk hne => (hg1.block k (by simp; omega) hne).trans (Below.heap_alloc _ _ _ hk)⟩
theorem pre_row (k : Nat) (hk : k ≤ 255) (w : World) : Row (w.alloc (.cells #[.int .u8 65, .int .u8 71, .int .u8 (k : Int)] 5)) (some ⟨w.heap.size, 0, none⟩) (bytesV [65, 71, UInt8.ofNat k]) := by
 intro _
 refine ⟨w.heap.size, 0, rfl, by simp, fun j q hj => ?_⟩
 simp only [bytesV, List.map_cons, List.map_nil, UInt8.toNat_ofNat'] at hj
 rw [show ((k % 2 ^ 8 : Nat) : Int) = (k : Int) by omega] at hj
 match j, hj with
 | 0, hj => simpa using hj
 | 1, hj => simpa using hj
 | 2, hj => simpa using hj
def GivesF (w : World) (bs : List UInt8) (err : Int) (en : Ending) (w' : World) : Prop :=
 ∃ A c, en = .returned (.tuple #[.slice A bs.length c, .int .i64 err]) ∧ bs.length ≤ c ∧ c ≤ maxLen ∧ Own w' w.heap.size 5 (.slice A bs.length c) (bytesV bs) ∧ Ext w w'
set_option maxRecDepth 100000 in
theorem seal_any (k : Nat) (A : Option Addr) (c : Nat) (body : List UInt8) (w : World) (h : Row w A (bytesV body)) (hl : body.length ≤ 100000000) (hk : 1 ≤ k ∧ k ≤ 255) :
  Calls Tryz.prog 124 #[.int .i64 (k : Int), .slice A body.length c] w fun e w' => ∃ err, GivesF w (sealF k body) err e w' := by
 have H := hJ h; clear h
 by_cases hb : body.length ≤ 16777216
 ·have HF : Hid (sealF k body = preF k body ++ le4 (crcF (preF k body))) := hJ (by unfold sealF; rw [if_pos hb])
  have hn : Hid (body.length < U64) := hJ (by unfold U64; omega)
  have HL := hJ (encU_len10 hn.out)
  have hw : IntKind.u64.wrap (body.length : Int) = (body.length : Int) := u64_nat hn.out
  have hw8 : IntKind.i64.wrap ((body.length : Int) + 8) = ((body.length + 8 : Nat) : Int) := by rw [IntWalk.i64_in _ (by omega)]; simp
  have E0 : Hid (Ext w (w.alloc (.cells #[.int .u8 65, .int .u8 71, .int .u8 (k : Int)] 5))) := hJ (Ext.new _ _)
  go_enter Tryz.func124, Tryz.ntmps124
  go_wp2_with fail
  refine (extend_any (some ⟨w.heap.size, 0, none⟩) 3 [65, 71, UInt8.ofNat k] (body.length + 8) _ (pre_row k hk.2 w) (by simp) (by omega)).mono ?_
  rintro e w1 ⟨A1, c1, rfl, hc1, hm1, ho1, hx1⟩
  have X1 := hJ (E0.out.trans hx1)
  have HO1 := hJ (ho1.base (B' := w.heap.size) (by simp))
  clear ho1 hx1; go_wp2_with fail
  refine (putUint_any w.heap.size _ _ body.length w1 HO1.out X1.out.size (by simp) hn).mono ?_
  rintro e w2 ⟨v2, rfl, ho2, hg2, hs2⟩
  have X2 := hJ (hg2.below X1.out X1.out.size (fun k hk => (HO1.out.lt k hk).1))
  have HO2 := hJ ho2
  clear ho2 hg2 hs2; go_wp2_with (first
   | (at_builtin; refine push_row rfl (.tmp 29) (.tmp 30) _ 5 _ 1 rfl Tryz.underlying29 info_u8 rfl (by decide) _ w.heap.size v2 _ (by rfl) A body.length c (bytesV body) (by rfl) (by rw [bytesV_len]) (H.out.ext X2.out) (bytesV_one _) HO2.out (by have := HL.out; rw [bytesV_len]; simp; omega) X2.out.size ?_; intro v3 w3 ho3 hg3 hs3))
  have X3 := hJ (hg3.below X2.out X2.out.size (fun k hk => (HO2.out.lt k hk).1))
  have HO3 : Hid (Own w3 w.heap.size 5 v3 (bytesV (preF k body))) := hJ (by rw [← bytesV_app] at ho3; exact ho3)
  have hpl : (preF k body).length ≤ 100000100 := by have := HL.out; unfold preF; simp; omega
  clear ho3 hg3 hs3; obtain ⟨A3, c3, rfl, h31, h32, HR3⟩ : ∃ A c', v3 = .slice A (preF k body).length c' ∧ (preF k body).length ≤ c' ∧ c' ≤ maxLen ∧ Hid (Row w3 A (bytesV (preF k body))) := by
   obtain ⟨A, c', h1, h2, h3, h4⟩ := HO3.out.slice
   rw [bytesV_len] at h1 h2
   exact ⟨A, c', h1, h2, h3, hJ h4⟩
  go_wp2_with fail
  refine (checksum_any A3 c3 (preF k body) w3 HR3.out (by omega)).mono ?_
  rintro e w4 ⟨rfl, rfl⟩
  go_wp2_with fail
  refine (word_any w.heap.size _ (preF k body) (crcF (preF k body)) w3 HO3.out X3.out.size (by omega)).mono ?_
  rintro e w5 ⟨v5, rfl, ho5, hg5⟩
  have X5 := hJ (hg5.below X3.out X3.out.size (fun k hk => (HO3.out.lt k hk).1))
  go_wp2; go_ret2
  obtain ⟨A5, c5, h1, h2, h3, h4⟩ := ho5.slice
  rw [bytesV_len] at h1 h2
  subst h1
  rw [HF.out]
  exact ⟨0, A5, c5, rfl, h2, h3, ho5, X5.out⟩
 ·have HF : Hid (sealF k body = []) := hJ (by unfold sealF; rw [if_neg hb])
  go_enter Tryz.func124, Tryz.ntmps124
  go_wp2; go_ret2
  rw [HF.out]
  exact ⟨1, none, 0, rfl, Nat.le_refl _, Nat.zero_le _, Own.nil _ _ _, Ext.refl _⟩
end Go.Proofs.YtponbabbabnaeaaGreat
namespace Go.Proofs.YtponbabbabnaeaaGreat
open Go.RowKit
def bytE : Elem UInt8 where
 f b := [.int .u8 (b.toNat : Int)]
 k := 1
 ty := 5
 st := 29
 z := .int .u8 0
 bytes := 1
 inn _ := []
 ok _ := True
 len _ := rfl
 one a := by intro u hu; simp only [List.mem_cons, List.not_mem_nil, or_false] at hu; rcases hu with rfl; rfl
 pos := by decide
 und := Tryz.underlying29
 info := by kernel_rfl
 zk := rfl
 small := by decide
theorem bytE_cells (xs : List UInt8) : bytE.cells xs = bytesV xs := by
 induction xs with
 | nil => rfl
 | cons x l ih => rw [bytE.cells_cons, ih]; rfl
def subA (A : Option Addr) (l c k : Nat) : Option Addr := if c = l then A else A.map (·.add (l * k))
theorem subA_zero (A : Option Addr) (c k : Nat) : subA A 0 c k = A := by
 unfold subA
 split
 ·rfl
 ·cases A with
  | none => rfl
  | some a => simp [Addr.add]
section
variable {α : Type} (E : Elem α)
theorem Elem.size_run (W : World) : (sizeOf (Tryz.prog.elem E.st)).run Tryz.prog W = .ok E.k W := by
 obtain ⟨i, hi, _, hz, _⟩ := E.info_parts
 have : Tryz.prog.elem E.st = E.ty := by unfold Program.elem; rw [E.und]
 rw [this]
 simp [sizeOf, typeInfo, hi, hz]
theorem Elem.und' : Tryz.prog.underlying E.st = some (.slice (Tryz.prog.elem E.st)) := by
 have : Tryz.prog.elem E.st = E.ty := by unfold Program.elem; rw [E.und]
 rw [this]; exact E.und
theorem Elem.slice_lh (A : Option Addr) (n c lo hi : Nat) (li hI : Int) (e1 : li = lo) (e2 : hI = hi) (h1 : lo ≤ hi) (h2 : hi ≤ c) (W : World) :
  (Instr.slice E.st (.slice A n c) (some (.int .i64 li)) (some (.int .i64 hI)) none).run Tryz.prog W = .ok (.slice (subA A lo c E.k) (hi - lo) (c - lo)) W := by
 subst e1 e2
 rw [run_slice_lh W _ A n c E.und' _ _ _ _ (by omega) (by omega) (by omega), E.size_run]
 simp [sliced, subA, Result.andThen]
theorem Elem.slice_l (A : Option Addr) (n c lo : Nat) (li : Int) (e1 : li = lo) (h1 : lo ≤ n) (W : World) :
  (Instr.slice E.st (.slice A n c) (some (.int .i64 li)) none none).run Tryz.prog W = .ok (.slice (subA A lo c E.k) (n - lo) (c - lo)) W := by
 subst e1
 rw [run_slice_l W _ A n c E.und' _ _ (by omega) (by omega), E.size_run]
 simp [sliced, subA, Result.andThen]
theorem Elem.slice_h (A : Option Addr) (n c hi : Nat) (hI : Int) (e2 : hI = hi) (h2 : hi ≤ c) (W : World) :
  (Instr.slice E.st (.slice A n c) none (some (.int .i64 hI)) none).run Tryz.prog W = .ok (.slice A hi c) W := by
 subst e2
 rw [run_slice_h W _ A n c E.und' _ _ (by omega) (by omega), E.size_run]
 have := subA_zero A c E.k
 unfold subA at this
 simp only [sliced, Result.andThen, this, Int.toNat_natCast, Nat.sub_zero]
theorem Elem.slice_lhm (A : Option Addr) (n c lo hi mx : Nat) (li hI mI : Int) (e1 : li = lo) (e2 : hI = hi) (e3 : mI = mx) (h1 : lo ≤ hi) (h2 : hi ≤ mx) (h3 : mx ≤ c) (W : World) :
  (Instr.slice E.st (.slice A n c) (some (.int .i64 li)) (some (.int .i64 hI)) (some (.int .i64 mI))).run Tryz.prog W = .ok (.slice (subA A lo mx E.k) (hi - lo) (mx - lo)) W := by
 subst e1 e2 e3
 rw [run_slice_lhm W _ A n c E.und' _ _ _ _ _ _ (by omega) (by omega) (by omega) (by omega), E.size_run]
 simp [sliced, subA, Result.andThen]
theorem Elem.cells_drop (l : List α) (n : Nat) : E.cells (l.drop n) = (E.cells l).drop (n * E.k) := by
 induction l generalizing n with
 | nil => simp [Elem.cells]
 | cons a l ih =>
  match n with
  | 0 => simp
  | n + 1 =>
   rw [List.drop_succ_cons, ih, E.cells_cons, Nat.succ_mul, Nat.add_comm (n * E.k) E.k, ← List.drop_drop, List.drop_left' (E.len a)]
theorem Elem.cells_take (l : List α) (n : Nat) : E.cells (l.take n) = (E.cells l).take (n * E.k) := by
 induction l generalizing n with
 | nil => simp [Elem.cells]
 | cons a l ih =>
  match n with
  | 0 => simp [Elem.cells]
  | n + 1 =>
   rw [List.take_succ_cons, E.cells_cons, E.cells_cons, ih, Nat.succ_mul, Nat.add_comm (n * E.k) E.k, List.take_append, E.len]
   congr 1
   ·rw [List.take_of_length_le (by rw [E.len]; omega)]
   ·congr 1; omega
end
theorem Row.take {w : World} {A : Option Addr} {xs : List Value} (h : Row w A xs) (n : Nat) : Row w A (xs.take n) := by
 intro hne
 have hx : xs ≠ [] := by intro e; subst e; simp at hne
 obtain ⟨b, off, h1, h2, h3⟩ := h hx
 refine ⟨b, off, h1, h2, fun j v hj => h3 j v ?_⟩
 rw [List.getElem?_take] at hj
 split at hj
 ·exact hj
 ·cases hj
theorem Row.sub {w : World} {A : Option Addr} {xs : List Value} {l k c : Nat} (h : Row w A xs) (hc : xs.length ≤ c * k) : Row w (subA A l c k) (xs.drop (l * k)) := by
 intro hne
 have hk : l * k < xs.length := by
  rcases Nat.lt_or_ge (l * k) xs.length with h1 | h1
  ·exact h1
  ·exact absurd (List.drop_eq_nil_of_le h1) hne
 obtain ⟨b, off, rfl, hb, h3⟩ := h.addr hk
 unfold subA
 rw [if_neg (by intro e; subst e; omega)]
 refine ⟨b, off + l * k, ?_, hb, fun j v hj => ?_⟩
 ·simp only [Option.map_some, Option.some.injEq]
  unfold Addr.add
  split <;> simp_all
 ·have := h3 (l * k + j) v (by rw [← hj, List.getElem?_drop])
  rw [Nat.add_assoc]; exact this
theorem Elem.row_sub {α : Type} {E : Elem α} {w : World} {A : Option Addr} {l : List α} {c : Nat} (h : Row w A (E.cells l)) (hc : l.length ≤ c) (lo hi : Nat) : Row w (subA A lo c E.k) (E.cells ((l.take hi).drop lo)) := by
 rw [E.cells_drop]
 refine Row.sub (c := c) ?_ ?_
 ·rw [E.cells_take]; exact h.take _
 ·rw [E.cells_len]
  exact Nat.mul_le_mul_right _ (by rw [List.length_take]; omega)
theorem Elem.row_from {α : Type} {E : Elem α} {w : World} {A : Option Addr} {l : List α} {c : Nat} (h : Row w A (E.cells l)) (hc : l.length ≤ c) (lo : Nat) : Row w (subA A lo c E.k) (E.cells (l.drop lo)) := by
 have := Elem.row_sub h hc lo l.length
 rwa [List.take_length] at this
theorem Elem.row_upto {α : Type} {E : Elem α} {w : World} {A : Option Addr} {l : List α} (h : Row w A (E.cells l)) (hi : Nat) : Row w A (E.cells (l.take hi)) := by
 rw [E.cells_take]; exact h.take _
theorem row_bytes {w : World} {A : Option Addr} {bs : List UInt8} (h : Row w A (bytesV bs)) : Row w A (bytE.cells bs) := by rw [bytE_cells]; exact h
theorem row_bytesV {w : World} {A : Option Addr} {bs : List UInt8} (h : Row w A (bytE.cells bs)) : Row w A (bytesV bs) := by rw [← bytE_cells]; exact h
end Go.Proofs.YtponbabbabnaeaaGreat
namespace Go.Proofs.YtponbabbabnaeaaGreat
section
variable {P : Program} {ops : Array Oper} {Q : Exit → Act → World → Prop} {md : Region.Mode} {S : World → Prop} {n : Nat}
def wpE (P : Program) (md : Region.Mode) (ops : Array Oper) (Q : Exit → Act → World → Prop) (S : World → Prop) (n : Nat) : Nat → Array Bool → Act → World → Prop
 | 0, listed, a, w => Region.ready md ops listed = [] ∧ Q .normal a w
 | fuel + 1, listed, a, w =>
  (Region.ready md ops listed = [] → Q .normal a w) ∧
  ∀ i ∈ Region.ready md ops listed, wpOp P ops Q i (fun a' w' => (i < n → S w') ∧ wpE P md ops Q S n fuel (listed.setIfInBounds i true) a' w') a w
theorem any_of_E : ∀ (fuel : Nat) (listed : Array Bool) (a : Act) (w : World), wpE P md ops Q S n fuel listed a w → wpAny P md ops Q fuel listed a w
 | 0, _, _, _, h => h
 | fuel + 1, _, _, _, h => ⟨h.1, fun i hi => wpOp_mono (fun a' w' h' => any_of_E fuel _ a' w' h'.2) (h.2 i hi)⟩
def domB (md : Region.Mode) (ops : Array Oper) (n : Nat) : Bool :=
 (List.range ops.size).all fun t => decide (t ≤ n) || (List.range t).any fun j => decide (n ≤ j) && Region.waitsFor md ops t j
theorem dom_waits {n : Nat} {listed : Array Bool} (hs : Region.sinkB md ops n = true) (hc : domB md ops n = true) (inv : HeadInv md ops n listed) :
  ∀ (d i : Nat), n - i = d → i < n → listed.getD i true = false → ∀ t, n ≤ t → t ∉ Region.ready md ops listed := by
 intro d
 induction d using Nat.strongRecOn with
 | _ d ih =>
  intro i hd hi hun t ht hr
  obtain ⟨_, ot, hot, hall⟩ := mem_ready.1 hr
  have htlt : t < ops.size := (Array.getElem?_eq_some_iff.1 hot).1
  by_cases htn : t = n
  ·subst htn
   have h1 := List.all_eq_true.1 hs i (List.mem_range.2 hi)
   obtain ⟨j, hj, hj2⟩ := List.any_eq_true.1 h1
   simp only [Bool.and_eq_true, decide_eq_true_eq] at hj2
   obtain ⟨oj, hoj, e, he, hb, hon⟩ := Region.waitsFor_spec hj2.2
   have hjle : j ≤ t := by have := List.mem_range.1 hj; omega
   by_cases hjt : j = t
   ·subst hjt
    have : oj = ot := Option.some.inj (hoj.symm.trans hot)
    subst this
    have h2 := hall e he hb
    rw [hon, getD_both hun] at h2
    cases h2
   ·cases hl : listed.getD j false with
    | true =>
     have h2 := inv.closed j oj hoj hl e he hb
     rw [hon, getD_both hun] at h2
     cases h2
    | false =>
     have hjs : j < listed.size := by rw [inv.size]; omega
     exact ih (t - j) (by omega) j rfl (by omega) (getD_in hjs hl) t (Nat.le_refl _) hr
  ·have h1 := List.all_eq_true.1 hc t (List.mem_range.2 htlt)
   simp only [Bool.or_eq_true, decide_eq_true_eq] at h1
   rcases h1 with h1 | h1
   ·omega
   ·obtain ⟨t', ht', h3⟩ := List.any_eq_true.1 h1
    simp only [Bool.and_eq_true, decide_eq_true_eq] at h3
    obtain ⟨o', ho', e, he, hb, hon⟩ := Region.waitsFor_spec h3.2
    have : o' = ot := Option.some.inj (ho'.symm.trans hot)
    subst this
    have h2 := hall e he hb
    rw [hon, getD_both (inv.tail t' h3.1 (by have := List.mem_range.1 ht'; omega))] at h2
    cases h2
theorem E_first {i : Nat} {oi : Oper} {v : Value} (hi : ops[i]? = some oi) (hsel : ∀ (j : Nat) (o : Oper) cs b, ops[j]? = some o → o.op ≠ .select cs b)
  (hs : n = ops.size ∨ (Region.sinkB md ops n = true ∧ domB md ops n = true ∧ n < ops.size)) (hin : i < n)
  (hQ : ∀ c a w, Q (.panic c) (a.put oi.dst v) w → Q (.panic c) a w) :
  ∀ (fuel : Nat) (listed : Array Bool) (a : Act) (w : World), HeadInv md ops n listed →
   (∀ j oj, ops[j]? = some oj → j ≠ i → listed.getD j true = false → (∀ e ∈ oj.after, Region.binds md e = true → e.on ≠ i) → oi.apart ops oj = true) →
   i ∈ Region.ready md ops listed → YieldsIf P ops S oi v a → S w →
   wpE P md ops Q S n fuel (listed.setIfInBounds i true) (a.put oi.dst v) w → wpE P md ops Q S n (fuel + 1) listed a w := by
 intro fuel
 induction fuel with
 | zero =>
  intro listed a w _ _ hr hy hS H
  refine ⟨fun h => (by rw [h] at hr; cases hr), fun j hj => ?_⟩
  by_cases hji : j = i
  ·subst hji; exact hy.wpOp hi hS ⟨fun _ => hS, H⟩
  ·have := ready_mono hj hji
   rw [H.1] at this
   cases this
 | succ fuel ih =>
  intro listed a w inv hfree hr hy hS H
  have hun := (mem_ready.1 hr).1
  refine ⟨fun h => (by rw [h] at hr; cases hr), fun j hj => ?_⟩
  by_cases hji : j = i
  ·subst hji; exact hy.wpOp hi hS ⟨fun _ => hS, H⟩
  ·have hjn : j < n := by
    rcases Nat.lt_or_ge j n with h | h
    ·exact h
    ·rcases hs with hs | ⟨hs, hc, hn⟩
     ·obtain ⟨_, oj, hoj, _⟩ := mem_ready.1 hj
      have := (Array.getElem?_eq_some_iff.1 hoj).1
      omega
     ·exact absurd hj (dom_waits hs hc inv _ i rfl hin hun j h)
   have h1 := H.2 j (ready_mono hj hji)
   obtain ⟨hjun, oj, hoj, hall⟩ := mem_ready.1 hj
   have hnot : ∀ e ∈ oj.after, Region.binds md e = true → e.on ≠ i := fun e he hb heq => by
    have h1 := hall e he hb
    rw [heq, getD_both hun] at h1
    cases h1
   have h2 := wpOp_putIf hoj (hfree j oj hoj hji hjun hnot) (fun cs b => hsel i oi cs b hi) (fun cs b => hsel j oj cs b hoj) hQ hy h1
   have hfree' : ∀ k ok, ops[k]? = some ok → k ≠ i → (listed.setIfInBounds j true).getD k true = false →
     (∀ e ∈ ok.after, Region.binds md e = true → e.on ≠ i) → oi.apart ops ok = true := fun k ok hk hki hun hno => by
    refine hfree k ok hk hki ?_ hno
    by_cases hjk : j = k
    ·subst hjk; exact hjun
    ·rw [getD_set_ne true hjk] at hun; exact hun
   refine wpOp_mono (fun a' w' h3 => ⟨h3.2.1, ih (listed.setIfInBounds j true) a' w' (inv.set hj hjn) hfree' (ready_mono hr (Ne.symm hji)) h3.1 (h3.2.1 hjn) ?_⟩) h2
   rw [Array.setIfInBounds_comm _ _ hji]
   exact h3.2.2
def headB (md : Region.Mode) (ops : Array Oper) (n : Nat) (listed : Array Bool) : Bool :=
 decide (listed.size = ops.size) && (((List.range ops.size).all fun j => !listed.getD j false || ((ops[j]?).map (·.after.all fun e => !Region.binds md e || listed.getD e.on false)).getD true) && ((List.range ops.size).all fun t => decide (t < n) || !listed.getD t true))
theorem headB_spec {listed : Array Bool} (h : headB md ops n listed = true) : HeadInv md ops n listed := by
 unfold headB at h
 simp only [Bool.and_eq_true, decide_eq_true_eq, List.all_eq_true, List.mem_range] at h
 obtain ⟨h1, h2, h3⟩ := h
 refine ⟨h1, fun j oj hj hl e he hb => ?_, fun t ht ht' => ?_⟩
 ·have h4 := h2 j (Array.getElem?_eq_some_iff.1 hj).1
  rw [hl, hj] at h4
  simp only [Bool.not_true, Option.map_some, Option.getD_some, Bool.false_or] at h4
  have h5 := Array.all_eq_true'.1 h4 e he
  rw [hb] at h5
  simpa using h5
 ·have h4 := h3 t ht'
  simp only [Bool.or_eq_true, decide_eq_true_eq, Bool.not_eq_true'] at h4
  rcases h4 with h4 | h4
  ·omega
  ·exact h4
def takeB (md : Region.Mode) (ops : Array Oper) (n : Nat) (listed : Array Bool) (i : Nat) : Bool :=
 Region.noSelect ops && ((decide (n = ops.size) || (Region.sinkB md ops n && (domB md ops n && decide (n < ops.size)))) && (decide (i < n) && (headB md ops n listed && (Region.free md ops listed i && (Region.ready md ops listed).contains i))))
theorem E_take (i : Nat) {oi : Oper} {v : Value} {fuel : Nat} {listed : Array Bool} {a : Act} {w : World} (hi : ops[i]? = some oi) (hB : takeB md ops n listed i = true)
  (hQ : ∀ c a w, Q (.panic c) (a.put oi.dst v) w → Q (.panic c) a w) (hy : YieldsIf P ops S oi v a) (hS : S w)
  (h : wpE P md ops Q S n fuel (listed.setIfInBounds i true) (a.put oi.dst v) w) : wpE P md ops Q S n (fuel + 1) listed a w := by
 unfold takeB at hB
 simp only [Bool.and_eq_true, Bool.or_eq_true, decide_eq_true_eq] at hB
 obtain ⟨b1, b2, b5, b6, b7, b8⟩ := hB
 exact E_first hi (Region.noSelect_spec b1) b2 b5 hQ fuel listed a w (headB_spec b6) (Region.free_spec hi b7) (by simpa using b8) hy hS h
def AllE (P : Program) (md : Region.Mode) (ops : Array Oper) (Q : Exit → Act → World → Prop) (S : World → Prop) (n fuel : Nat) (listed : Array Bool) (a : Act) (w : World) (rs : List Nat) : Prop :=
 ∀ i ∈ rs, wpOp P ops Q i (fun a' w' => (i < n → S w') ∧ wpE P md ops Q S n fuel (listed.setIfInBounds i true) a' w') a w
theorem AllE.nil {fuel : Nat} {listed : Array Bool} {a : Act} {w : World} : AllE P md ops Q S n fuel listed a w [] := fun _ h => by cases h
theorem AllE.cons {fuel : Nat} {listed : Array Bool} {a : Act} {w : World} {i : Nat} {o : Oper} {rs : List Nat} (ho : ops[i]? = some o)
  (h : ∀ K' : Act → World → Prop, Shut (∀ a w, S w → (S w → wpE P md ops Q S n fuel (listed.setIfInBounds i true) a w) → K' a w) → if Region.wanted o (yielded ops a.tmps) = true then Oper.wp P o a w K' Q else K' (a.put o.dst undef) w)
  (hs : AllE P md ops Q S n fuel listed a w rs) : AllE P md ops Q S n fuel listed a w (i :: rs) := fun j hj => by
 rcases List.mem_cons.1 hj with rfl | hj
 ·exact wpOp_step ho (fun K' hK => h K' (fun a w hS hW => hK a w ⟨fun _ => hS, hW hS⟩))
 ·exact hs j hj
theorem E_ready (rs : List Nat) {fuel : Nat} {listed : Array Bool} {a : Act} {w : World} (hr : Region.ready md ops listed = rs) (hne : rs ≠ [])
  (h : AllE P md ops Q S n fuel listed a w rs) : wpE P md ops Q S n (fuel + 1) listed a w := ⟨fun h0 => absurd (hr ▸ h0) hne, hr ▸ h⟩
theorem E_seq : ∀ (l : List Oper) (k : Nat) (listed : Array Bool) (a : Act) (w : World), (∀ j, l[j]? = ops[k + j]?) → n ≤ k →
  Region.seqB md ops l.length k listed = true → wpList P ops Q l a w → wpE P md ops Q S n l.length listed a w
 | [], _, _, _, _, _, _, hB, h => ⟨by simpa [Region.seqB] using hB, h⟩
 | o :: l, k, listed, a, w, hl, hnk, hB, h => by
  have h0 : ops[k]? = some o := by simpa using (hl 0).symm
  simp only [List.length_cons, Region.seqB, Bool.and_eq_true, decide_eq_true_eq] at hB
  refine ⟨fun h1 => (by rw [hB.1] at h1; cases h1), fun i hi => ?_⟩
  rw [hB.1] at hi
  have hik : i = k := by simpa using hi
  subst hik
  have hw : wpOp P ops Q i (wpList P ops Q l) a w := by unfold wpOp; simp only [h0]; exact h
  exact wpOp_mono (fun a' w' h' => ⟨fun hlt => by omega, E_seq l (i + 1) _ a' w' (fun j => by have := hl (j + 1); simpa [Nat.add_assoc, Nat.add_comm 1 j] using this) (by omega) hB.2 h'⟩) hw
theorem E_other {S' : World → Prop} {n' : Nat} : ∀ (fuel : Nat) (listed : Array Bool) (a : Act) (w : World), (∀ i, i < n → listed.getD i true = true) → wpE P md ops Q S' n' fuel listed a w → wpE P md ops Q S n fuel listed a w
 | 0, _, _, _, _, h => h
 | fuel + 1, listed, a, w, hl, h => by
  refine ⟨h.1, fun i hi => wpOp_mono (fun a' w' h' => ⟨fun hin => ?_, E_other fuel _ a' w' (fun j hj => ?_) h'.2⟩) (h.2 i hi)⟩
  ·have := (mem_ready.1 hi).1
   rw [hl i hin] at this
   cases this
  ·by_cases hji : i = j
   ·subst hji
    have := (mem_ready.1 hi).1
    rw [hl i hj] at this
    cases this
   ·rw [getD_set_ne true hji]; exact hl j hj
def allB (n : Nat) (listed : Array Bool) : Bool := (List.range n).all fun i => listed.getD i true
theorem E_switch (n' : Nat) (S' : World → Prop) {fuel : Nat} {listed : Array Bool} {a : Act} {w : World} (hB : allB n listed = true) (hS : S' w) (h : S' w → wpE P md ops Q S' n' fuel listed a w) : wpE P md ops Q S n fuel listed a w :=
 E_other fuel listed a w (fun i hi => by
  unfold allB at hB
  exact List.all_eq_true.1 hB i (List.mem_range.2 hi)) (h hS)
theorem E_tail {l : List Oper} {fuel : Nat} {listed : Array Bool} {a : Act} {w : World} (hf : (l.drop n).length = fuel) (hB : Region.seqB md l.toArray (l.drop n).length n listed = true)
  (h : wpList P l.toArray Q (l.drop n) a w) : wpE P md l.toArray Q S n fuel listed a w := by
 subst hf
 exact E_seq (l.drop n) n listed a w (fun j => by simp) (Nat.le_refl _) hB h
theorem E_end {fuel : Nat} {listed : Array Bool} {a : Act} {w : World} (hr : Region.ready md ops listed = []) (hf : fuel = 0) (h : Q .normal a w) : wpE P md ops Q S n fuel listed a w := by
 subst hf; exact ⟨hr, h⟩
theorem E_begin (n : Nat) (S : World → Prop) {id : Nat} {a : Act} {w : World} (hm : P.follows .mixedOrders = true) (hS : S w.drew)
  (h : S w.drew → wpE P .any ops Q S n ops.size (Array.replicate ops.size false) a w.drew) : (Code.region id ops true).wp P Q a w :=
 wp_region_any hm (any_of_E _ _ _ _ (h hS))
end
end Go.Proofs.YtponbabbabnaeaaGreat

namespace Go.Proofs.YtponbabbabnaeaaGreat
theorem aP1 {α : Type} {l : List α} {i : Nat} {a : α} : l.toArray.setIfInBounds i a = (l.set i a).toArray := List.setIfInBounds_toArray ..
theorem aP2 {α : Type} {a b : α} {l : List α} : (a :: l).set 0 b = b :: l := rfl
theorem aP3 {α : Type} {a b : α} {l : List α} {n : Nat} : (a :: l).set (n + 1) b = a :: l.set n b := rfl
section
variable {P : Program} {ops : Array Oper} {Q : Exit → Act → World → Prop} {md : Region.Mode} {S : World → Prop} {n : Nat}
theorem E_t (i d : Nat) {oi : Oper} {v : Value} {fuel : Nat} {listed : Array Bool} {a a' : Act} {w : World} (h : wpE P md ops Q S n fuel (listed.setIfInBounds i true) a' w)
    (hi : ops[i]? = some oi := by rfl) (hd : oi.dst = some d := by rfl) (hB : takeB md ops n listed i = true := by kernel_rfl) (hy : ∀ w9, S w9 → (execOp a.eval oi).run P w9 = .ok (.value v) w9 := by intro w9 hSw; (try dsimp only at hSw); go_simp <;> with_reducible rfl)
    (ha : a.put (some d) v = a' := by simp only [Act.put, aP1, aP2, aP3] <;> rfl) (hQ : ∀ c a w, Q (.panic c) (a.put oi.dst v) w → Q (.panic c) a w := by exact fun _ _ _ h => h)
    (hw : Region.wanted oi (yielded ops a.tmps) = true := by rfl) (hS : S w := by assumption) : wpE P md ops Q S n (fuel + 1) listed a w := by
  subst ha; rw [← hd] at h; exact E_take i hi hB hQ (Or.inl ⟨hw, hy⟩) hS h
theorem E_s (i d : Nat) {oi : Oper} {fuel : Nat} {listed : Array Bool} {a a' : Act} {w : World} (h : wpE P md ops Q S n fuel (listed.setIfInBounds i true) a' w)
    (hi : ops[i]? = some oi := by rfl) (hd : oi.dst = some d := by rfl) (hB : takeB md ops n listed i = true := by kernel_rfl)
    (ha : a.put (some d) undef = a' := by simp only [Act.put, aP1, aP2, aP3] <;> rfl) (hQ : ∀ c a w, Q (.panic c) (a.put oi.dst undef) w → Q (.panic c) a w := by exact fun _ _ _ h => h)
    (hw : Region.wanted oi (yielded ops a.tmps) = false := by rfl) (hS : S w := by assumption) : wpE P md ops Q S n (fuel + 1) listed a w := by
  subst ha; rw [← hd] at h; exact E_take i hi hB hQ (Or.inr ⟨hw, rfl⟩) hS h
end
end Go.Proofs.YtponbabbabnaeaaGreat
