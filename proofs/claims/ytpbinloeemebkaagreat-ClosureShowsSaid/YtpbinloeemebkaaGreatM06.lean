/-
  The document's answer: small functions.
-/
import Derived.Test.YtpbinloeemebkaaGreatM05
import Derived.Test.YtpbinloeemebkaaGreatM04
import Derived.MapKept
import Derived.Test.YtpbinloeemebkaaGreatRows
import Derived.WalkKit
import Derived.ProofKit
import Derived.OpenShut
import Derived.ShutString
import Derived.ChangeOld
import Derived.Below
import Derived.Deep.Slices
import Derived.Deep.SlicePairs
import Derived.Lib.SmallJoins
import Derived.SizedLaws
namespace Go.Proofs.YtpbinloeemebkaaGreat
open Go.RowKit
attribute [local irreducible] AT bO AX AO Av Kt bo dU DA cT
theorem uy (l k:List Int):bM Tryz.prog 12 [.imm 1 (aS l),.imm 1 (aS k)] (.sc (.bool (l==k))):=by
 refine aT Tryz.func12 rfl Tryz.ntmps12 rfl fun B=>?_
 refine cF 0 rfl rfl fun hlen=>?_
 rw [aN] at hlen
 repeat' (first|refine go ?_|refine HF a1 F8 ?_)
 refine ay rfl (fun h=>?_) (fun h=>?_)
 ·have h':=Hy h
  simp only [aN] at h'
  repeat' (first|refine go ?_|refine HF a1 F8 ?_)
  refine HN F8 ?_
  rw [show (l==k)=false by rw [beq_eq_false_iff_ne];intro e;subst e;simp at h']
 ·have h':=Hx h
  simp only [aN] at h'
  have hlk:l.length=k.length:=by omega
  repeat' (first|refine go ?_|refine ak ?_|refine HF a1 F8 ?_)
  refine aR [0,1] (α:=Nat) (fun i=>[(5,.sc (.int .i64 i))]) (fun i=>i≤l.length∧l.take i=k.take i) (fun _=>[]) (fun i=>l.length - i) 0 rfl ⟨rfl,trivial⟩ ⟨Nat.zero_le _,by simp⟩ (fun _ _ h=>h) fun i hi=>?_
  try dsimp only [Hs,Hr,Hq,Hl]
  repeat' (first|refine go ?_|refine HF a1 F8 ?_)
  refine ay rfl (fun h=>?_) (fun h=>?_)
  ·have hil:i < l.length:=by have:=Hy h;rw [aN] at this;omega
   obtain ⟨z,hz⟩:∃z,l[i]?=some z:=⟨_,Hz hil⟩
   obtain ⟨y,hy⟩:∃z,k[i]?=some z:=⟨_,Hz (by omega)⟩
   have hzg:=bG hz
   have hyg:=bG hy
   repeat' (first|refine go ?_|refine ak ?_)
   refine bj 8 [(0,.v),(1,.v),(2,.v),(3,.v),(4,.v),(5,.v),(6,.v),(7,.v)] none ?_ trivial rfl (by kernel_rfl) (by kernel_rfl) (by kernel_rfl) mixed (by kernel_rfl) rfl
   repeat' (first|refine aE ?_|refine ba a1 ?_|(apply co;refine cJ a1 ?_)|fail)
   refine HR [0,1,5,20,24] F8 ?_
   repeat' (first|refine go ?_|refine a8 ?_|refine HF a1 F8 ?_)
   refine ay rfl (fun h2=>?_) (fun h2=>?_)
   ·have h2':=Hy h2
    repeat' (first|refine go ?_|refine HF a1 F8 ?_)
    refine HN F8 ?_
    rw [show (l==k)=false by rw [beq_eq_false_iff_ne];intro e;subst e;rw [hz] at hy;injection hy with hy;exact h2' hy]
   ·have h2':=Hx h2
    repeat' (first|refine go ?_|refine HF a1 F8 ?_|(apply aZ;refine aY ?_)|fail)
    refine aF (i+1) rfl ⟨by rw [Hv];rfl,trivial⟩ ⟨by omega,?_⟩ (by omega) (fun _ _ h=>h)
    rw [List.take_add_one,List.take_add_one,hz,hy,hi.2,Decidable.not_not.1 h2']
  ·have hil:i=l.length:=by have:=Hx h;rw [aN] at this;omega
   subst hil
   rw [List.take_length,hlk,List.take_length] at hi
   repeat' (first|refine go ?_|refine HF a1 F8 ?_)
   refine HN F8 ?_
   rw [hi.2,beq_self_eq_true]
instance (l k:List Int):AD Tryz.prog 12 [.imm 1 (aS l),.imm 1 (aS k)] (.sc (.bool (l==k))):=⟨uy l k⟩
def ii (l:List Int) (n:Nat):List Int:=((List.range n).map Int.ofNat).filter (l.contains ·)
theorem mM (a b:List Int):aS a++aS b=aS (a++b):=by simp [aS]
end Go.Proofs.YtpbinloeemebkaaGreat
namespace Go.Proofs.YtpbinloeemebkaaGreat
open Go.RowKit
abbrev aH (z:Int):AV:= .sc (.int .i64 z)
abbrev uL (s:ByteArray):AV:= .sc (.string s)
abbrev c9 (b:Bool):AV:= .sc (.bool b)
structure eB where
 X:Int
 Y:Int
 On:Bool
structure cX where
 Glyph:Int
 X:Int
 Y:Int
structure dz where
 Kind:Int
 Class:Int
 X:Int
 Y:Int
structure dG where
 Region:Int
 Point:Int
 X:Int
 Y:Int
structure fT where
 Op:Int
 A:Int
structure bn where
 Name:ByteArray
 Advance:Int
 Mark:Bool
 Points:List eB
 Ends:List Int
 Parts:List cX
 Anchors:List dz
 Deltas:List dG
 Hint:List fT
structure f0 where
 Rune:Int
 Glyph:Int
structure gH where
 At:Int
 Lookup:Int
structure bv where
 Back:List (List Int)
 In:List (List Int)
 Ahead:List (List Int)
 Out:List Int
 Calls:List gH
 X:Int
structure aP where
 Kind:Int
 Ignore:Bool
 Rules:List bv
structure bV where
 Name:ByteArray
 Lookups:List Int
structure eu where
 Name:ByteArray
 Min:Int
 Def:Int
 Max:Int
structure eX where
 Start:Int
 Peak:Int
 End:Int
structure aL where
 Unit:Int
 Glyphs:List bn
 Chars:List f0
 Lookups:List aP
 Features:List bV
 Axes:List eu
 Regions:List (List eX)
 Funcs:List (List fT)
 Cvt:List Int
def bz (l:List (List Int)):List (List AV):=l.map fun q=>[.imm 1 (aS q)]
def jZ (l:List ByteArray):List (List AV):=l.map fun s=>[uL s]
def dA (p:eB):List AV:=[aH p.X,aH p.Y,c9 p.On]
def dW (p:cX):List AV:=[aH p.Glyph,aH p.X,aH p.Y]
def d9 (p:dz):List AV:=[aH p.Kind,aH p.Class,aH p.X,aH p.Y]
def dY (p:dG):List AV:=[aH p.Region,aH p.Point,aH p.X,aH p.Y]
def eU (p:fT):List AV:=[aH p.Op,aH p.A]
def bS (g:bn):List AV:=[uL g.Name,aH g.Advance,c9 g.Mark,.imm 3 (g.Points.map dA),.imm 1 (aS g.Ends),.imm 3 (g.Parts.map dW),.imm 4 (g.Anchors.map d9),.imm 4 (g.Deltas.map dY),.imm 2 (g.Hint.map eU)]
def dJ (c:f0):List AV:=[aH c.Rune,aH c.Glyph]
def fQ (c:gH):List AV:=[aH c.At,aH c.Lookup]
def bJ (r:bv):List AV:=[.imm 1 (bz r.Back),.imm 1 (bz r.In),.imm 1 (bz r.Ahead),.imm 1 (aS r.Out),.imm 2 (r.Calls.map fQ),aH r.X]
def bF (l:aP):List AV:=[aH l.Kind,c9 l.Ignore,.imm 6 (l.Rules.map bJ)]
def c8 (t:bV):List AV:=[uL t.Name,.imm 1 (aS t.Lookups)]
def cO (a:eu):List AV:=[uL a.Name,aH a.Min,aH a.Def,aH a.Max]
def kf (t:eX):List AV:=[aH t.Start,aH t.Peak,aH t.End]
def bT (r:List eX):List AV:=[.imm 3 (r.map kf)]
def dE (l:List fT):List AV:=[.imm 2 (l.map eU)]
def cf (f:aL):List AV:=[aH f.Unit,.imm 9 (f.Glyphs.map bS),.imm 2 (f.Chars.map dJ),.imm 3 (f.Lookups.map bF),.imm 2 (f.Features.map c8),.imm 4 (f.Axes.map cO),.imm 1 (f.Regions.map bT),.imm 1 (f.Funcs.map dE),.imm 1 (aS f.Cvt)]
abbrev cx (f:aL):AV:= .agg (cf f)
theorem bA {α:Type} {c:α→List AV} {l:List α} {i:Nat} {a:α} (h:l[i]?=some a):(l.map c)[i]?=some (c a):=by simp [h]
theorem ju (l:List ByteArray):(jZ l).length=l.length:=by simp [jZ]
theorem uI {l:List ByteArray} {i:Nat} {z:ByteArray} (h:l[i]?=some z):(jZ l)[i]?=some [uL z]:=by simp [jZ,h]
theorem d3 (l:List (List Int)):(bz l).length=l.length:=by simp [bz]
theorem lE {l:List (List Int)} {i:Nat} {z:List Int} (h:l[i]?=some z):(bz l)[i]?=some [.imm 1 (aS z)]:=by simp [bz,h]
end Go.Proofs.YtpbinloeemebkaaGreat
namespace Go.Proofs.YtpbinloeemebkaaGreat
open Go.RowKit
attribute [local irreducible] AT bO AX AO Av Kt bo dU DA cT
def j8 (l:List ByteArray) (s:ByteArray):Bool:=l.any fun t=>decide (t=s)
theorem pO {l:List ByteArray} {s:ByteArray}:j8 l s=true↔s∈l:=by
 unfold j8
 rw [List.any_eq_true]
 constructor
 ·rintro ⟨t,h1,h2⟩;rw [←Hy h2];exact h1
 ·intro h;exact ⟨s,h,decide_eq_true rfl⟩
def lH (f:aL) (n:Int):Bool:=match f.Lookups[n.toNat]? with
 | some l=>decide (0≤n∧(l.Kind=1∨l.Kind=2∨l.Kind=3∨l.Kind=4))
 | none=>false
theorem s7 (f:aL) (n:Int):bM Tryz.prog 29 [cx f,aH n] (c9 (lH f n)):=by
 refine aT Tryz.func29 rfl Tryz.ntmps29 rfl fun B=>?_
 repeat' (first|refine go ?_|refine HF a1 F8 ?_|refine bC ?_|fail)
 refine cN [1,2] (n < 0∨(f.Lookups.length:Int)≤n) rfl (fun Q' K=>?_) (fun hC=>?_) (fun hC=>?_)
 ·repeat' (first|refine go ?_|refine HF a1 F8 ?_|refine HO F8 ?_|refine HS HB ?_|refine be rfl rfl rfl (fun _=>?_) (fun _=>?_))
  all_goals exact K _ _ rfl rfl (by simp_all <;> omega)
 ·repeat' (first|refine go ?_|refine HF a1 F8 ?_)
  refine HN F8 ?_
  unfold lH
  split
  ·rename_i l hl
   have:=(Hp hl).1
   rw [decide_eq_false (by omega)]
  ·rfl
 ·obtain ⟨l,hl⟩:∃l,f.Lookups[n.toNat]?=some l:=⟨_,Hz (by omega)⟩
  have hlg:=bA (c:=bF) hl
  have hcn:lH f n=decide (l.Kind=1∨l.Kind=2∨l.Kind=3∨l.Kind=4):=by
   unfold lH
   rw [hl]
   simp only [show 0≤n by omega,true_and]
  rw [hcn]
  repeat' (first|refine go ?_|refine ak ?_|refine HF a1 F8 ?_|(apply aX;first|refine aU a1 ?_|refine aK a1 ?_)|fail)
  refine ay rfl (fun h1=>?_) (fun h1=>?_)
  ·repeat' (first|refine go ?_|fail)
   refine ay rfl (fun _=>?_) (fun h'=>absurd (h1.symm.trans h') (by decide))
   repeat' (first|refine go ?_|refine HF a1 F8 ?_)
   refine HN F8 ?_
   rw [decide_eq_true (Or.inl (Hy h1))]
  repeat' (first|refine go ?_|refine HF a1 F8 ?_)
  refine ay rfl (fun h2=>?_) (fun h2=>?_)
  ·repeat' (first|refine go ?_|fail)
   refine ay rfl (fun _=>?_) (fun h'=>absurd (h2.symm.trans h') (by decide))
   repeat' (first|refine go ?_|refine HF a1 F8 ?_)
   refine HN F8 ?_
   rw [decide_eq_true (Or.inr (Or.inl (Hy h2)))]
  repeat' (first|refine go ?_|refine HF a1 F8 ?_)
  refine ay rfl (fun h3=>?_) (fun h3=>?_)
  ·repeat' (first|refine go ?_|fail)
   refine ay rfl (fun _=>?_) (fun h'=>absurd (h3.symm.trans h') (by decide))
   repeat' (first|refine go ?_|refine HF a1 F8 ?_)
   refine HN F8 ?_
   rw [decide_eq_true (Or.inr (Or.inr (Or.inl (Hy h3))))]
  repeat' (first|refine go ?_|refine HF a1 F8 ?_)
  refine ay rfl (fun h4=>?_) (fun h4=>?_)
  ·repeat' (first|refine go ?_|refine HF a1 F8 ?_)
   refine HN F8 ?_
   rw [decide_eq_true (Or.inr (Or.inr (Or.inr (Hy h4))))]
  repeat' (first|refine go ?_|refine HF a1 F8 ?_)
  refine HN F8 ?_
  rw [decide_eq_false]
  intro hh
  rcases hh with hh | hh | hh | hh
  ·exact Hx h1 hh
  ·exact Hx h2 hh
  ·exact Hx h3 hh
  ·exact Hx h4 hh
instance (f:aL) (n:Int):AD Tryz.prog 29 [cx f,aH n] (c9 (lH f n)):=⟨s7 f n⟩
def qw (l:List (List Int)):Nat:=(l.map fun q=>1+q.length).sum
def oJ (r:bv):Nat:=r.Out.length+r.Calls.length+(qw r.Back+qw r.In+qw r.Ahead)
def mi (l:List bv):Nat:=l.length+(l.map oJ).sum
def nS (g:bn):Nat:=g.Points.length+g.Parts.length+g.Anchors.length+g.Deltas.length+g.Hint.length+g.Name.size / 100
def featN (t:bV):Nat:=t.Lookups.length+t.Name.size / 100
def lJ (f:aL):Nat:=f.Glyphs.length+f.Chars.length+f.Lookups.length+f.Features.length+f.Axes.length+f.Regions.length+f.Funcs.length+f.Cvt.length+(f.Glyphs.map nS).sum+(f.Lookups.map fun l=>mi l.Rules).sum+(f.Funcs.map (·.length)).sum+(f.Features.map featN).sum+(f.Regions.map (·.length)).sum
def dM (f:aL):Prop:=lJ f≤2000
theorem sQ {α:Type} {g:α→Nat} {l:List α} {a:α} (h:a∈l):g a≤(l.map g).sum:=by
 induction l with
 | nil=>cases h
 | cons b l ih=>
  rw [Hq,List.sum_cons]
  rcases List.mem_cons.1 h with h | h
  ·subst h;omega
  ·have:=ih h;omega
section
variable {f:aL} (hs:dM f)
include hs
theorem dM.glyphs:f.Glyphs.length≤2000:=by unfold dM lJ at hs;omega
theorem dM.lookups:f.Lookups.length≤2000:=by unfold dM lJ at hs;omega
theorem dM.features:f.Features.length≤2000:=by unfold dM lJ at hs;omega
theorem dM.rules {l:aP} (h:l∈f.Lookups):mi l.Rules≤2000:=by
 have:=sQ (g:=fun l:aP=>mi l.Rules) h
 unfold dM lJ at hs
 omega
theorem dM.rulesL {l:aP} (h:l∈f.Lookups):l.Rules.length≤2000:=by
 have:=hs.rules h
 unfold mi at this
 omega
theorem dM.rule {l:aP} {r:bv} (h:l∈f.Lookups) (hr:r∈l.Rules):oJ r≤2000:=by
 have:=hs.rules h
 have:=sQ (g:=oJ) hr
 unfold mi at *
 omega
theorem dM.calls {l:aP} {r:bv} (h:l∈f.Lookups) (hr:r∈l.Rules):r.Calls.length≤2000:=by
 have:=hs.rule h hr
 unfold oJ at this
 omega
theorem dM.out {l:aP} {r:bv} (h:l∈f.Lookups) (hr:r∈l.Rules):r.Out.length≤2000:=by
 have:=hs.rule h hr
 unfold oJ at this
 omega
end
inductive fX (f:aL) (fs:List ByteArray):Int→Prop
 | base {t:bV} {n:Int} (h:t∈f.Features) (hn:j8 fs t.Name=true) (hm:n∈t.Lookups) (h0:0≤n) (h1:n < f.Lookups.length):fX f fs n
 | call {m:Int} {l:aP} {r:bv} {c:gH} (h:fX f fs m) (hl:f.Lookups[m.toNat]?=some l) (hk:l.Kind=4) (hr:r∈l.Rules) (hc:c∈r.Calls) (hn:lH f c.Lookup=true):fX f fs c.Lookup
theorem tv {f:aL} {n:Int} (h:lH f n=true):0≤n∧n < f.Lookups.length:=by
 unfold lH at h
 split at h
 ·rename_i l hl
  have:=(Hp hl).1
  have:=Hy h
  omega
 ·cases h
theorem fX.in {f:aL} {fs:List ByteArray} {n:Int} (h:fX f fs n):0≤n∧n < f.Lookups.length:=by
 cases h with
 | base _ _ _ h0 h1=>exact ⟨h0,h1⟩
 | call _ _ _ _ _ h=>exact tv h
theorem BN {l:List Int} {n:Nat} {z:Int}:z∈ii l n↔z∈l∧0≤z∧z < n:=by
 unfold ii
 rw [List.mem_filter,List.mem_map]
 constructor
 ·rintro ⟨⟨i,hi,rfl⟩,h⟩
  rw [List.mem_range] at hi
  refine ⟨by simpa using h,by simp,by simpa using hi⟩
 ·rintro ⟨h,h0,h1⟩
  exact ⟨⟨z.toNat,by rw [List.mem_range];omega,by simp;omega⟩,by simpa using h⟩
theorem wr (l:List Int) (n:Nat):(ii l n).Nodup:=by
 unfold ii
 rw [List.nodup_iff_pairwise_ne]
 refine List.Pairwise.filter _ ?_
 rw [List.pairwise_map]
 exact (List.nodup_iff_pairwise_ne.1 List.nodup_range).imp fun h e=>h (by injection e)
open Classical in
noncomputable def dT (f:aL) (fs:List ByteArray):List Int:=((List.range f.Lookups.length).map Int.ofNat).filter fun z=>decide (fX f fs z)
open Classical in
theorem qr {f:aL} {fs:List ByteArray} {l:List Int} (h:∀z:Int,0≤z→z < f.Lookups.length→(z∈l↔fX f fs z)):ii l f.Lookups.length=dT f fs:=by
 unfold ii dT
 refine List.filter_congr fun z hz=>?_
 rw [List.mem_map] at hz
 obtain ⟨i,hi,rfl⟩:=hz
 rw [List.mem_range] at hi
 have:=h (Int.ofNat i) (by simp) (by simpa using hi)
 rw [Bool.eq_iff_iff,List.contains_iff_mem,decide_eq_true_iff]
 exact this
theorem iD {l:List Int} {n:Nat} (h:l.Nodup) (hi:∀z∈l,0≤z∧z < n):l.length≤n:=by
 induction n generalizing l with
 | zero=>
  cases l with
  | nil=>exact Nat.zero_le _
  | cons a l=>have:=hi a (List.mem_cons_self ..);omega
 | succ n ih=>
  by_cases hm:(n:Int)∈l
  ·have h1:=ih (l:=l.erase n) (h.erase _) fun z hz=>by
    have:=(h.mem_erase_iff).1 hz
    have:=hi z this.2
    omega
   rw [List.length_erase_of_mem hm] at h1
   omega
  ·have:=ih h fun z hz=>by
    have:=hi z hz
    have:z≠n:=fun e=>hm (e▸hz)
    omega
   omega
end Go.Proofs.YtpbinloeemebkaaGreat
namespace Go.Proofs.YtpbinloeemebkaaGreat
open Go.RowKit Go.MapKept
def kz (d:TypeDesc) (m:Value→Option AV) (σ:ci) (o:Obj):Prop:=
 ∃es clock,o= .map es clock∧(∀x∈es.toList,IsKey d x.key∧∃c,m x.key=some c∧VR σ c x.val)∧es.toList.Pairwise (fun x y=>x.key≠y.key)∧∀k c,m k=some c→∃x∈es.toList,x.key=k
def dc (d:TypeDesc) (m:Value→Option AV):AB:= .dep (kz d m) fun σ τ o hle ⟨es,clock,h1,h2,h3,h4⟩=>⟨es,clock,h1,fun x hx=>by
 obtain ⟨a,c,e,f⟩:=h2 x hx
 exact ⟨a,c,e,f.mono hle⟩,h3,h4⟩
theorem kz.none {d:TypeDesc} {m:Value→Option AV} {σ:ci} {es:Array MapEntry} {clock:Nat} {k:Value} (h:kz d m σ (.map es clock)) (hk:IsKey d k) (hm:m k=none):Instr.findNow d k es.toList 0=some none:=by
 obtain ⟨es',clock',h1,h2,h3,h4⟩:=h
 cases h1
 rcases findNow_spec hk es.toList 0 (fun x hx=>(h2 x hx).1) with ⟨h5,_⟩ | ⟨j,e,h5,h6,h7⟩
 ·exact h5
 ·obtain ⟨_,c,h8,_⟩:=h2 e (Hw h6)
  rw [h7,hm] at h8
  cases h8
theorem kz.some {d:TypeDesc} {m:Value→Option AV} {σ:ci} {es:Array MapEntry} {clock:Nat} {k:Value} {c:AV} (h:kz d m σ (.map es clock)) (hk:IsKey d k) (hm:m k=some c):∃(j:Nat) (e:MapEntry),Instr.findNow d k es.toList 0=some (some (j,e.val))∧es[j]?=some e∧e.key=k∧VR σ c e.val:=by
 obtain ⟨es',clock',h1,h2,h3,h4⟩:=h
 cases h1
 rcases findNow_spec hk es.toList 0 (fun x hx=>(h2 x hx).1) with ⟨_,h5⟩ | ⟨j,e,h5,h6,h7⟩
 ·obtain ⟨x,hx,hk'⟩:=h4 k c hm
  exact absurd hk' (h5 x hx)
 ·obtain ⟨_,c',h8,h9⟩:=h2 e (Hw h6)
  rw [h7,hm] at h8
  cases h8
  exact ⟨j,e,by simpa using h5,by simpa using h6,h7,h9⟩
section
variable {P:Program} {fr:c6} {B:Bs} {L:AL} {d:Option Tmp} {ty t:TypeId} {pos:String} {af:Array Edge} {g:Option (Nat×Bool)} {x y z:Operand} {u:AV}
theorem pj (kd:TypeDesc):AO P ⟨d,.makeMap t none,ty,pos,af,g⟩ fr B L (fun c L'=>∃b,c= .sc (.map (some b))∧L'=(b,dc kd fun _=>none)::L):=by
 intro σ ρ w hρ hw
 have hr:(execOp ρ ⟨d,.makeMap t none,ty,pos,af,g⟩).run P w= .ok (.value (.map (some w.heap.size))) (w.alloc (.map #[] 0)):=by
  simp [execOp,Instr.makeMap]
 unfold gU
 rw [hr]
 exact ⟨σ,_,_,ci.le_refl _,.sc _,hw.alloc _ (dc kd fun _=>Option.none) ⟨#[],0,rfl,by simp,by simp,by simp⟩,_,rfl,rfl⟩
theorem rZ (i:Nat) {b kt et:Nat} {kd:TypeDesc} {k:Value} {m m':Value→Option AV} (ht:P.underlying t=some (.map kt et)) (hkt:P.underlying kt=some kd) (hx:bt fr x=some (.sc (.map (some b)))) (hy:bt fr y=some (.sc k)) (hk:IsKey kd k) (hz:bt fr z=some u) (hL:L[i]?=some (b,dc kd m)) (h1:m' k=some u) (h2:∀q,q≠k→m' q=m q):
  AO P ⟨d,.mapUpdate t x y z,ty,pos,af,g⟩ fr B L (fun _ L'=>L'=fi L i (dc kd m')):=by
 intro σ ρ w hρ hw
 obtain ⟨o,ho,hM⟩:=hw.here _ (Hw hL)
 have hM':kz kd m σ o:=hM
 obtain ⟨es,clock,rfl,h3,h4,h5⟩:=hM'
 have hM':kz kd m σ (.map es clock):=hM
 have hv:=hρ z u hz
 have hlt:b < w.heap.size:=(Array.getElem?_eq_some_iff.1 ho).1
 have key:∃es' clock',(Instr.mapUpdate t (.map (some b)) k (ρ z)).run P w= .ok () (w.putObj b (.map es' clock'))∧kz kd m' σ (.map es' clock'):=by
  cases hm:m k with
  | none=>
   refine ⟨es.push ⟨k,ρ z,clock⟩,clock+1,?_,_,_,rfl,?_,?_,?_⟩
   ·simp [Instr.mapUpdate,run_underlying ht,MapKept.run_getObj_map ho,run_checkKey hkt hk,run_findKey hkt (hM'.none hk hm),MapKept.run_setObj_map _ ho,Result.andThen,World.putObj]
   ·intro e he
    rw [Array.toList_push,List.mem_append,List.mem_singleton] at he
    rcases he with he | rfl
    ·obtain ⟨h6,c,h7,h8⟩:=h3 e he
     exact ⟨h6,c,by rw [h2 _ (fun e1=>by rw [e1,hm] at h7;cases h7)];exact h7,h8⟩
    ·exact ⟨hk,u,h1,hv⟩
   ·rw [Array.toList_push,List.pairwise_append]
    refine ⟨h4,by simp,fun e he e' he'=>?_⟩
    rw [List.mem_singleton] at he'
    subst he'
    obtain ⟨_,c,h7,_⟩:=h3 e he
    exact fun e1=>by rw [e1,hm] at h7;cases h7
   ·intro q c hq
    by_cases e:q=k
    ·subst e
     exact ⟨_,by rw [Array.toList_push];exact List.mem_append.2 (Or.inr (List.mem_singleton.2 rfl)),rfl⟩
    ·rw [h2 q e] at hq
     obtain ⟨y,hy,hy'⟩:=h5 q c hq
     exact ⟨y,by rw [Array.toList_push];exact List.mem_append.2 (Or.inl hy),hy'⟩
  | some c=>
   obtain ⟨j,e,h6,h7,h8,h9⟩:=hM'.some hk hm
   have hdis:∀n e',es[n]?=some e'→¬j=n→e'.key≠k:=by
    intro n e' hn hne
    rw [←Array.getElem?_toList] at hn h7
    rw [←h8]
    rw [List.pairwise_iff_getElem] at h4
    obtain ⟨hj1,hj2⟩:=Hp h7
    obtain ⟨hn1,hn2⟩:=Hp hn
    rcases Nat.lt_or_gt_of_ne hne with hlt | hgt
    ·have:=h4 j n hj1 hn1 hlt
     rw [hj2,hn2] at this
     exact this.symm
    ·have:=h4 n j hn1 hj1 hgt
     rw [hj2,hn2] at this
     exact this
   refine ⟨es.modify j (fun e'=>{ e' with key:=k,val:=ρ z }),clock,?_,_,_,rfl,?_,?_,?_⟩
   ·simp [Instr.mapUpdate,run_underlying ht,MapKept.run_getObj_map ho,run_checkKey hkt hk,run_findKey hkt h6,h7,h8,run_keyThatStays hk,MapKept.run_setObj_map _ ho,Result.andThen,World.putObj]
   ·intro e' he'
    obtain ⟨n,hn⟩:=List.mem_iff_getElem?.1 he'
    rw [Array.getElem?_toList,Array.getElem?_modify] at hn
    by_cases e1:j=n
    ·subst e1
     rw [if_pos rfl,h7] at hn
     simp at hn
     subst hn
     exact ⟨hk,u,h1,hv⟩
    ·rw [if_neg e1] at hn
     obtain ⟨h10,c',h11,h12⟩:=h3 e' (Hw (by rw [Array.getElem?_toList];exact hn))
     exact ⟨h10,c',by rw [h2 _ (hdis n e' hn e1)];exact h11,h12⟩
   ·have hkeys:(es.modify j (fun e'=>{ e' with key:=k,val:=ρ z })).toList.map MapEntry.key=es.toList.map MapEntry.key:=by
     apply List.ext_getElem?
     intro n
     rw [List.getElem?_map,List.getElem?_map,Array.getElem?_toList,Array.getElem?_toList,Array.getElem?_modify]
     by_cases e1:j=n
     ·subst e1
      rw [if_pos rfl,h7]
      simp [h8]
     ·rw [if_neg e1]
    refine (List.pairwise_map (f:=MapEntry.key) (R:=fun a b:Value=>a≠b)).1 ?_
    rw [hkeys]
    exact List.pairwise_map.2 h4
   ·intro q c hq
    by_cases e1:q=k
    ·subst e1
     refine ⟨{ e with key:=q,val:=ρ z },List.mem_iff_getElem?.2 ⟨j,?_⟩,rfl⟩
     rw [Array.getElem?_toList,Array.getElem?_modify,if_pos rfl,h7]
     rfl
    ·rw [h2 q e1] at hq
     obtain ⟨y,hy,hy'⟩:=h5 q c hq
     obtain ⟨n,hn⟩:=List.mem_iff_getElem?.1 hy
     rw [Array.getElem?_toList] at hn
     refine ⟨y,List.mem_iff_getElem?.2 ⟨n,?_⟩,hy'⟩
     rw [Array.getElem?_toList,Array.getElem?_modify,if_neg,hn]
     intro e2
     subst e2
     rw [h7] at hn
     injection hn with hn
     subst hn
     exact e1 (hy'.symm.trans h8)
 obtain ⟨es',clock',hr,hq⟩:=key
 unfold gU
 rw [show (execOp ρ ⟨d,.mapUpdate t x y z,ty,pos,af,g⟩).run P w= .ok .skip (w.putObj b (.map es' clock')) by simp only [execOp,(hρ x _ hx).sc_inv,(hρ y _ hy).sc_inv,Sem.run_bind,Sem.run_pure,Result.andThen,hr]]
 exact ⟨σ,.sc undef,_,ci.le_refl _,.sc _,hw.putAt (a':=dc kd m') hL (fun _=>trivial) (kQ w b _) (World.putObj_heap_same hlt) hq,rfl⟩
theorem qo {w:World} {b kt et:Nat} {kd:TypeDesc} {k v0:Value} {m:Value→Option AV} {es:Array MapEntry} {clock:Nat} {σ:ci} (ht:P.underlying t=some (.map kt et)) (hkt:P.underlying kt=some kd) (hk:IsKey kd k) (ho:w.heap[b]?=some (.map es clock)) (hM:kz kd m σ (.map es clock)) (hz:(zeroValue et).run P w= .ok v0 w) (ok:Bool):
  ∃v,(Instr.lookup t (.map (some b)) k ok).run P w= .ok (bif ok then .tuple #[v,.bool (m k).isSome] else v) w∧match m k with | some c=>VR σ c v | none=>v=v0:=by
 cases hm:m k with
 | none=>
  refine ⟨v0,?_,rfl⟩
  cases ok <;> simp [Instr.lookup,run_underlying ht,MapKept.run_getObj_map ho,run_checkKey hkt hk,run_findKey hkt (hM.none hk hm),Result.andThen,hz]
 | some c=>
  obtain ⟨j,e,h6,h7,h8,h9⟩:=hM.some hk hm
  refine ⟨e.val,?_,h9⟩
  cases ok <;> simp [Instr.lookup,run_underlying ht,MapKept.run_getObj_map ho,run_checkKey hkt hk,run_findKey hkt h6,Result.andThen]
theorem lj (i:Nat) {b kt et:Nat} {kd:TypeDesc} {k v0:Value} {m:Value→Option AV} {c0:AV} (ht:P.underlying t=some (.map kt et)) (hkt:P.underlying kt=some kd) (hx:bt fr x=some (.sc (.map (some b)))) (hy:bt fr y=some (.sc k)) (hk:IsKey kd k) (hL:L[i]?=some (b,dc kd m)) (hz:∀w,(zeroValue et).run P w= .ok v0 w) (h0:∀σ,VR σ c0 v0):
  AO P ⟨d,.lookup t x y false,ty,pos,af,g⟩ fr B L (fun c L'=>c=(m k).getD c0∧L'=L):=by
 intro σ ρ w hρ hw
 obtain ⟨o,ho,hM⟩:=hw.here _ (Hw hL)
 have hM':kz kd m σ o:=hM
 obtain ⟨es,clock,rfl,_⟩:=hM'
 obtain ⟨v,hr,hv⟩:=qo (t:=t) ht hkt hk ho hM (hz w) false
 unfold gU
 rw [show (execOp ρ ⟨d,.lookup t x y false,ty,pos,af,g⟩).run P w= .ok (.value v) w by simp only [execOp,(hρ x _ hx).sc_inv,(hρ y _ hy).sc_inv,Sem.run_bind,Sem.run_pure,Result.andThen,hr];rfl]
 refine ⟨σ,(m k).getD c0,_,ci.le_refl _,?_,hw,rfl,rfl⟩
 cases hm:m k with
 | none=>rw [hm] at hv;dsimp only at hv;subst hv;exact h0 σ
 | some c=>rw [hm] at hv;exact hv
theorem vc (i:Nat) {b kt et:Nat} {kd:TypeDesc} {k v0:Value} {m:Value→Option AV} {c0:AV} (ht:P.underlying t=some (.map kt et)) (hkt:P.underlying kt=some kd) (hx:bt fr x=some (.sc (.map (some b)))) (hy:bt fr y=some (.sc k)) (hk:IsKey kd k) (hL:L[i]?=some (b,dc kd m)) (hz:∀w,(zeroValue et).run P w= .ok v0 w) (h0:∀σ,VR σ c0 v0):
  AO P ⟨d,.lookup t x y true,ty,pos,af,g⟩ fr B L (fun c L'=>c= .tup [(m k).getD c0,.sc (.bool (m k).isSome)]∧L'=L):=by
 intro σ ρ w hρ hw
 obtain ⟨o,ho,hM⟩:=hw.here _ (Hw hL)
 have hM':kz kd m σ o:=hM
 obtain ⟨es,clock,rfl,_⟩:=hM'
 obtain ⟨v,hr,hv⟩:=qo (t:=t) ht hkt hk ho hM (hz w) true
 unfold gU
 rw [show (execOp ρ ⟨d,.lookup t x y true,ty,pos,af,g⟩).run P w= .ok (.value (.tuple #[v,.bool (m k).isSome])) w by simp only [execOp,(hρ x _ hx).sc_inv,(hρ y _ hy).sc_inv,Sem.run_bind,Sem.run_pure,Result.andThen,hr];rfl]
 refine ⟨σ,.tup [(m k).getD c0,.sc (.bool (m k).isSome)],_,ci.le_refl _,?_,hw,rfl,rfl⟩
 have h1:VR σ ((m k).getD c0) v:=by
  cases hm:m k with
  | none=>rw [hm] at hv;dsimp only at hv;subst hv;exact h0 σ
  | some c=>rw [hm] at hv;exact hv
 have h2:dv σ [(m k).getD c0,.sc (.bool (m k).isSome)] [v,.bool (m k).isSome]:= .cons h1 (.cons (.sc _) .nil)
 exact .tup _ _ h2.1 h2.2
def lf (P:Program) (e:Nat) (v:Value):Bool:=match P.info? e with | some i=>(match i.zero with | some z=>xA z v | none=>false) | none=>false
theorem fS {e:Nat} {v:Value} (h:lf P e v=true) (w:World):(zeroValue e).run P w= .ok v w:=by
 unfold lf at h
 split at h
 ·rename_i i hi
  split at h
  ·rename_i z hz
   rw [←qK h]
   simp [zeroValue,typeInfo,hi,hz]
  ·cases h
 ·cases h
end
section
variable {P:Program} {r:Option Nat} {ops:Array Oper} {Q:Exit→Act→World→Prop} {nt:Nat} {D:List Deferred} {fr:c6} {B:Bs} {L:AL} {rest:List Oper} {d:Nat} {ty t:TypeId} {pos:String} {af:Array Edge} {x y z:Operand} {u:AV}
theorem gz (kd:TypeDesc) (h:∀b,bO P r ops Q nt D rest ((d,.sc (.map (some b)))::fr) B ((b,dc kd fun _=>none)::L)) (hd:Nat.ble nt d=false:=by rfl):bO P r ops Q nt D (⟨some d,.makeMap t none,ty,pos,af,none⟩::rest) fr B L:=
 cU hd rfl (pj kd) fun c L' ⟨b,h1,h2⟩=>by subst h1;subst h2;exact h b
theorem ee (i:Nat) (m':Value→Option AV) {b kt et:Nat} {kd:TypeDesc} {k:Value} {m:Value→Option AV} (ht:P.underlying t=some (.map kt et)) (hkt:P.underlying kt=some kd) (hx:bt fr x=some (.sc (.map (some b)))) (hy:bt fr y=some (.sc k)) (hk:IsKey kd k) (hz:bt fr z=some u) (hL:L[i]?=some (b,dc kd m)) (h1:m' k=some u) (h2:∀q,q≠k→m' q=m q)
  (h:bO P r ops Q nt D rest fr B (fi L i (dc kd m'))):bO P r ops Q nt D (⟨none,.mapUpdate t x y z,ty,pos,af,none⟩::rest) fr B L:=
 kE rfl (rZ i ht hkt hx hy hk hz hL h1 h2) fun c L' h3=>by subst h3;exact h
theorem u9 (i:Nat) (v0:Value) {b kt et:Nat} {kd:TypeDesc} {k:Value} {m:Value→Option AV} (ht:P.underlying t=some (.map kt et)) (hkt:P.underlying kt=some kd) (hx:bt fr x=some (.sc (.map (some b)))) (hy:bt fr y=some (.sc k)) (hk:IsKey kd k) (hL:L[i]?=some (b,dc kd m)) (hz:lf P et v0=true) (hd:Nat.ble nt d=false)
  (h:bO P r ops Q nt D rest ((d,(m k).getD (.sc v0))::fr) B L):bO P r ops Q nt D (⟨some d,.lookup t x y false,ty,pos,af,none⟩::rest) fr B L:=
 cU hd rfl (lj i ht hkt hx hy hk hL (fS hz) fun _=> .sc _) fun c L' ⟨h1,h2⟩=>by subst h1;subst h2;exact h
theorem lB (i:Nat) (v0:Value) {b kt et:Nat} {kd:TypeDesc} {k:Value} {m:Value→Option AV} (ht:P.underlying t=some (.map kt et)) (hkt:P.underlying kt=some kd) (hx:bt fr x=some (.sc (.map (some b)))) (hy:bt fr y=some (.sc k)) (hk:IsKey kd k) (hL:L[i]?=some (b,dc kd m)) (hz:lf P et v0=true) (hd:Nat.ble nt d=false)
  (h:bO P r ops Q nt D rest ((d,.tup [(m k).getD (.sc v0),.sc (.bool (m k).isSome)])::fr) B L):bO P r ops Q nt D (⟨some d,.lookup t x y true,ty,pos,af,none⟩::rest) fr B L:=
 cU hd rfl (vc i ht hkt hx hy hk hL (fS hz) fun _=> .sc _) fun c L' ⟨h1,h2⟩=>by subst h1;subst h2;exact h
end
end Go.Proofs.YtpbinloeemebkaaGreat
namespace Go.Proofs.YtpbinloeemebkaaGreat
open Go.RowKit
section
variable {P:Program} {tt:TT} {r:Option Nat} {ops:Array Oper} {Q:Exit→Act→World→Prop} {nt:Nat} {D:List Deferred} {fr:c6} {B:Bs} {L:AL} {rest:List Oper} {d:Nat} {ty t:TypeId} {pos:String} {af:Array Edge} {x y z:Operand} {u:AV}
theorem jb (ok:ev P tt) (n:Nat) {e sz by_:Nat} {k k':IntKind} {a b:Int} {zs:List Value} (ht:jt tt t=some (e,sz,by_)) (hz:zI tt e=some zs) (h1:zs.all (·.oneCell')=true) (hx:bt fr x=some (.sc (.int k a))) (hy:bt fr y=some (.sc (.int k' b))) (ha:a=(n:Int)) (hb:b=(n:Int)) (hby:by_ * n≤281474976710656) (h63:n≤9223372036854775807) (hd:Nat.ble nt d=false)
  (h:∀b,bO P r ops Q nt D rest ((d,.sc (.slice (some ⟨b,0,none⟩) n n))::fr) B ((b,.box ((List.replicate n (zs.map .sc)).flatten) e)::L)):bO P r ops Q nt D (⟨some d,.makeSlice t x y,ty,pos,af,none⟩::rest) fr B L:=
 cU hd rfl (Ck (bq ok ht).1 (fw ok hz) h1 (bq ok ht).2 hx hy ha hb hby h63) fun c L' ⟨b,h1,h2⟩=>by subst h1;subst h2;exact h b
theorem bb {f:FuncId} {args:Array Operand} {ts:Array TypeId} {cs ds:List AV} {Post:AV→AL→Prop} [bK P f] (Lc Lf:AL) (hc:AC P f ds Lc Post) (hv:ep fr args.toList=some cs) (hi:kT cs=some ds) (hL:L.Perm (Lc++Lf)) (hd:Nat.ble nt d=false) (h:∀c L1,Post c L1→bO P r ops Q nt D rest ((d,c)::fr) B (L1++Lf)):
  bO P r ops Q nt D (⟨some d,.call ⟨.value (.func f),args,ts⟩,ty,pos,af,none⟩::rest) fr B L:=by
 have hc':=hc
 rw [←ic hi] at hc'
 refine cU hd rfl (mB Lc Lf hv (fun σ vs h=>h.im) hL hc') fun c L' hh=>?_
 obtain ⟨L1,h1,h2⟩:=hh
 subst h2
 exact h c L1 h1
theorem jV {σ0:ci} {l:Nat} {args:Array Operand} {ts:Array TypeId} {cs ds:List AV} {Post:AV→AL→Prop} (Lc Lf:AL) (hB:σ0.le B.σ) (hc:AY P σ0 l ds Lc Post) (hz:bt fr z=some (.sc (.func (.yield l) #[] #[]))) (hv:ep fr args.toList=some cs) (hi:kT cs=some ds) (hL:L.Perm (Lc++Lf)) (hn:Oper.noDefer ⟨some d,.call ⟨.value z,args,ts⟩,ty,pos,af,none⟩=true) (hd:Nat.ble nt d=false) (h:∀c L1,Post c L1→bO P r ops Q nt D rest ((d,c)::fr) B (L1++Lf)):
  bO P r ops Q nt D (⟨some d,.call ⟨.value z,args,ts⟩,ty,pos,af,none⟩::rest) fr B L:=by
 have hc':=hc
 rw [←ic hi] at hc'
 refine cU hd hn (zT hB Lc Lf hz hv (fun σ vs h=>h.im) hL hc') fun c L' hh=>?_
 obtain ⟨L1,h1,h2⟩:=hh
 subst h2
 exact h c L1 h1
theorem eY {e:Exit} {L':AL} (hs:L'.Sublist L) (h:AX P e Q nt D fr B L'):AX P e Q nt D fr B L:=fun σ a w ha hw=>h σ a w ha (hw.sublist hs)
end
theorem xy {σ:ci} {cs cs':List AV} {vs:List Value} (hl:cs.length=cs'.length) (h:∀(i:Nat) c c',cs[i]?=some c→cs'[i]?=some c'→∀v,VR σ c v→VR σ c' v) (hv:dv σ cs vs):dv σ cs' vs:=by
 refine ⟨hl.symm.trans hv.1,fun i c' u hc hu=>?_⟩
 have hi:i < cs.length:=by rw [hl];exact (Hp hc).1
 exact h i _ c' (Hz hi) hc _ (hv.2 i _ u (Hz hi) hu)
theorem bE {nt:Nat} {D:List Deferred} {B:Bs} {fr:c6} {L:AL} (i:Nat) {b:Nat} {cs cs':List AV} {e:TypeId} (hL:L[i]?=some (b,.box cs e)) (h:∀σ vs,dv σ cs vs→dv σ cs' vs):mx nt D B fr L fr (fi L i (.box cs' e)):=by
 intro σ a w ha hw0
 have hw:=hw0.perm (fh hL)
 obtain ⟨o,ho,vs,rfl,hvs,h1⟩:=hw.here _ (List.mem_cons_self ..)
 refine ⟨σ,ha,cZ.perm (L:=(b,.box cs' e)::L.eraseIdx i) ?_ (r8 _ hL)⟩
 refine ⟨hw.os,hw.tape,hw.output,hw.size,hw.old,fun p hp=>?_,fun p hp=>?_,by simpa using hw.apart,hw.froz,fun p hp off hm=>?_,hw.grow,hw.same⟩
 ·rcases List.mem_cons.1 hp with rfl | hp'
  ·exact ⟨_,ho,vs,rfl,h σ vs hvs,h1⟩
  ·exact hw.here p (Ht _ hp')
 ·rcases List.mem_cons.1 hp with rfl | hp'
  ·exact hw.mine (b,.box cs e) (List.mem_cons_self ..)
  ·exact hw.mine p (Ht _ hp')
 ·rcases List.mem_cons.1 hp with rfl | hp'
  ·exact hw.free (b,.box cs e) (List.mem_cons_self ..) off trivial
  ·exact hw.free p (Ht _ hp') off hm
theorem gh {cs:List AV} {k:Nat} {c:AV}:gg cs k [c]=cs.set k c:=rfl
end Go.Proofs.YtpbinloeemebkaaGreat
namespace Go.Proofs.YtpbinloeemebkaaGreat
open Go.RowKit
attribute [local irreducible] AT bO AX AO Av Kt bo dU DA cT
def BO (n:Nat):List (List Int)→Nat
 | []=>n
 | q::r=>if n≤2000 then BO (n+1+q.length) r else n
def DJ (n:Nat):List (List (List Int))→Nat
 | []=>n
 | s::r=>DJ (BO n s) r
def F2 (n:Nat) (r:bv):Nat:=DJ (n+r.Out.length+r.Calls.length) [r.Back,r.In,r.Ahead]
def xm (n:Nat):List bv→Nat
 | []=>n
 | r::rs=>if n≤2000 then xm (F2 n r) rs else n
def sw:Nat:=140737488355328
structure zA (r:bv):Prop where
 out:r.Out.length≤sw
 calls:r.Calls.length≤sw
 sets:∀s∈[r.Back,r.In,r.Ahead],s.length≤sw∧∀q∈s,q.length≤sw
def H1 (g n t:Nat):Prop:=(n+t≤2000→g=n+t)∧(2000 < n+t→2000 < g)
def Ga {α:Type} (g:α→Nat) (n:Nat):List α→Nat
 | []=>n
 | a::l=>if n≤2000 then Ga g (n+g a) l else n
structure Fd (f:aL):Prop where
 top:f.Glyphs.length≤140737488355328∧f.Chars.length≤140737488355328∧f.Lookups.length≤140737488355328∧f.Features.length≤140737488355328∧f.Axes.length≤140737488355328∧f.Regions.length≤140737488355328∧f.Funcs.length≤140737488355328∧f.Cvt.length≤140737488355328
 glyph:∀g∈f.Glyphs,g.Points.length≤140737488355328∧g.Parts.length≤140737488355328∧g.Anchors.length≤140737488355328∧g.Deltas.length≤140737488355328∧g.Hint.length≤140737488355328∧g.Name.size≤140737488355328
 rules:∀l∈f.Lookups,l.Rules.length≤140737488355328∧∀r∈l.Rules,zA r
 funcs:∀c∈f.Funcs,c.length≤140737488355328
 feats:∀t∈f.Features,t.Lookups.length≤140737488355328∧t.Name.size≤140737488355328
 regions:∀r∈f.Regions,r.length≤140737488355328
 axes:∀a∈f.Axes,a.Name.size≤140737488355328
def GJ (l:aP):Nat:=xm l.Rules.length l.Rules
def Ha (f:aL):Nat:=f.Glyphs.length+f.Chars.length+f.Lookups.length+f.Features.length+f.Axes.length+f.Regions.length+f.Funcs.length+f.Cvt.length
end Go.Proofs.YtpbinloeemebkaaGreat
namespace Go.Proofs.YtpbinloeemebkaaGreat
open Go.ChangeShapes Go.WideShapes Go.ChangeAt Go.RowKit Go.Deep Go.Joins
def lM (W:World):ci:=fun b off=>W.cell? ⟨b,off,none⟩
theorem B9 (W:World):cZ ⟨W,lM W,[]⟩ (lM W) [] W:=⟨rfl,rfl,rfl,Nat.le_refl _,fun _ _ _=>rfl,by simp,by simp,by simp,fun _ _ _ h=>h,by simp,ci.le_refl _,fun _ _ _ _=>rfl⟩
section
variable {H:Type} {enc:TypeId×Value→H} {P:Program} {W:World}
def sU (P:Program) (t:TypeId) (d:DataW H):Prop:=∀n∈d.weights P t,n≤reachBytes
def DD (enc:TypeId×Value→H) (P:Program) (W:World) (t:TypeId) {α:Type} (c:α→List AV) (fits:α→Prop):Prop:=
 ∀fuel cs x,DataW.trod enc P W 0 (fun _=>true) true fuel t cs=some x→sU P t x.1→∃a,dv (lM W) (c a) cs∧(∀u∈cs,u.oneCell'=true)∧fits a
theorem DD.map {t:TypeId} {α β:Type} {c:α→List AV} {c':β→List AV} {fits:α→Prop} {fits':β→Prop} (h:DD enc P W t c fits) (g:α→β) (hc:∀a,c a=c' (g a)) (hf:∀a,fits a→fits' (g a)):DD enc P W t c' fits':=fun fuel cs x h1 h2=>by
 obtain ⟨a,k1,k2,k3⟩:=h fuel cs x h1 h2
 exact ⟨g a,by rw [←hc];exact k1,k2,hf a k3⟩
theorem D9 {t:TypeId} (ht:P.underlying t=some (.int .i64)):DD enc P W t (fun z:Int=>[aH z]) (fun _=>True):=fun fuel cs x h _=>by
 obtain ⟨z,rfl,-,-⟩:=DataW.trod_int ht h
 exact ⟨z,dv.cons (.sc _) dv.nil,by intro u hu;rw [Hm hu];rfl,trivial⟩
theorem pZ {e:TypeId} {l:List (DataW H)} {d:DataW H} (hd:d∈l) {n:Nat} (hn:n∈d.weights P e):n∈DataW.weightsAll P e l:=by
 induction l with
 | nil=>cases hd
 | cons y l ih=>
  rw [DataW.weightsAll,List.mem_append]
  rcases List.mem_cons.1 hd with rfl | h
  ·exact .inl hn
  ·exact .inr (ih h)
theorem yG {t e:TypeId} {sz:Nat} {α:Type} [Inhabited α] {c:α→List AV} {fits:α→Prop} (ht:P.underlying t=some (.slice e)) (hb:0 < P.bytesOf e) (hs:P.cellsOf e=sz) (h0:0 < sz) (he:DD enc P W e c fits) (hc:∀a,(c a).length=sz):
  DD enc P W t (fun l:List α=>[.imm sz (l.map c)]) (fun l=>l.length≤reachBytes∧∀a∈l,fits a):=fun fuel cs x h hl=>by
 rcases open_slice ht h with ⟨rfl,rfl⟩ | ⟨a,len,cap,m,n,D,Pl,rfl,_,hlc,hm,hmm,rfl,hx⟩
 ·exact ⟨[],dv.cons (ke sz (.sc _)) dv.nil,by intro u hu;rw [Hm hu];rfl,Nat.zero_le _,by simp⟩
 have hmle:len≤m:=by rw [hmm];split <;> omega
 have hw:∀n∈(len+(m - len)) * P.bytesOf e::(DataW.weightsAll P e ((List.range len).map D)++DataW.weightsAll P e ((List.range (m - len)).map fun j=>D (len+j))),n≤reachBytes:=by
  intro n hn
  refine hl n ?_
  show n∈DataW.weights P t (.slice _ _)
  rw [DataW.weights,ht]
  simpa using hn
 have hlen:len≤reachBytes:=by
  have h1:=hw _ (List.mem_cons_self ..)
  have h2:len≤(len+(m - len)) * P.bytesOf e:=Nat.le_trans (Nat.le_add_right _ _) (Nat.le_mul_of_pos_right _ hb)
  omega
 have each:∀i,i < len→∃q:α×List Value,W.cells? 0 (a.add (i * sz)) sz=some q.2∧dv (lM W) (c q.1) q.2∧(∀u∈q.2,u.oneCell'=true)∧fits q.1:=by
  intro i hi
  obtain ⟨cs',h1,h2⟩:=hx i (by omega)
  rw [hs] at h1
  obtain ⟨a',k1,k2,k3⟩:=he n cs' _ h2 (fun n hn=>hw n (Ht _ (List.mem_append_left _ (pZ (List.mem_map.2 ⟨i,List.mem_range.2 hi,rfl⟩) hn))))
  exact ⟨(a',cs'),h1,k1,k2,k3⟩
 obtain ⟨f,hf⟩:=choose_lt each
 refine ⟨(List.range len).map fun i=>(f i).1,dv.cons ?_ dv.nil,by intro u hu;rw [Hm hu];rfl,by simpa using hlen,?_⟩
 ·have hll:(((List.range len).map fun i=>(f i).1).map c).length=len:=by simp
  have hcell:∀i,i < len→∀j,j < sz→W.cell? (a.add (i * sz+j))=(f i).2[j]?:=by
   intro i hi j hj
   have:=(World.cells?_some (hf i hi).1).2.2 j hj
   rw [add_add] at this
   exact this
  have hcl:∀i,i < len→(f i).2.length=sz:=fun i hi=>(World.cells?_some (hf i hi).1).2.1
  have hnone:0 < len→∃b off,a=⟨b,off,none⟩:=by
   intro hp
   have h1:=hcell 0 hp 0 h0
   rw [Nat.zero_mul,Nat.zero_add,Hz (by rw [hcl 0 hp];exact h0)] at h1
   obtain ⟨b,off,sp⟩:=a
   have e:(⟨b,off,sp⟩:Addr).add 0=⟨b,off,sp⟩:=by simp [Addr.add]
   rw [e] at h1
   cases sp with
   | some s=>
    simp only [World.cell?] at h1
    split at h1
    ·simp at h1
    ·cases h1
   | none=>exact ⟨b,off,rfl⟩
  have hmem:∀b off,a=⟨b,off,none⟩→∀i,i < len→∀j,j < sz→lM W b (off+i * sz+j)=(f i).2[j]?:=by
   intro b off ha i hi j hj
   have:=hcell i hi j hj
   rw [ha] at this
   show W.cell? ⟨b,off+i * sz+j,none⟩=_
   rw [←this]
   have e:(⟨b,off,none⟩:Addr).add (i * sz+j)=⟨b,off+(i * sz+j),none⟩:=by
    unfold Addr.add
    by_cases h:i * sz+j=0
    ·rw [if_pos h,h,Nat.add_zero]
    ·rw [if_neg h]
   rw [e,Nat.add_assoc]
  have hgo:=VR.imm (σ:=lM W) sz (((List.range len).map fun i=>(f i).1).map c) (some a) cap (by rw [hll];exact hlc) hm (fun e he=>by
    obtain ⟨y,_,rfl⟩:=List.mem_map.1 he
    exact hc y) (fun hne=>by
    have:0 < len:=by
     rcases Nat.eq_zero_or_pos len with h | h
     ·subst h;exact absurd rfl hne
     ·exact h
    obtain ⟨b,off,rfl⟩:=hnone this
    exact ⟨b,off,rfl⟩) (fun i b off j hA hi hj=>by
    rw [hll] at hi
    injection hA with hA
    have h1:=hmem b off hA i hi j hj
    have h2:j < (f i).2.length:=by rw [hcl i hi];exact hj
    rw [Hz h2] at h1
    exact ⟨_,h1,(hf i hi).2.2.1 _ (List.getElem_mem h2)⟩) (fun i e b off j c' u hi hA hj hu=>by
    injection hA with hA
    have hil:i < len:=by have:=(Hp hi).1;simpa using this
    rw [List.getElem?_map,List.getElem?_map,List.getElem?_range hil] at hi
    simp only [Option.map_some,Option.some.injEq] at hi
    subst hi
    have hjs:j < sz:=by rw [←hc (f i).1];exact (Hp hj).1
    rw [hmem b off hA i hil j hjs] at hu
    exact (hf i hil).2.1.2 j c' u hj hu)
  rw [hll] at hgo
  exact hgo
 ·intro y hy
  obtain ⟨i,hi,rfl⟩:=List.mem_map.1 hy
  exact (hf i (List.mem_range.1 hi)).2.2.2
def H2 (enc:TypeId×Value→H) (P:Program) (W:World) (N o:Nat) (fs:List Field) {β:Type} (c:β→List AV) (fits:β→Prop):Prop:=
 ∀(n:Nat) (cs:List Value) (xs:List (DataW H×List MemPlace)),cs.length=N→xs.length=fs.length→(∀(i:Nat) (f:Field),fs[i]?=some f→DataW.trod enc P W 0 (fun _=>true) true n f.type ((cs.drop f.offset).take (P.cellsOf f.type))=xs[i]?)→
  (∀k∈DataW.weightsEach P (fs.map (·.type)) (xs.map (·.1)),k≤reachBytes)→∃b,dv (lM W) (c b) (cs.drop o)∧(∀u∈cs.drop o,u.oneCell'=true)∧fits b
end
end Go.Proofs.YtpbinloeemebkaaGreat
namespace Go.Proofs.YtpbinloeemebkaaGreat
open Go.ChangeShapes Go.WideShapes Go.ChangeAt Go.RowKit Go.Deep Go.Joins
section
variable {H:Type} {enc:TypeId×Value→H} {W:World}
abbrev Gp {α:Type} (l:List α):Prop:=l.length≤reachBytes
abbrev H4 {α:Type}:α→Prop:=fun _=>True
theorem o3:DD enc Tryz.prog W 3 (fun z:Int=>[aH z]) H4:=D9 Tryz.underlying3
theorem H8:DD enc Tryz.prog W 29 (fun l:List Int=>[.imm 1 (aS l)]) Gp:=(yG Tryz.underlying29 (Hy (by kernel_rfl)) (by kernel_rfl) Nat.one_pos o3 (fun _=>rfl)).map id (fun _=>rfl) fun _ h=>h.1
end
theorem Tryz.own:ownKnob Tryz.prog.godebug=none:=by kernel_rfl
theorem Tryz.laidOut:laidOutB Tryz.prog=true:=by kernel_rfl
theorem yc {P:Program} {f:FuncId} {args:List AV} {u:Value} (h:bM P f args (.sc u)) (W:World) (vs:List Value) (hv:dv (lM W) args vs):Calls P f vs.toArray W fun e W'=>∃v,e= .returned v∧Below W.heap.size W W'∧v=u:=
 (h (lM W) W vs hv (B9 W)).mono fun e W' ⟨v,τ,c,L',he,hr,hst,hc⟩=>by
  subst hc
  exact ⟨v,he,⟨hst.os,hst.tape,hst.output,hst.size,fun k hk=>hst.old k hk (by simp)⟩,hr.sc_inv⟩
section
variable {H:Type} {enc:TypeId×Value→H} {W:World}
set_option maxRecDepth 100000 in
theorem mg {base:Nat} {v:Value} {d:DataW H} {p:List MemPlace} (hok:Value.okWide Tryz.prog W .any base 29 v) (h:DataW.Trod enc Tryz.prog W 0 (fun _=>true) true 29 v d p) (hl:sU Tryz.prog 29 d):∃l,VR (lM W) (.imm 1 (aS l)) v:=by
 obtain ⟨a0,len,cap,rfl⟩:=okWide_slice Tryz.underlying29 hok
 obtain ⟨fuel,hf⟩:=h
 obtain ⟨l,h1,_⟩:=H8 (enc:=enc) fuel [.slice a0 len cap] _ (by simpa [Value.cells] using hf) hl
 exact ⟨l,h1.2 0 _ _ rfl rfl⟩
end
end Go.Proofs.YtpbinloeemebkaaGreat
