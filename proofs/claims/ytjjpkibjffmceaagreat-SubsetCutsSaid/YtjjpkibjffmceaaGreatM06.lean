/-
  The document's answer: sets.
-/
import Derived.Test.YtjjpkibjffmceaaGreatM05
import Derived.Test.YtjjpkibjffmceaaGreatM04
import Derived.MapKept
import Derived.Test.YtjjpkibjffmceaaGreatRows
import Derived.WalkKit
import Derived.ProofKit
import Derived.OpenShut
import Derived.ShutString
import Derived.ChangeOld
import Derived.Below
import Derived.Deep.Slices
import Derived.Deep.SlicePairs
import Derived.Lib.SmallJoins
import Derived.SizedLaws
namespace Go.Proofs.YtjjpkibjffmceaaGreat
open Go.RowKit
attribute [local irreducible] AT cg AX AO Av Kt bJ eC DA du
def mv (l:List Int) (n:Nat):List Int:=((List.range n).map Int.ofNat).filter (l.contains ·)
theorem eh (a b:List Int):aS a++aS b=aS (a++b):=by simp [aS]
end Go.Proofs.YtjjpkibjffmceaaGreat
namespace Go.Proofs.YtjjpkibjffmceaaGreat
open Go.RowKit
abbrev aP (z:Int):AV:= .sc (.int .i64 z)
abbrev gW (s:ByteArray):AV:= .sc (.string s)
abbrev cM (b:Bool):AV:= .sc (.bool b)
structure eU where
 X:Int
 Y:Int
 On:Bool
structure cD where
 Glyph:Int
 X:Int
 Y:Int
structure dv where
 Kind:Int
 Class:Int
 X:Int
 Y:Int
structure dK where
 Region:Int
 Point:Int
 X:Int
 Y:Int
structure ep where
 Op:Int
 A:Int
structure bL where
 Name:ByteArray
 Advance:Int
 Mark:Bool
 Points:List eU
 Ends:List Int
 Parts:List cD
 Anchors:List dv
 Deltas:List dK
 Hint:List ep
structure ey where
 Rune:Int
 Glyph:Int
structure gy where
 At:Int
 Lookup:Int
structure cb where
 Back:List (List Int)
 In:List (List Int)
 Ahead:List (List Int)
 Out:List Int
 Calls:List gy
 X:Int
structure bj where
 Kind:Int
 Ignore:Bool
 Rules:List cb
structure bX where
 Name:ByteArray
 Lookups:List Int
structure eB where
 Name:ByteArray
 Min:Int
 Def:Int
 Max:Int
structure eo where
 Start:Int
 Peak:Int
 End:Int
structure aL where
 Unit:Int
 Glyphs:List bL
 Chars:List ey
 Lookups:List bj
 Features:List bX
 Axes:List eB
 Regions:List (List eo)
 Funcs:List (List ep)
 Cvt:List Int
def bw (l:List (List Int)):List (List AV):=l.map fun q=>[.imm 1 (aS q)]
def gP (l:List ByteArray):List (List AV):=l.map fun s=>[gW s]
def dC (p:eU):List AV:=[aP p.X,aP p.Y,cM p.On]
def ct (p:cD):List AV:=[aP p.Glyph,aP p.X,aP p.Y]
def cB (p:dv):List AV:=[aP p.Kind,aP p.Class,aP p.X,aP p.Y]
def dm (p:dK):List AV:=[aP p.Region,aP p.Point,aP p.X,aP p.Y]
def ea (p:ep):List AV:=[aP p.Op,aP p.A]
def bh (g:bL):List AV:=[gW g.Name,aP g.Advance,cM g.Mark,.imm 3 (g.Points.map dC),.imm 1 (aS g.Ends),.imm 3 (g.Parts.map ct),.imm 4 (g.Anchors.map cB),.imm 4 (g.Deltas.map dm),.imm 2 (g.Hint.map ea)]
def cm (c:ey):List AV:=[aP c.Rune,aP c.Glyph]
def dI (c:gy):List AV:=[aP c.At,aP c.Lookup]
def bE (r:cb):List AV:=[.imm 1 (bw r.Back),.imm 1 (bw r.In),.imm 1 (bw r.Ahead),.imm 1 (aS r.Out),.imm 2 (r.Calls.map dI),aP r.X]
def bi (l:bj):List AV:=[aP l.Kind,cM l.Ignore,.imm 6 (l.Rules.map bE)]
def bv (t:bX):List AV:=[gW t.Name,.imm 1 (aS t.Lookups)]
def cC (a:eB):List AV:=[gW a.Name,aP a.Min,aP a.Def,aP a.Max]
def fX (t:eo):List AV:=[aP t.Start,aP t.Peak,aP t.End]
def bI (r:List eo):List AV:=[.imm 3 (r.map fX)]
def cL (l:List ep):List AV:=[.imm 2 (l.map ea)]
def ci (f:aL):List AV:=[aP f.Unit,.imm 9 (f.Glyphs.map bh),.imm 2 (f.Chars.map cm),.imm 3 (f.Lookups.map bi),.imm 2 (f.Features.map bv),.imm 4 (f.Axes.map cC),.imm 1 (f.Regions.map bI),.imm 1 (f.Funcs.map cL),.imm 1 (aS f.Cvt)]
abbrev cr (f:aL):AV:= .agg (ci f)
theorem bA {α:Type} {c:α→List AV} {l:List α} {i:Nat} {a:α} (h:l[i]?=some a):(l.map c)[i]?=some (c a):=by simp [h]
theorem gh (l:List ByteArray):(gP l).length=l.length:=by simp [gP]
theorem jT {l:List ByteArray} {i:Nat} {z:ByteArray} (h:l[i]?=some z):(gP l)[i]?=some [gW z]:=by simp [gP,h]
theorem fe (l:List (List Int)):(bw l).length=l.length:=by simp [bw]
theorem iP {l:List (List Int)} {i:Nat} {z:List Int} (h:l[i]?=some z):(bw l)[i]?=some [.imm 1 (aS z)]:=by simp [bw,h]
end Go.Proofs.YtjjpkibjffmceaaGreat
namespace Go.Proofs.YtjjpkibjffmceaaGreat
open Go.RowKit
attribute [local irreducible] AT cg AX AO Av Kt bJ eC DA du
def fR (l:List ByteArray) (s:ByteArray):Bool:=l.any fun t=>decide (t=s)
theorem pZ {l:List ByteArray} {s:ByteArray}:fR l s=true↔s∈l:=by
 unfold fR
 rw [List.any_eq_true]
 constructor
 ·rintro ⟨t,h1,h2⟩;rw [←Jy h2];exact h1
 ·intro h;exact ⟨s,h,decide_eq_true rfl⟩
def mT (f:aL) (n:Int):Bool:=match f.Lookups[n.toNat]? with
 | some l=>decide (0≤n∧(l.Kind=1∨l.Kind=2∨l.Kind=3∨l.Kind=4))
 | none=>false
theorem se (f:aL) (n:Int):bZ Tryz.prog 50 [cr f,aP n] (cM (mT f n)):=by
 refine aX Tryz.func50 rfl Tryz.ntmps50 rfl fun B=>?_
 repeat' (first|refine go ?_|refine IG a6 EV ?_|refine bD ?_|fail)
 refine ej [1,2] (n < 0∨(f.Lookups.length:Int)≤n) rfl (fun Q' K=>?_) (fun hC=>?_) (fun hC=>?_)
 ·repeat' (first|refine go ?_|refine IG a6 EV ?_|refine IR EV ?_|refine IT IC ?_|refine bF rfl rfl rfl (fun _=>?_) (fun _=>?_))
  all_goals exact K _ _ rfl rfl (by simp_all <;> omega)
 ·repeat' (first|refine go ?_|refine IG a6 EV ?_)
  refine IM EV ?_
  unfold mT
  split
  ·rename_i l hl
   have:=(Jo hl).1
   rw [decide_eq_false (by omega)]
  ·rfl
 ·obtain ⟨l,hl⟩:∃l,f.Lookups[n.toNat]?=some l:=⟨_,Jz (by omega)⟩
  have hlg:=bA (c:=bi) hl
  have hcn:mT f n=decide (l.Kind=1∨l.Kind=2∨l.Kind=3∨l.Kind=4):=by
   unfold mT
   rw [hl]
   simp only [show 0≤n by omega,true_and]
  rw [hcn]
  repeat' (first|refine go ?_|refine am ?_|refine IG a6 EV ?_|(apply aV;first|refine aU a6 ?_|refine aN a6 ?_)|fail)
  refine au rfl (fun h1=>?_) (fun h1=>?_)
  ·repeat' (first|refine go ?_|fail)
   refine au rfl (fun _=>?_) (fun h'=>absurd (h1.symm.trans h') (by decide))
   repeat' (first|refine go ?_|refine IG a6 EV ?_)
   refine IM EV ?_
   rw [decide_eq_true (Or.inl (Jy h1))]
  repeat' (first|refine go ?_|refine IG a6 EV ?_)
  refine au rfl (fun h2=>?_) (fun h2=>?_)
  ·repeat' (first|refine go ?_|fail)
   refine au rfl (fun _=>?_) (fun h'=>absurd (h2.symm.trans h') (by decide))
   repeat' (first|refine go ?_|refine IG a6 EV ?_)
   refine IM EV ?_
   rw [decide_eq_true (Or.inr (Or.inl (Jy h2)))]
  repeat' (first|refine go ?_|refine IG a6 EV ?_)
  refine au rfl (fun h3=>?_) (fun h3=>?_)
  ·repeat' (first|refine go ?_|fail)
   refine au rfl (fun _=>?_) (fun h'=>absurd (h3.symm.trans h') (by decide))
   repeat' (first|refine go ?_|refine IG a6 EV ?_)
   refine IM EV ?_
   rw [decide_eq_true (Or.inr (Or.inr (Or.inl (Jy h3))))]
  repeat' (first|refine go ?_|refine IG a6 EV ?_)
  refine au rfl (fun h4=>?_) (fun h4=>?_)
  ·repeat' (first|refine go ?_|refine IG a6 EV ?_)
   refine IM EV ?_
   rw [decide_eq_true (Or.inr (Or.inr (Or.inr (Jy h4))))]
  repeat' (first|refine go ?_|refine IG a6 EV ?_)
  refine IM EV ?_
  rw [decide_eq_false]
  intro hh
  rcases hh with hh | hh | hh | hh
  ·exact Jx h1 hh
  ·exact Jx h2 hh
  ·exact Jx h3 hh
  ·exact Jx h4 hh
instance (f:aL) (n:Int):AD Tryz.prog 50 [cr f,aP n] (cM (mT f n)):=⟨se f n⟩
def qD (l:List (List Int)):Nat:=(l.map fun q=>1+q.length).sum
def lS (r:cb):Nat:=r.Out.length+r.Calls.length+(qD r.Back+qD r.In+qD r.Ahead)
def i5 (l:List cb):Nat:=l.length+(l.map lS).sum
def fZ (g:bL):Nat:=g.Points.length+g.Parts.length+g.Anchors.length+g.Deltas.length+g.Hint.length+g.Name.size / 100
def featN (t:bX):Nat:=t.Lookups.length+t.Name.size / 100
def gS (f:aL):Nat:=f.Glyphs.length+f.Chars.length+f.Lookups.length+f.Features.length+f.Axes.length+f.Regions.length+f.Funcs.length+f.Cvt.length+(f.Glyphs.map fZ).sum+(f.Lookups.map fun l=>i5 l.Rules).sum+(f.Funcs.map (·.length)).sum+(f.Features.map featN).sum+(f.Regions.map (·.length)).sum
def dP (f:aL):Prop:=gS f≤2000
theorem tc {α:Type} {g:α→Nat} {l:List α} {a:α} (h:a∈l):g a≤(l.map g).sum:=by
 induction l with
 | nil=>cases h
 | cons b l ih=>
  rw [Jp,List.sum_cons]
  rcases List.mem_cons.1 h with h | h
  ·subst h;omega
  ·have:=ih h;omega
section
variable {f:aL} (hs:dP f)
include hs
theorem dP.glyphs:f.Glyphs.length≤2000:=by unfold dP gS at hs;omega
theorem dP.lookups:f.Lookups.length≤2000:=by unfold dP gS at hs;omega
theorem dP.features:f.Features.length≤2000:=by unfold dP gS at hs;omega
theorem dP.rules {l:bj} (h:l∈f.Lookups):i5 l.Rules≤2000:=by
 have:=tc (g:=fun l:bj=>i5 l.Rules) h
 unfold dP gS at hs
 omega
theorem dP.rulesL {l:bj} (h:l∈f.Lookups):l.Rules.length≤2000:=by
 have:=hs.rules h
 unfold i5 at this
 omega
theorem dP.rule {l:bj} {r:cb} (h:l∈f.Lookups) (hr:r∈l.Rules):lS r≤2000:=by
 have:=hs.rules h
 have:=tc (g:=lS) hr
 unfold i5 at *
 omega
theorem dP.calls {l:bj} {r:cb} (h:l∈f.Lookups) (hr:r∈l.Rules):r.Calls.length≤2000:=by
 have:=hs.rule h hr
 unfold lS at this
 omega
theorem dP.out {l:bj} {r:cb} (h:l∈f.Lookups) (hr:r∈l.Rules):r.Out.length≤2000:=by
 have:=hs.rule h hr
 unfold lS at this
 omega
end
inductive lN (f:aL) (fs:List ByteArray):Int→Prop
 | base {t:bX} {n:Int} (h:t∈f.Features) (hn:fR fs t.Name=true) (hm:n∈t.Lookups) (h0:0≤n) (h1:n < f.Lookups.length):lN f fs n
 | call {m:Int} {l:bj} {r:cb} {c:gy} (h:lN f fs m) (hl:f.Lookups[m.toNat]?=some l) (hk:l.Kind=4) (hr:r∈l.Rules) (hc:c∈r.Calls) (hn:mT f c.Lookup=true):lN f fs c.Lookup
theorem tP {f:aL} {n:Int} (h:mT f n=true):0≤n∧n < f.Lookups.length:=by
 unfold mT at h
 split at h
 ·rename_i l hl
  have:=(Jo hl).1
  have:=Jy h
  omega
 ·cases h
theorem lN.in {f:aL} {fs:List ByteArray} {n:Int} (h:lN f fs n):0≤n∧n < f.Lookups.length:=by
 cases h with
 | base _ _ _ h0 h1=>exact ⟨h0,h1⟩
 | call _ _ _ _ _ h=>exact tP h
theorem CC {l:List Int} {n:Nat} {z:Int}:z∈mv l n↔z∈l∧0≤z∧z < n:=by
 unfold mv
 rw [List.mem_filter,List.mem_map]
 constructor
 ·rintro ⟨⟨i,hi,rfl⟩,h⟩
  rw [List.mem_range] at hi
  refine ⟨by simpa using h,by simp,by simpa using hi⟩
 ·rintro ⟨h,h0,h1⟩
  exact ⟨⟨z.toNat,by rw [List.mem_range];omega,by simp;omega⟩,by simpa using h⟩
theorem wE (l:List Int) (n:Nat):(mv l n).Nodup:=by
 unfold mv
 rw [List.nodup_iff_pairwise_ne]
 refine List.Pairwise.filter _ ?_
 rw [List.pairwise_map]
 exact (List.nodup_iff_pairwise_ne.1 List.nodup_range).imp fun h e=>h (by injection e)
open Classical in
noncomputable def dG (f:aL) (fs:List ByteArray):List Int:=((List.range f.Lookups.length).map Int.ofNat).filter fun z=>decide (lN f fs z)
open Classical in
theorem wF {f:aL} {fs:List ByteArray} {l:List Int} (h:∀z:Int,0≤z→z < f.Lookups.length→(z∈l↔lN f fs z)):mv l f.Lookups.length=dG f fs:=by
 unfold mv dG
 refine List.filter_congr fun z hz=>?_
 rw [List.mem_map] at hz
 obtain ⟨i,hi,rfl⟩:=hz
 rw [List.mem_range] at hi
 have:=h (Int.ofNat i) (by simp) (by simpa using hi)
 rw [Bool.eq_iff_iff,List.contains_iff_mem,decide_eq_true_iff]
 exact this
theorem gc {l:List Int} {n:Nat} (h:l.Nodup) (hi:∀z∈l,0≤z∧z < n):l.length≤n:=by
 induction n generalizing l with
 | zero=>
  cases l with
  | nil=>exact Nat.zero_le _
  | cons a l=>have:=hi a (List.mem_cons_self ..);omega
 | succ n ih=>
  by_cases hm:(n:Int)∈l
  ·have h1:=ih (l:=l.erase n) (h.erase _) fun z hz=>by
    have:=(h.mem_erase_iff).1 hz
    have:=hi z this.2
    omega
   rw [List.length_erase_of_mem hm] at h1
   omega
  ·have:=ih h fun z hz=>by
    have:=hi z hz
    have:z≠n:=fun e=>hm (e▸hz)
    omega
   omega
end Go.Proofs.YtjjpkibjffmceaaGreat
namespace Go.Proofs.YtjjpkibjffmceaaGreat
open Go.RowKit Go.MapKept
def kP (d:TypeDesc) (m:Value→Option AV) (σ:cP) (o:Obj):Prop:=
 ∃es clock,o= .map es clock∧(∀x∈es.toList,IsKey d x.key∧∃c,m x.key=some c∧VR σ c x.val)∧es.toList.Pairwise (fun x y=>x.key≠y.key)∧∀k c,m k=some c→∃x∈es.toList,x.key=k
def cn (d:TypeDesc) (m:Value→Option AV):AB:= .dep (kP d m) fun σ τ o hle ⟨es,clock,h1,h2,h3,h4⟩=>⟨es,clock,h1,fun x hx=>by
 obtain ⟨a,c,e,f⟩:=h2 x hx
 exact ⟨a,c,e,f.mono hle⟩,h3,h4⟩
theorem kP.none {d:TypeDesc} {m:Value→Option AV} {σ:cP} {es:Array MapEntry} {clock:Nat} {k:Value} (h:kP d m σ (.map es clock)) (hk:IsKey d k) (hm:m k=none):Instr.findNow d k es.toList 0=some none:=by
 obtain ⟨es',clock',h1,h2,h3,h4⟩:=h
 cases h1
 rcases findNow_spec hk es.toList 0 (fun x hx=>(h2 x hx).1) with ⟨h5,_⟩ | ⟨j,e,h5,h6,h7⟩
 ·exact h5
 ·obtain ⟨_,c,h8,_⟩:=h2 e (Jw h6)
  rw [h7,hm] at h8
  cases h8
theorem kP.some {d:TypeDesc} {m:Value→Option AV} {σ:cP} {es:Array MapEntry} {clock:Nat} {k:Value} {c:AV} (h:kP d m σ (.map es clock)) (hk:IsKey d k) (hm:m k=some c):∃(j:Nat) (e:MapEntry),Instr.findNow d k es.toList 0=some (some (j,e.val))∧es[j]?=some e∧e.key=k∧VR σ c e.val:=by
 obtain ⟨es',clock',h1,h2,h3,h4⟩:=h
 cases h1
 rcases findNow_spec hk es.toList 0 (fun x hx=>(h2 x hx).1) with ⟨_,h5⟩ | ⟨j,e,h5,h6,h7⟩
 ·obtain ⟨x,hx,hk'⟩:=h4 k c hm
  exact absurd hk' (h5 x hx)
 ·obtain ⟨_,c',h8,h9⟩:=h2 e (Jw h6)
  rw [h7,hm] at h8
  cases h8
  exact ⟨j,e,by simpa using h5,by simpa using h6,h7,h9⟩
section
variable {P:Program} {fr:cw} {B:Bs} {L:AL} {d:Option Tmp} {ty t:TypeId} {pos:String} {af:Array Edge} {g:Option (Nat×Bool)} {x y z:Operand} {u:AV}
theorem vt (kd:TypeDesc):AO P ⟨d,.makeMap t none,ty,pos,af,g⟩ fr B L (fun c L'=>∃b,c= .sc (.map (some b))∧L'=(b,cn kd fun _=>none)::L):=by
 intro σ ρ w hρ hw
 have hr:(execOp ρ ⟨d,.makeMap t none,ty,pos,af,g⟩).run P w= .ok (.value (.map (some w.heap.size))) (w.alloc (.map #[] 0)):=by
  simp [execOp,Instr.makeMap]
 unfold je
 rw [hr]
 exact ⟨σ,_,_,cP.le_refl _,.sc _,hw.alloc _ (cn kd fun _=>Option.none) ⟨#[],0,rfl,by simp,by simp,by simp⟩,_,rfl,rfl⟩
theorem sa (i:Nat) {b kt et:Nat} {kd:TypeDesc} {k:Value} {m m':Value→Option AV} (ht:P.underlying t=some (.map kt et)) (hkt:P.underlying kt=some kd) (hx:bU fr x=some (.sc (.map (some b)))) (hy:bU fr y=some (.sc k)) (hk:IsKey kd k) (hz:bU fr z=some u) (hL:L[i]?=some (b,cn kd m)) (h1:m' k=some u) (h2:∀q,q≠k→m' q=m q):
  AO P ⟨d,.mapUpdate t x y z,ty,pos,af,g⟩ fr B L (fun _ L'=>L'=gn L i (cn kd m')):=by
 intro σ ρ w hρ hw
 obtain ⟨o,ho,hM⟩:=hw.here _ (Jw hL)
 have hM':kP kd m σ o:=hM
 obtain ⟨es,clock,rfl,h3,h4,h5⟩:=hM'
 have hM':kP kd m σ (.map es clock):=hM
 have hv:=hρ z u hz
 have hlt:b < w.heap.size:=(Array.getElem?_eq_some_iff.1 ho).1
 have key:∃es' clock',(Instr.mapUpdate t (.map (some b)) k (ρ z)).run P w= .ok () (w.putObj b (.map es' clock'))∧kP kd m' σ (.map es' clock'):=by
  cases hm:m k with
  | none=>
   refine ⟨es.push ⟨k,ρ z,clock⟩,clock+1,?_,_,_,rfl,?_,?_,?_⟩
   ·simp [Instr.mapUpdate,run_underlying ht,MapKept.run_getObj_map ho,run_checkKey hkt hk,run_findKey hkt (hM'.none hk hm),MapKept.run_setObj_map _ ho,Result.andThen,World.putObj]
   ·intro e he
    rw [Array.toList_push,List.mem_append,List.mem_singleton] at he
    rcases he with he | rfl
    ·obtain ⟨h6,c,h7,h8⟩:=h3 e he
     exact ⟨h6,c,by rw [h2 _ (fun e1=>by rw [e1,hm] at h7;cases h7)];exact h7,h8⟩
    ·exact ⟨hk,u,h1,hv⟩
   ·rw [Array.toList_push,List.pairwise_append]
    refine ⟨h4,by simp,fun e he e' he'=>?_⟩
    rw [List.mem_singleton] at he'
    subst he'
    obtain ⟨_,c,h7,_⟩:=h3 e he
    exact fun e1=>by rw [e1,hm] at h7;cases h7
   ·intro q c hq
    by_cases e:q=k
    ·subst e
     exact ⟨_,by rw [Array.toList_push];exact List.mem_append.2 (Or.inr (List.mem_singleton.2 rfl)),rfl⟩
    ·rw [h2 q e] at hq
     obtain ⟨y,hy,hy'⟩:=h5 q c hq
     exact ⟨y,by rw [Array.toList_push];exact List.mem_append.2 (Or.inl hy),hy'⟩
  | some c=>
   obtain ⟨j,e,h6,h7,h8,h9⟩:=hM'.some hk hm
   have hdis:∀n e',es[n]?=some e'→¬j=n→e'.key≠k:=by
    intro n e' hn hne
    rw [←Array.getElem?_toList] at hn h7
    rw [←h8]
    rw [List.pairwise_iff_getElem] at h4
    obtain ⟨hj1,hj2⟩:=Jo h7
    obtain ⟨hn1,hn2⟩:=Jo hn
    rcases Nat.lt_or_gt_of_ne hne with hlt | hgt
    ·have:=h4 j n hj1 hn1 hlt
     rw [hj2,hn2] at this
     exact this.symm
    ·have:=h4 n j hn1 hj1 hgt
     rw [hj2,hn2] at this
     exact this
   refine ⟨es.modify j (fun e'=>{ e' with key:=k,val:=ρ z }),clock,?_,_,_,rfl,?_,?_,?_⟩
   ·simp [Instr.mapUpdate,run_underlying ht,MapKept.run_getObj_map ho,run_checkKey hkt hk,run_findKey hkt h6,h7,h8,run_keyThatStays hk,MapKept.run_setObj_map _ ho,Result.andThen,World.putObj]
   ·intro e' he'
    obtain ⟨n,hn⟩:=List.mem_iff_getElem?.1 he'
    rw [Array.getElem?_toList,Array.getElem?_modify] at hn
    by_cases e1:j=n
    ·subst e1
     rw [if_pos rfl,h7] at hn
     simp at hn
     subst hn
     exact ⟨hk,u,h1,hv⟩
    ·rw [if_neg e1] at hn
     obtain ⟨h10,c',h11,h12⟩:=h3 e' (Jw (by rw [Array.getElem?_toList];exact hn))
     exact ⟨h10,c',by rw [h2 _ (hdis n e' hn e1)];exact h11,h12⟩
   ·have hkeys:(es.modify j (fun e'=>{ e' with key:=k,val:=ρ z })).toList.map MapEntry.key=es.toList.map MapEntry.key:=by
     apply List.ext_getElem?
     intro n
     rw [List.getElem?_map,List.getElem?_map,Array.getElem?_toList,Array.getElem?_toList,Array.getElem?_modify]
     by_cases e1:j=n
     ·subst e1
      rw [if_pos rfl,h7]
      simp [h8]
     ·rw [if_neg e1]
    refine (List.pairwise_map (f:=MapEntry.key) (R:=fun a b:Value=>a≠b)).1 ?_
    rw [hkeys]
    exact List.pairwise_map.2 h4
   ·intro q c hq
    by_cases e1:q=k
    ·subst e1
     refine ⟨{ e with key:=q,val:=ρ z },List.mem_iff_getElem?.2 ⟨j,?_⟩,rfl⟩
     rw [Array.getElem?_toList,Array.getElem?_modify,if_pos rfl,h7]
     rfl
    ·rw [h2 q e1] at hq
     obtain ⟨y,hy,hy'⟩:=h5 q c hq
     obtain ⟨n,hn⟩:=List.mem_iff_getElem?.1 hy
     rw [Array.getElem?_toList] at hn
     refine ⟨y,List.mem_iff_getElem?.2 ⟨n,?_⟩,hy'⟩
     rw [Array.getElem?_toList,Array.getElem?_modify,if_neg,hn]
     intro e2
     subst e2
     rw [h7] at hn
     injection hn with hn
     subst hn
     exact e1 (hy'.symm.trans h8)
 obtain ⟨es',clock',hr,hq⟩:=key
 unfold je
 rw [show (execOp ρ ⟨d,.mapUpdate t x y z,ty,pos,af,g⟩).run P w= .ok .skip (w.putObj b (.map es' clock')) by simp only [execOp,(hρ x _ hx).sc_inv,(hρ y _ hy).sc_inv,Sem.run_bind,Sem.run_pure,Result.andThen,hr]]
 exact ⟨σ,.sc undef,_,cP.le_refl _,.sc _,hw.putAt (a':=cn kd m') hL (fun _=>trivial) (l5 w b _) (World.putObj_heap_same hlt) hq,rfl⟩
theorem qz {w:World} {b kt et:Nat} {kd:TypeDesc} {k v0:Value} {m:Value→Option AV} {es:Array MapEntry} {clock:Nat} {σ:cP} (ht:P.underlying t=some (.map kt et)) (hkt:P.underlying kt=some kd) (hk:IsKey kd k) (ho:w.heap[b]?=some (.map es clock)) (hM:kP kd m σ (.map es clock)) (hz:(zeroValue et).run P w= .ok v0 w) (ok:Bool):
  ∃v,(Instr.lookup t (.map (some b)) k ok).run P w= .ok (bif ok then .tuple #[v,.bool (m k).isSome] else v) w∧match m k with | some c=>VR σ c v | none=>v=v0:=by
 cases hm:m k with
 | none=>
  refine ⟨v0,?_,rfl⟩
  cases ok <;> simp [Instr.lookup,run_underlying ht,MapKept.run_getObj_map ho,run_checkKey hkt hk,run_findKey hkt (hM.none hk hm),Result.andThen,hz]
 | some c=>
  obtain ⟨j,e,h6,h7,h8,h9⟩:=hM.some hk hm
  refine ⟨e.val,?_,h9⟩
  cases ok <;> simp [Instr.lookup,run_underlying ht,MapKept.run_getObj_map ho,run_checkKey hkt hk,run_findKey hkt h6,Result.andThen]
theorem jz (i:Nat) {b kt et:Nat} {kd:TypeDesc} {k v0:Value} {m:Value→Option AV} {c0:AV} (ht:P.underlying t=some (.map kt et)) (hkt:P.underlying kt=some kd) (hx:bU fr x=some (.sc (.map (some b)))) (hy:bU fr y=some (.sc k)) (hk:IsKey kd k) (hL:L[i]?=some (b,cn kd m)) (hz:∀w,(zeroValue et).run P w= .ok v0 w) (h0:∀σ,VR σ c0 v0):
  AO P ⟨d,.lookup t x y false,ty,pos,af,g⟩ fr B L (fun c L'=>c=(m k).getD c0∧L'=L):=by
 intro σ ρ w hρ hw
 obtain ⟨o,ho,hM⟩:=hw.here _ (Jw hL)
 have hM':kP kd m σ o:=hM
 obtain ⟨es,clock,rfl,_⟩:=hM'
 obtain ⟨v,hr,hv⟩:=qz (t:=t) ht hkt hk ho hM (hz w) false
 unfold je
 rw [show (execOp ρ ⟨d,.lookup t x y false,ty,pos,af,g⟩).run P w= .ok (.value v) w by simp only [execOp,(hρ x _ hx).sc_inv,(hρ y _ hy).sc_inv,Sem.run_bind,Sem.run_pure,Result.andThen,hr];rfl]
 refine ⟨σ,(m k).getD c0,_,cP.le_refl _,?_,hw,rfl,rfl⟩
 cases hm:m k with
 | none=>rw [hm] at hv;dsimp only at hv;subst hv;exact h0 σ
 | some c=>rw [hm] at hv;exact hv
theorem vr (i:Nat) {b kt et:Nat} {kd:TypeDesc} {k v0:Value} {m:Value→Option AV} {c0:AV} (ht:P.underlying t=some (.map kt et)) (hkt:P.underlying kt=some kd) (hx:bU fr x=some (.sc (.map (some b)))) (hy:bU fr y=some (.sc k)) (hk:IsKey kd k) (hL:L[i]?=some (b,cn kd m)) (hz:∀w,(zeroValue et).run P w= .ok v0 w) (h0:∀σ,VR σ c0 v0):
  AO P ⟨d,.lookup t x y true,ty,pos,af,g⟩ fr B L (fun c L'=>c= .tup [(m k).getD c0,.sc (.bool (m k).isSome)]∧L'=L):=by
 intro σ ρ w hρ hw
 obtain ⟨o,ho,hM⟩:=hw.here _ (Jw hL)
 have hM':kP kd m σ o:=hM
 obtain ⟨es,clock,rfl,_⟩:=hM'
 obtain ⟨v,hr,hv⟩:=qz (t:=t) ht hkt hk ho hM (hz w) true
 unfold je
 rw [show (execOp ρ ⟨d,.lookup t x y true,ty,pos,af,g⟩).run P w= .ok (.value (.tuple #[v,.bool (m k).isSome])) w by simp only [execOp,(hρ x _ hx).sc_inv,(hρ y _ hy).sc_inv,Sem.run_bind,Sem.run_pure,Result.andThen,hr];rfl]
 refine ⟨σ,.tup [(m k).getD c0,.sc (.bool (m k).isSome)],_,cP.le_refl _,?_,hw,rfl,rfl⟩
 have h1:VR σ ((m k).getD c0) v:=by
  cases hm:m k with
  | none=>rw [hm] at hv;dsimp only at hv;subst hv;exact h0 σ
  | some c=>rw [hm] at hv;exact hv
 have h2:dR σ [(m k).getD c0,.sc (.bool (m k).isSome)] [v,.bool (m k).isSome]:= .cons h1 (.cons (.sc _) .nil)
 exact .tup _ _ h2.1 h2.2
def kD (P:Program) (e:Nat) (v:Value):Bool:=match P.info? e with | some i=>(match i.zero with | some z=>y7 z v | none=>false) | none=>false
theorem fO {e:Nat} {v:Value} (h:kD P e v=true) (w:World):(zeroValue e).run P w= .ok v w:=by
 unfold kD at h
 split at h
 ·rename_i i hi
  split at h
  ·rename_i z hz
   rw [←qT h]
   simp [zeroValue,typeInfo,hi,hz]
  ·cases h
 ·cases h
end
section
variable {P:Program} {r:Option Nat} {ops:Array Oper} {Q:Exit→Act→World→Prop} {nt:Nat} {D:List Deferred} {fr:cw} {B:Bs} {L:AL} {rest:List Oper} {d:Nat} {ty t:TypeId} {pos:String} {af:Array Edge} {x y z:Operand} {u:AV}
theorem eG (kd:TypeDesc) (h:∀b,cg P r ops Q nt D rest ((d,.sc (.map (some b)))::fr) B ((b,cn kd fun _=>none)::L)) (hd:Nat.ble nt d=false:=by rfl):cg P r ops Q nt D (⟨some d,.makeMap t none,ty,pos,af,none⟩::rest) fr B L:=
 dE hd rfl (vt kd) fun c L' ⟨b,h1,h2⟩=>by subst h1;subst h2;exact h b
theorem dl (i:Nat) (m':Value→Option AV) {b kt et:Nat} {kd:TypeDesc} {k:Value} {m:Value→Option AV} (ht:P.underlying t=some (.map kt et)) (hkt:P.underlying kt=some kd) (hx:bU fr x=some (.sc (.map (some b)))) (hy:bU fr y=some (.sc k)) (hk:IsKey kd k) (hz:bU fr z=some u) (hL:L[i]?=some (b,cn kd m)) (h1:m' k=some u) (h2:∀q,q≠k→m' q=m q)
  (h:cg P r ops Q nt D rest fr B (gn L i (cn kd m'))):cg P r ops Q nt D (⟨none,.mapUpdate t x y z,ty,pos,af,none⟩::rest) fr B L:=
 mQ rfl (sa i ht hkt hx hy hk hz hL h1 h2) fun c L' h3=>by subst h3;exact h
theorem jJ (i:Nat) (v0:Value) {b kt et:Nat} {kd:TypeDesc} {k:Value} {m:Value→Option AV} (ht:P.underlying t=some (.map kt et)) (hkt:P.underlying kt=some kd) (hx:bU fr x=some (.sc (.map (some b)))) (hy:bU fr y=some (.sc k)) (hk:IsKey kd k) (hL:L[i]?=some (b,cn kd m)) (hz:kD P et v0=true) (hd:Nat.ble nt d=false)
  (h:cg P r ops Q nt D rest ((d,(m k).getD (.sc v0))::fr) B L):cg P r ops Q nt D (⟨some d,.lookup t x y false,ty,pos,af,none⟩::rest) fr B L:=
 dE hd rfl (jz i ht hkt hx hy hk hL (fO hz) fun _=> .sc _) fun c L' ⟨h1,h2⟩=>by subst h1;subst h2;exact h
theorem jK (i:Nat) (v0:Value) {b kt et:Nat} {kd:TypeDesc} {k:Value} {m:Value→Option AV} (ht:P.underlying t=some (.map kt et)) (hkt:P.underlying kt=some kd) (hx:bU fr x=some (.sc (.map (some b)))) (hy:bU fr y=some (.sc k)) (hk:IsKey kd k) (hL:L[i]?=some (b,cn kd m)) (hz:kD P et v0=true) (hd:Nat.ble nt d=false)
  (h:cg P r ops Q nt D rest ((d,.tup [(m k).getD (.sc v0),.sc (.bool (m k).isSome)])::fr) B L):cg P r ops Q nt D (⟨some d,.lookup t x y true,ty,pos,af,none⟩::rest) fr B L:=
 dE hd rfl (vr i ht hkt hx hy hk hL (fO hz) fun _=> .sc _) fun c L' ⟨h1,h2⟩=>by subst h1;subst h2;exact h
end
end Go.Proofs.YtjjpkibjffmceaaGreat
namespace Go.Proofs.YtjjpkibjffmceaaGreat
open Go.RowKit
section
variable {P:Program} {tt:TT} {r:Option Nat} {ops:Array Oper} {Q:Exit→Act→World→Prop} {nt:Nat} {D:List Deferred} {fr:cw} {B:Bs} {L:AL} {rest:List Oper} {d:Nat} {ty t:TypeId} {pos:String} {af:Array Edge} {x y z:Operand} {u:AV}
theorem mp (ok:f6 P tt) (n:Nat) {e sz by_:Nat} {k k':IntKind} {a b:Int} {zs:List Value} (ht:kN tt t=some (e,sz,by_)) (hz:zI tt e=some zs) (h1:zs.all (·.oneCell')=true) (hx:bU fr x=some (.sc (.int k a))) (hy:bU fr y=some (.sc (.int k' b))) (ha:a=(n:Int)) (hb:b=(n:Int)) (hby:by_ * n≤281474976710656) (h63:n≤9223372036854775807) (hd:Nat.ble nt d=false)
  (h:∀b,cg P r ops Q nt D rest ((d,.sc (.slice (some ⟨b,0,none⟩) n n))::fr) B ((b,.box ((List.replicate n (zs.map .sc)).flatten) e)::L)):cg P r ops Q nt D (⟨some d,.makeSlice t x y,ty,pos,af,none⟩::rest) fr B L:=
 dE hd rfl (Dd (bW ok ht).1 (eA ok hz) h1 (bW ok ht).2 hx hy ha hb hby h63) fun c L' ⟨b,h1,h2⟩=>by subst h1;subst h2;exact h b
theorem bn {f:FuncId} {args:Array Operand} {ts:Array TypeId} {cs ds:List AV} {Post:AV→AL→Prop} [bT P f] (Lc Lf:AL) (hc:AC P f ds Lc Post) (hv:eN fr args.toList=some cs) (hi:l6 cs=some ds) (hL:L.Perm (Lc++Lf)) (hd:Nat.ble nt d=false) (h:∀c L1,Post c L1→cg P r ops Q nt D rest ((d,c)::fr) B (L1++Lf)):
  cg P r ops Q nt D (⟨some d,.call ⟨.value (.func f),args,ts⟩,ty,pos,af,none⟩::rest) fr B L:=by
 have hc':=hc
 rw [←iI hi] at hc'
 refine dE hd rfl (mO Lc Lf hv (fun σ vs h=>h.im) hL hc') fun c L' hh=>?_
 obtain ⟨L1,h1,h2⟩:=hh
 subst h2
 exact h c L1 h1
theorem lB {σ0:cP} {l:Nat} {args:Array Operand} {ts:Array TypeId} {cs ds:List AV} {Post:AV→AL→Prop} (Lc Lf:AL) (hB:σ0.le B.σ) (hc:AY P σ0 l ds Lc Post) (hz:bU fr z=some (.sc (.func (.yield l) #[] #[]))) (hv:eN fr args.toList=some cs) (hi:l6 cs=some ds) (hL:L.Perm (Lc++Lf)) (hn:Oper.noDefer ⟨some d,.call ⟨.value z,args,ts⟩,ty,pos,af,none⟩=true) (hd:Nat.ble nt d=false) (h:∀c L1,Post c L1→cg P r ops Q nt D rest ((d,c)::fr) B (L1++Lf)):
  cg P r ops Q nt D (⟨some d,.call ⟨.value z,args,ts⟩,ty,pos,af,none⟩::rest) fr B L:=by
 have hc':=hc
 rw [←iI hi] at hc'
 refine dE hd hn (AM hB Lc Lf hz hv (fun σ vs h=>h.im) hL hc') fun c L' hh=>?_
 obtain ⟨L1,h1,h2⟩:=hh
 subst h2
 exact h c L1 h1
theorem cQ {e:Exit} {L':AL} (hs:L'.Sublist L) (h:AX P e Q nt D fr B L'):AX P e Q nt D fr B L:=fun σ a w ha hw=>h σ a w ha (hw.sublist hs)
end
theorem y5 {σ:cP} {cs cs':List AV} {vs:List Value} (hl:cs.length=cs'.length) (h:∀(i:Nat) c c',cs[i]?=some c→cs'[i]?=some c'→∀v,VR σ c v→VR σ c' v) (hv:dR σ cs vs):dR σ cs' vs:=by
 refine ⟨hl.symm.trans hv.1,fun i c' u hc hu=>?_⟩
 have hi:i < cs.length:=by rw [hl];exact (Jo hc).1
 exact h i _ c' (Jz hi) hc _ (hv.2 i _ u (Jz hi) hu)
theorem bC {nt:Nat} {D:List Deferred} {B:Bs} {fr:cw} {L:AL} (i:Nat) {b:Nat} {cs cs':List AV} {e:TypeId} (hL:L[i]?=some (b,.box cs e)) (h:∀σ vs,dR σ cs vs→dR σ cs' vs):p6 nt D B fr L fr (gn L i (.box cs' e)):=by
 intro σ a w ha hw0
 have hw:=hw0.perm (gz hL)
 obtain ⟨o,ho,vs,rfl,hvs,h1⟩:=hw.here _ (List.mem_cons_self ..)
 refine ⟨σ,ha,dQ.perm (L:=(b,.box cs' e)::L.eraseIdx i) ?_ (rf _ hL)⟩
 refine ⟨hw.os,hw.tape,hw.output,hw.size,hw.old,fun p hp=>?_,fun p hp=>?_,by simpa using hw.apart,hw.froz,fun p hp off hm=>?_,hw.grow,hw.same⟩
 ·rcases List.mem_cons.1 hp with rfl | hp'
  ·exact ⟨_,ho,vs,rfl,h σ vs hvs,h1⟩
  ·exact hw.here p (Js _ hp')
 ·rcases List.mem_cons.1 hp with rfl | hp'
  ·exact hw.mine (b,.box cs e) (List.mem_cons_self ..)
  ·exact hw.mine p (Js _ hp')
 ·rcases List.mem_cons.1 hp with rfl | hp'
  ·exact hw.free (b,.box cs e) (List.mem_cons_self ..) off trivial
  ·exact hw.free p (Js _ hp') off hm
theorem gd {cs:List AV} {k:Nat} {c:AV}:iq cs k [c]=cs.set k c:=rfl
end Go.Proofs.YtjjpkibjffmceaaGreat
namespace Go.Proofs.YtjjpkibjffmceaaGreat
open Go.RowKit
attribute [local irreducible] AT cg AX AO Av Kt bJ eC DA du
def CE (n:Nat):List (List Int)→Nat
 | []=>n
 | q::r=>if n≤2000 then CE (n+1+q.length) r else n
def F1 (n:Nat):List (List (List Int))→Nat
 | []=>n
 | s::r=>F1 (CE n s) r
def Gt (n:Nat) (r:cb):Nat:=F1 (n+r.Out.length+r.Calls.length) [r.Back,r.In,r.Ahead]
def xU (n:Nat):List cb→Nat
 | []=>n
 | r::rs=>if n≤2000 then xU (Gt n r) rs else n
def sF:Nat:=140737488355328
structure Am (r:cb):Prop where
 out:r.Out.length≤sF
 calls:r.Calls.length≤sF
 sets:∀s∈[r.Back,r.In,r.Ahead],s.length≤sF∧∀q∈s,q.length≤sF
def Is (g n t:Nat):Prop:=(n+t≤2000→g=n+t)∧(2000 < n+t→2000 < g)
def HA {α:Type} (g:α→Nat) (n:Nat):List α→Nat
 | []=>n
 | a::l=>if n≤2000 then HA g (n+g a) l else n
structure GL (f:aL):Prop where
 top:f.Glyphs.length≤140737488355328∧f.Chars.length≤140737488355328∧f.Lookups.length≤140737488355328∧f.Features.length≤140737488355328∧f.Axes.length≤140737488355328∧f.Regions.length≤140737488355328∧f.Funcs.length≤140737488355328∧f.Cvt.length≤140737488355328
 glyph:∀g∈f.Glyphs,g.Points.length≤140737488355328∧g.Parts.length≤140737488355328∧g.Anchors.length≤140737488355328∧g.Deltas.length≤140737488355328∧g.Hint.length≤140737488355328∧g.Name.size≤140737488355328
 rules:∀l∈f.Lookups,l.Rules.length≤140737488355328∧∀r∈l.Rules,Am r
 funcs:∀c∈f.Funcs,c.length≤140737488355328
 feats:∀t∈f.Features,t.Lookups.length≤140737488355328∧t.Name.size≤140737488355328
 regions:∀r∈f.Regions,r.length≤140737488355328
 axes:∀a∈f.Axes,a.Name.size≤140737488355328
def Ic (l:bj):Nat:=xU l.Rules.length l.Rules
def Iw (f:aL):Nat:=f.Glyphs.length+f.Chars.length+f.Lookups.length+f.Features.length+f.Axes.length+f.Regions.length+f.Funcs.length+f.Cvt.length
end Go.Proofs.YtjjpkibjffmceaaGreat
namespace Go.Proofs.YtjjpkibjffmceaaGreat
open Go.ChangeShapes Go.WideShapes Go.ChangeAt Go.RowKit Go.Deep Go.Joins
def kG (W:World):cP:=fun b off=>W.cell? ⟨b,off,none⟩
theorem BS (W:World):dQ ⟨W,kG W,[]⟩ (kG W) [] W:=⟨rfl,rfl,rfl,Nat.le_refl _,fun _ _ _=>rfl,by simp,by simp,by simp,fun _ _ _ h=>h,by simp,cP.le_refl _,fun _ _ _ _=>rfl⟩
theorem dR.app {σ:cP}:∀{a b:List AV} {u v:List Value},dR σ a u→dR σ b v→dR σ (a++b) (u++v)
 | [],b,u,v,h,k=>by
  have:u=[]:=List.eq_nil_of_length_eq_zero h.1.symm
  subst this
  exact k
 | c::a,b,u,v,h,k=>by
  obtain ⟨x,u',rfl,h1,h2⟩:=h.inv
  exact dR.cons h1 (h2.app k)
section
variable {H:Type} {enc:TypeId×Value→H} {P:Program} {W:World}
def wU (P:Program) (t:TypeId) (d:DataW H):Prop:=∀n∈d.weights P t,n≤reachBytes
def ya (enc:TypeId×Value→H) (P:Program) (W:World) (t:TypeId) {α:Type} (c:α→List AV) (fits:α→Prop):Prop:=
 ∀fuel cs x,DataW.trod enc P W 0 (fun _=>true) true fuel t cs=some x→wU P t x.1→∃a,dR (kG W) (c a) cs∧(∀u∈cs,u.oneCell'=true)∧fits a
theorem ya.map {t:TypeId} {α β:Type} {c:α→List AV} {c':β→List AV} {fits:α→Prop} {fits':β→Prop} (h:ya enc P W t c fits) (g:α→β) (hc:∀a,c a=c' (g a)) (hf:∀a,fits a→fits' (g a)):ya enc P W t c' fits':=fun fuel cs x h1 h2=>by
 obtain ⟨a,k1,k2,k3⟩:=h fuel cs x h1 h2
 exact ⟨g a,by rw [←hc];exact k1,k2,hf a k3⟩
theorem Eh {t:TypeId} (ht:P.underlying t=some (.int .i64)):ya enc P W t (fun z:Int=>[aP z]) (fun _=>True):=fun fuel cs x h _=>by
 obtain ⟨z,rfl,-,-⟩:=DataW.trod_int ht h
 exact ⟨z,dR.cons (.sc _) dR.nil,by intro u hu;rw [Jl hu];rfl,trivial⟩
theorem qg {e:TypeId} {l:List (DataW H)} {d:DataW H} (hd:d∈l) {n:Nat} (hn:n∈d.weights P e):n∈DataW.weightsAll P e l:=by
 induction l with
 | nil=>cases hd
 | cons y l ih=>
  rw [DataW.weightsAll,List.mem_append]
  rcases List.mem_cons.1 hd with rfl | h
  ·exact .inl hn
  ·exact .inr (ih h)
theorem zA {t e:TypeId} {sz:Nat} {α:Type} [Inhabited α] {c:α→List AV} {fits:α→Prop} (ht:P.underlying t=some (.slice e)) (hb:0 < P.bytesOf e) (hs:P.cellsOf e=sz) (h0:0 < sz) (he:ya enc P W e c fits) (hc:∀a,(c a).length=sz):
  ya enc P W t (fun l:List α=>[.imm sz (l.map c)]) (fun l=>l.length≤reachBytes∧∀a∈l,fits a):=fun fuel cs x h hl=>by
 rcases open_slice ht h with ⟨rfl,rfl⟩ | ⟨a,len,cap,m,n,D,Pl,rfl,_,hlc,hm,hmm,rfl,hx⟩
 ·exact ⟨[],dR.cons (gm sz (.sc _)) dR.nil,by intro u hu;rw [Jl hu];rfl,Nat.zero_le _,by simp⟩
 have hmle:len≤m:=by rw [hmm];split <;> omega
 have hw:∀n∈(len+(m - len)) * P.bytesOf e::(DataW.weightsAll P e ((List.range len).map D)++DataW.weightsAll P e ((List.range (m - len)).map fun j=>D (len+j))),n≤reachBytes:=by
  intro n hn
  refine hl n ?_
  show n∈DataW.weights P t (.slice _ _)
  rw [DataW.weights,ht]
  simpa using hn
 have hlen:len≤reachBytes:=by
  have h1:=hw _ (List.mem_cons_self ..)
  have h2:len≤(len+(m - len)) * P.bytesOf e:=Nat.le_trans (Nat.le_add_right _ _) (Nat.le_mul_of_pos_right _ hb)
  omega
 have each:∀i,i < len→∃q:α×List Value,W.cells? 0 (a.add (i * sz)) sz=some q.2∧dR (kG W) (c q.1) q.2∧(∀u∈q.2,u.oneCell'=true)∧fits q.1:=by
  intro i hi
  obtain ⟨cs',h1,h2⟩:=hx i (by omega)
  rw [hs] at h1
  obtain ⟨a',k1,k2,k3⟩:=he n cs' _ h2 (fun n hn=>hw n (Js _ (List.mem_append_left _ (qg (List.mem_map.2 ⟨i,List.mem_range.2 hi,rfl⟩) hn))))
  exact ⟨(a',cs'),h1,k1,k2,k3⟩
 obtain ⟨f,hf⟩:=choose_lt each
 refine ⟨(List.range len).map fun i=>(f i).1,dR.cons ?_ dR.nil,by intro u hu;rw [Jl hu];rfl,by simpa using hlen,?_⟩
 ·have hll:(((List.range len).map fun i=>(f i).1).map c).length=len:=by simp
  have hcell:∀i,i < len→∀j,j < sz→W.cell? (a.add (i * sz+j))=(f i).2[j]?:=by
   intro i hi j hj
   have:=(World.cells?_some (hf i hi).1).2.2 j hj
   rw [add_add] at this
   exact this
  have hcl:∀i,i < len→(f i).2.length=sz:=fun i hi=>(World.cells?_some (hf i hi).1).2.1
  have hnone:0 < len→∃b off,a=⟨b,off,none⟩:=by
   intro hp
   have h1:=hcell 0 hp 0 h0
   rw [Nat.zero_mul,Nat.zero_add,Jz (by rw [hcl 0 hp];exact h0)] at h1
   obtain ⟨b,off,sp⟩:=a
   have e:(⟨b,off,sp⟩:Addr).add 0=⟨b,off,sp⟩:=by simp [Addr.add]
   rw [e] at h1
   cases sp with
   | some s=>
    simp only [World.cell?] at h1
    split at h1
    ·simp at h1
    ·cases h1
   | none=>exact ⟨b,off,rfl⟩
  have hmem:∀b off,a=⟨b,off,none⟩→∀i,i < len→∀j,j < sz→kG W b (off+i * sz+j)=(f i).2[j]?:=by
   intro b off ha i hi j hj
   have:=hcell i hi j hj
   rw [ha] at this
   show W.cell? ⟨b,off+i * sz+j,none⟩=_
   rw [←this]
   have e:(⟨b,off,none⟩:Addr).add (i * sz+j)=⟨b,off+(i * sz+j),none⟩:=by
    unfold Addr.add
    by_cases h:i * sz+j=0
    ·rw [if_pos h,h,Nat.add_zero]
    ·rw [if_neg h]
   rw [e,Nat.add_assoc]
  have hgo:=VR.imm (σ:=kG W) sz (((List.range len).map fun i=>(f i).1).map c) (some a) cap (by rw [hll];exact hlc) hm (fun e he=>by
    obtain ⟨y,_,rfl⟩:=List.mem_map.1 he
    exact hc y) (fun hne=>by
    have:0 < len:=by
     rcases Nat.eq_zero_or_pos len with h | h
     ·subst h;exact absurd rfl hne
     ·exact h
    obtain ⟨b,off,rfl⟩:=hnone this
    exact ⟨b,off,rfl⟩) (fun i b off j hA hi hj=>by
    rw [hll] at hi
    injection hA with hA
    have h1:=hmem b off hA i hi j hj
    have h2:j < (f i).2.length:=by rw [hcl i hi];exact hj
    rw [Jz h2] at h1
    exact ⟨_,h1,(hf i hi).2.2.1 _ (List.getElem_mem h2)⟩) (fun i e b off j c' u hi hA hj hu=>by
    injection hA with hA
    have hil:i < len:=by have:=(Jo hi).1;simpa using this
    rw [List.getElem?_map,List.getElem?_map,List.getElem?_range hil] at hi
    simp only [Option.map_some,Option.some.injEq] at hi
    subst hi
    have hjs:j < sz:=by rw [←hc (f i).1];exact (Jo hj).1
    rw [hmem b off hA i hil j hjs] at hu
    exact (hf i hil).2.1.2 j c' u hj hu)
  rw [hll] at hgo
  exact hgo
 ·intro y hy
  obtain ⟨i,hi,rfl⟩:=List.mem_map.1 hy
  exact (hf i (List.mem_range.1 hi)).2.2.2
def D3 (enc:TypeId×Value→H) (P:Program) (W:World) (N o:Nat) (fs:List Field) {β:Type} (c:β→List AV) (fits:β→Prop):Prop:=
 ∀(n:Nat) (cs:List Value) (xs:List (DataW H×List MemPlace)),cs.length=N→xs.length=fs.length→(∀(i:Nat) (f:Field),fs[i]?=some f→DataW.trod enc P W 0 (fun _=>true) true n f.type ((cs.drop f.offset).take (P.cellsOf f.type))=xs[i]?)→
  (∀k∈DataW.weightsEach P (fs.map (·.type)) (xs.map (·.1)),k≤reachBytes)→∃b,dR (kG W) (c b) (cs.drop o)∧(∀u∈cs.drop o,u.oneCell'=true)∧fits b
theorem Ca {N:Nat}:D3 enc P W N N [] (fun _:Unit=>[]) (fun _=>True):=fun n cs xs hN _ _ _=>by
 have:cs.drop N=[]:=List.drop_eq_nil_of_le (by omega)
 rw [this]
 exact ⟨(),dR.nil,by simp,trivial⟩
theorem iO {N o s:Nat} {f:Field} {fs:List Field} {α β:Type} {c:α→List AV} {d:β→List AV} {fits:α→Prop} {fits':β→Prop} (ho:f.offset=o) (hs:P.cellsOf f.type=s) (h:ya enc P W f.type c fits) (hr:D3 enc P W N (o+s) fs d fits'):D3 enc P W N o (f::fs) (fun p:α×β=>c p.1++d p.2) (fun p=>fits p.1∧fits' p.2):=fun n cs xs hN hl hx hw=>by
 match xs,hl with
 | x::xs,hl=>
  have h0:=hx 0 f rfl
  rw [ho,hs] at h0
  obtain ⟨a,k1,k2,k3⟩:=h n _ x h0 (fun k hk=>hw k (by
   simp only [Jp,DataW.weightsEach,List.mem_append]
   exact .inl hk))
  obtain ⟨b,m1,m2,m3⟩:=hr n cs xs hN (by simpa using hl) (fun i g hg=>hx (i+1) g hg) (fun k hk=>hw k (by
   simp only [Jp,DataW.weightsEach,List.mem_append]
   exact .inr hk))
  have e:cs.drop o=(cs.drop o).take s++cs.drop (o+s):=by
   rw [←List.drop_drop,List.take_append_drop]
  refine ⟨(a,b),by rw [e];exact k1.app m1,fun u hu=>?_,k3,m3⟩
  rw [e] at hu
  rcases Jm hu with h | h
  ·exact k2 u h
  ·exact m2 u h
theorem wr {t:TypeId} {fs:Array Field} {N:Nat} {β:Type} {c:β→List AV} {fits:β→Prop} (ht:P.underlying t=some (.struct fs)) (hN:P.cellsOf t=N) (h:D3 enc P W N 0 fs.toList c fits):ya enc P W t c fits:=fun fuel cs x hx hl=>by
 obtain ⟨xs,n,_,rfl,h1,h2,h3⟩:=DataW.trod_struct ht hx
 have:=h n cs xs (h1.trans hN) (by simpa using h2) (fun i f hf=>h3 i f (by simpa using hf)) (fun k hk=>hl k (by
  show k∈DataW.weights P t (.agg _)
  rw [DataW.weights,ht]
  exact hk))
 simpa using this
end
end Go.Proofs.YtjjpkibjffmceaaGreat
namespace Go.Proofs.YtjjpkibjffmceaaGreat
open Go.ChangeShapes Go.WideShapes Go.ChangeAt Go.RowKit Go.Deep Go.Joins
section
variable {H:Type} {enc:TypeId×Value→H} {W:World}
abbrev It {α:Type}:α→Prop:=fun _=>True
abbrev mJ {α:Type} (l:List α):Prop:=l.length≤reachBytes
theorem o3:ya enc Tryz.prog W 3 (fun z:Int=>[aP z]) It:=Eh Tryz.underlying3
theorem Ia:ya enc Tryz.prog W 22 (fun l:List Int=>[.imm 1 (aS l)]) mJ:=(zA Tryz.underlying22 (Jy (by kernel_rfl)) (by kernel_rfl) Nat.one_pos o3 (fun _=>rfl)).map id (fun _=>rfl) fun _ h=>h.1
structure GF (g:bL):Prop where
 points:mJ g.Points
 parts:mJ g.Parts
 anchors:mJ g.Anchors
 deltas:mJ g.Deltas
 hint:mJ g.Hint
 name:g.Name.size≤reachBytes
structure Hv (r:cb):Prop where
 out:mJ r.Out
 calls:mJ r.Calls
 back:mJ r.Back∧∀q∈r.Back,mJ q
 inn:mJ r.In∧∀q∈r.In,mJ q
 ahead:mJ r.Ahead∧∀q∈r.Ahead,mJ q
end
end Go.Proofs.YtjjpkibjffmceaaGreat
namespace Go.Proofs.YtjjpkibjffmceaaGreat
open Go.ChangeShapes Go.WideShapes Go.ChangeAt Go.RowKit Go.Deep Go.Joins
theorem Tryz.own:ownKnob Tryz.prog.godebug=none:=by kernel_rfl
theorem Tryz.laidOut:laidOutB Tryz.prog=true:=by kernel_rfl
theorem yK {P:Program} {f:FuncId} {args:List AV} {u:Value} (h:bZ P f args (.sc u)) (W:World) (vs:List Value) (hv:dR (kG W) args vs):Calls P f vs.toArray W fun e W'=>∃v,e= .returned v∧Below W.heap.size W W'∧v=u:=
 (h (kG W) W vs hv (BS W)).mono fun e W' ⟨v,τ,c,L',he,hr,hst,hc⟩=>by
  subst hc
  exact ⟨v,he,⟨hst.os,hst.tape,hst.output,hst.size,fun k hk=>hst.old k hk (by simp)⟩,hr.sc_inv⟩
end Go.Proofs.YtjjpkibjffmceaaGreat
namespace Go.Proofs.YtjjpkibjffmceaaGreat
open Go.RowKit
def jV (u:AV):Option (FuncId×List AV):=match u with
 | .fn f cs=>some (f,cs)
 | .sc (.func (.func f) a b)=>match a.toList with
  | []=>match b.toList with
   | []=>some (f,[])
   | _=>none
  | _=>none
 | _=>none
theorem Bo {u:AV} {f:FuncId} {cs:List AV} (h:jV u=some (f,cs)) {σ:cP} {v:Value} (hv:VR σ u v):VR σ (.fn f cs) v:=by
 unfold jV at h
 split at h
 ·cases h;exact hv
 ·rename_i a b
  split at h
  ·rename_i ha
   split at h
   ·rename_i hb
    cases h
    have e1:a=#[]:=by apply Array.toList_inj.1;simpa using ha
    have e2:b=#[]:=by apply Array.toList_inj.1;simpa using hb
    subst e1;subst e2
    rw [hv.sc_inv]
    exact .fn f [] [] rfl (fun i c u h=>by simp at h)
   ·cases h
  ·cases h
 ·cases h
section
variable {P:Program} {r:Option Nat} {ops:Array Oper} {Q:Exit→Act→World→Prop} {nt:Nat} {D:List Deferred} {fr:cw} {B:Bs} {L:AL} {rest:List Oper} {d:Nat} {ty t:TypeId} {pos:String} {af:Array Edge} {x y z:Operand} {u:AV} {g:Option (Nat×Bool)}
theorem pB (Lc Lf:AL) {d:Option Tmp} {f:FuncId} {args:Array Operand} {ts:Array TypeId} {cs caps:List AV} {Post:AV→AL→Prop} [hf:bT P f] (hx:bU fr x=some u) (hu:jV u=some (f,caps)) (hv:eN fr args.toList=some cs) (hL:L.Perm (Lc++Lf)) (h:AC P f (cs++caps) Lc Post):
  AO P ⟨d,.call ⟨.value x,args,ts⟩,ty,pos,af,g⟩ fr B L (fun c L'=>∃L1,Post c L1∧L'=L1++Lf):=by
 intro σ ρ w hρ hw0
 have hw:=hw0.perm hL
 obtain ⟨ws,hw1,hw2⟩:=(Bo hu (hρ x _ hx)).fn_inv
 have hvs:=fE hρ _ _ hv
 have e:args.map ρ=(args.toList.map ρ).toArray:=by apply Array.toList_inj.1;simp
 unfold je
 rw [show (execOp ρ ⟨d,.call ⟨.value x,args,ts⟩,ty,pos,af,g⟩).run P w= .ok (.enter f (args.toList.map ρ++ws).toArray) w by
  simp [execOp,resolve,hw1,Deferred.ofValue,invoke,hf.enters]]
 have hall:dR σ (cs++caps) (args.toList.map ρ++ws):=by
  refine ⟨by rw [List.length_append,List.length_append,hvs.1,hw2.1],fun i c u hc hu=>?_⟩
  have hq:=hvs.1
  by_cases hi:i < cs.length
  ·rw [List.getElem?_append_left hi] at hc
   rw [List.getElem?_append_left (by omega)] at hu
   exact hvs.2 i c u hc hu
  ·rw [List.getElem?_append_right (by omega)] at hc
   rw [List.getElem?_append_right (by omega),←hq] at hu
   exact hw2.2 _ c u hc hu
 refine (h σ w _ hall hw.enter).mono fun en w' ⟨v,τ,c,L',h1,h2,h3,h4⟩=>⟨v,h1,τ,c,L'++Lf,h3.grow,h2,hw.leave h3,L',h4,rfl⟩
theorem dx {f:FuncId} {args:Array Operand} {ts:Array TypeId} {cs caps:List AV} {Post:AV→AL→Prop} [bT P f] (Lc Lf:AL) (hc:AC P f (cs++caps) Lc Post) (hx:bU fr x=some u) (hu:jV u=some (f,caps)) (hv:eN fr args.toList=some cs) (hL:L.Perm (Lc++Lf)) (hn:Oper.noDefer ⟨some d,.call ⟨.value x,args,ts⟩,ty,pos,af,none⟩=true) (hd:Nat.ble nt d=false) (h:∀c L1,Post c L1→cg P r ops Q nt D rest ((d,c)::fr) B (L1++Lf)):
  cg P r ops Q nt D (⟨some d,.call ⟨.value x,args,ts⟩,ty,pos,af,none⟩::rest) fr B L:=
 dE hd hn (pB Lc Lf hx hu hv hL hc) fun c L' ⟨L1,h1,h2⟩=>by subst h2;exact h c L1 h1
end
theorem jp.shadow2 {σ:cP} {nt:Nat} {D:List Deferred} {fr:cw} {a:Act} {t:Nat} {v:AV} (h:jp σ nt D fr a) (hl:VR σ v (a.tmps.getD t undef)):jp σ nt D ((t,v)::fr) a:=
 ⟨h.size,h.defers,fun t' v' hl'=>by
  rw [cX] at hl'
  by_cases e:t=t'
  ·subst e;simp only [if_true,Option.some.injEq] at hl';subst hl';exact hl
  ·rw [if_neg e] at hl';exact h.look t' v' hl'⟩
theorem dH {P:Program} {r:Option Nat} {ops:Array Oper} {Q:Exit→Act→World→Prop} {nt:Nat} {D:List Deferred} {fr fr0:cw} {B:Bs} {L:AL} {rest:List Oper} {t:Nat} (ks:List Nat) (C:Prop) [Decidable C] (hks:gE fr ks=some fr0) (h:∀Q',(∀fr' b,gE fr' ks=some fr0→cF fr' t=some (.sc (.bool b))→(b=true↔C)→AX P .normal Q' nt D fr' B L)→cg P r ops Q' nt D rest fr B L) (k:AX P .normal Q nt D ((t,.sc (.bool (decide C)))::fr0) B L):cg P r ops Q nt D rest fr B L:=by
 refine h Q fun fr' b hk hb hC=>fun σ a w ha hw=>k σ a w ?_ hw
 have hb':b=decide C:=by
  by_cases hc:C
  ·rw [decide_eq_true hc,hC.2 hc]
  ·rw [decide_eq_false hc]
   cases b with
   | true=>exact absurd (hC.1 rfl) hc
   | false=>rfl
 subst hb'
 exact (ha.weak (eH _ hk)).shadow2 (ha.look t _ hb)
theorem AC.frame {P:Program} {f:FuncId} {args:List AV} {L Lf:AL} {Post:AV→AL→Prop} (h:AC P f args L Post):AC P f args (L++Lf) fun c L'=>∃L1,Post c L1∧L'=L1++Lf:=by
 intro σ w vs hv hs
 refine (h σ w vs hv hs.enter).mono fun en w' ⟨v,τ,c,L',h1,h2,h3,h4⟩=>⟨v,τ,c,L'++Lf,h1,h2,hs.leave h3,L',h4,rfl⟩
theorem Ah.perm {P:Program} {σ0:cP} {f:FuncId} {args:List AV} {L L2:AL} {Post:AV→AL→Prop} (h:Ah P σ0 f args L Post) (hp:L2.Perm L):Ah P σ0 f args L2 Post:=by
 intro σ w vs hle hv hs
 refine (h σ w vs hle hv ?_).mono fun en w' ⟨v,τ,c,L',h1,h2,h3,h4⟩=>⟨v,τ,c,L',h1,h2,?_,h4⟩
 ·have:=hs.perm hp
  exact ⟨this.os,this.tape,this.output,this.size,fun k h1 h2=>this.old k h1 (fun h3=>h2 ((hp.map _).mem_iff.1 h3)),this.here,fun p hp'=>(this.mine p hp').imp id (fun h3=>(hp.map _).mem_iff.1 h3),this.apart,this.froz,this.free,this.grow,fun b h1 h2=>this.same b h1 (fun h3=>h2 ((hp.map _).mem_iff.1 h3))⟩
 ·exact ⟨h3.os,h3.tape,h3.output,h3.size,fun k h1 h2=>h3.old k h1 (fun h3=>h2 ((hp.map _).mem_iff.2 h3)),h3.here,fun p hp'=>(h3.mine p hp').imp id (fun h3=>(hp.map _).mem_iff.2 h3),h3.apart,h3.froz,h3.free,h3.grow,fun b h1 h2=>h3.same b h1 (fun h3=>h2 ((hp.map _).mem_iff.2 h3))⟩
theorem bM {nt:Nat} {D:List Deferred} {B:Bs} {fr:cw} {L L':AL} (h:L'.Sublist L):p6 nt D B fr L fr L':=fun σ _ _ ha hw=>⟨σ,ha,hw.sublist h⟩
section
variable {P:Program} {l:List Oper} {fr:cw} {fin:jb} {sk:lL} {acc:cw} {L:AL} {k:Nat} {dd:Option Tmp} {ty:TypeId} {pos:String} {af:Array Edge} {g:Option (Nat×Bool)} {x:Operand} {u:AV}
theorem f5 {f:FuncId} {args:Array Operand} {ts:Array TypeId} {cs ds:List AV} {Post:AV→AL→Prop} [bT P f] (Lc Lf:AL) (hc:AC P f ds Lc Post) (hv:eN (da l.toArray acc fr af.toList) args.toList=some cs) (hi:l6 cs=some ds) (hL:L.Perm (Lc++Lf)) (hg:iL ⟨dd,.call ⟨.value (.func f),args,ts⟩,ty,pos,af,g⟩ acc) (h:∀c L1,Post c L1→DA P l fr fin sk ((k,c)::acc) (L1++Lf)):
  du P l fr fin k .e ⟨dd,.call ⟨.value (.func f),args,ts⟩,ty,pos,af,g⟩ sk acc L:=by
 have hc':=hc
 rw [←iI hi] at hc'
 exact iy hg (fun B=>mO Lc Lf hv (fun σ vs h=>h.im) hL hc') fun c L' ⟨L1,h1,h2⟩=>by subst h2;exact h c L1 h1
theorem xl {f:FuncId} {args:Array Operand} {ts:Array TypeId} {cs ds:List AV} {Post:AV→AL→Prop} [bT P f] (Lc Lf:AL) (hc:AC P f ds Lc Post) (hv:eN (da l.toArray acc fr af.toList) args.toList=some cs) (hi:l6 cs=some ds) (hL:L.Perm (Lc++Lf)) (hg:iL ⟨dd,.call ⟨.value (.func f),args,ts⟩,ty,pos,af,g⟩ acc) (hK:∀c L1,Post c L1→eT fin.gs L→eT fin.gs (L1++Lf)) (h:∀c L1,Post c L1→DA P l fr fin sk ((k,c)::acc) (L1++Lf)):
  du P l fr fin k .f ⟨dd,.call ⟨.value (.func f),args,ts⟩,ty,pos,af,g⟩ sk acc L:=by
 have hc':=hc
 rw [←iI hi] at hc'
 exact sl (fun c L' ⟨L1,h1,h2⟩ hk=>by subst h2;exact hK c L1 h1 hk) hg (fun B=>mO Lc Lf hv (fun σ vs h=>h.im) hL hc') fun c L' ⟨L1,h1,h2⟩=>by subst h2;exact h c L1 h1
end
theorem bZ.any {P:Program} {f:FuncId} {args:List AV} {u:AV} (h:bZ P f args u) (L:AL):AC P f args L fun c L'=>c=u∧∃L1,L'=L1++L:=(AC.frame (Lf:=L) h).mono fun c L' ⟨L1,h1,h2⟩=>⟨h1,L1,h2⟩
end Go.Proofs.YtjjpkibjffmceaaGreat
