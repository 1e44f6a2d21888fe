/-
  What is kept is the least set that has what a request begins with, and that nothing more can come of.
-/
import Derived.Test.YtpbinloeemebkaaGreatM25
import Derived.Test.YtpbinloeemebkaaGreatM06
import Derived.Test.YtpbinloeemebkaaGreatM05
import Derived.Test.YtpbinloeemebkaaGreatM21
import Derived.Test.YtpbinloeemebkaaGreatM07
import Derived.WalkSpells
import Derived.Test.YtpbinloeemebkaaGreatM11
namespace Go.Proofs.YtpbinloeemebkaaGreat
section
variable {f:aL}
theorem BU {S T:List Int} (h:∀z∈S,z∈T) (x:iN):dq f T (adv f S x)=dq f T x:=by
 have hall:∀l:List (List Int),((l.dropWhile fun s=>s.any (fx f S x.ign)).all fun s=>s.any (fx f T x.ign))=l.all fun s=>s.any (fx f T x.ign):=by
  intro l
  induction l with
  | nil=>rfl
  | cons s l ih=>
   rw [List.dropWhile_cons]
   split
   ·rename_i hs
    have:(s.any (fx f T x.ign))=true:=by
     rw [List.any_eq_true] at hs ⊢
     obtain ⟨y,hy,hp⟩:=hs
     exact ⟨y,hy,mj h hp⟩
    rw [ih,List.all_cons,this,Bool.true_and]
   ·rfl
 unfold dq adv iN.rest
 dsimp only
 rw [hall]
 rfl
def lh (f:aL) (S:List Int) (hs hs':List iN):Prop:=∀T,(∀z∈S,z∈T)→hs.map (dq f T)=hs'.map (dq f T)
theorem lh.step {S:List Int} {hs hs':List iN} (h:lh f S hs hs') {T:List Int} (hT:∀z∈S,z∈T):eo f T hs=eo f T hs':=by
 unfold eo
 rw [List.flatMap_def,List.flatMap_def,h T hT]
theorem lh.adv {S:List Int} {hs hs':List iN} (h:lh f S hs hs') {T:List Int} (hT:∀z∈S,z∈T):lh f T (hs.map (adv f S)) hs':=by
 intro U hU
 rw [←h U fun z hz=>hU z (hT z hz),List.map_map]
 exact List.map_congr_left fun x _=>BU (fun z hz=>hU z (hT z hz)) x
theorem o8 {S:List Int} {hs:List iN} {z:Int}:z∈eo f S hs↔(z∈eQ f S∨∃h∈hs,z∈dq f S h)∧0≤z∧z < f.Glyphs.length:=by
 unfold eo
 rw [f3,List.mem_append,List.mem_flatMap]
 exact ⟨fun h=>h.elim (fun h=>by cases h) id,.inr⟩
theorem ml {S T:List Int} (h:∀z∈S,z∈T) {hs:List iN} {z:Int} (hz:z∈eo f S hs):z∈eo f T hs:=by
 rw [o8] at hz ⊢
 refine ⟨?_,hz.2⟩
 rcases hz.1 with k | ⟨x,hx,k⟩
 ·refine .inl ?_
  unfold eQ at k ⊢
  obtain ⟨y,hy,k⟩:=List.mem_flatMap.1 k
  exact List.mem_flatMap.2 ⟨y,h y hy,k⟩
 ·exact .inr ⟨x,hx,lS h k⟩
theorem BL {S T:List Int} (hS:S.Nodup) (hT:T.Nodup) (h:∀z∈S,z∈T) (hl:T.length=S.length):∀z∈T,z∈S:=by
 intro z hz
 refine Classical.byContradiction fun hn=>?_
 have:=sC (S:=z::S) (T:=T) (List.nodup_cons.2 ⟨hn,hS⟩) fun y hy=>by
  rcases List.mem_cons.1 hy with rfl | hy
  ·exact hz
  ·exact h y hy
 rw [List.length_cons] at this
 omega
theorem uu (hs0:List iN):∀(k:Nat) (S:List Int) (hs:List iN),cE f.Glyphs.length S→f.Glyphs.length < S.length+k→lh f S hs hs0→∀K,fA f k S hs=K→cE f.Glyphs.length K∧(∀z∈S,z∈K)∧(∀z∈eo f K hs0,z∈K)∧∀C,(∀z∈S,z∈C)→(∀z∈eo f C hs0,z∈C)→∀z∈K,z∈C
 | 0,S,hs,hS,hl,_,K,_=>by have:=hS.len;omega
 | k+1,S,hs,hS,hl,hh,K,hK=>by
  have he:eo f S hs=eo f S hs0:=hh.step fun _ h=>h
  have hsub:=rO (hs:=hs) hS
  have hok:=l9 f S hs
  rw [fA] at hK
  split at hK
  ·rename_i heq
   subst hK
   refine ⟨hS,fun _ h=>h,fun z hz=>?_,fun C hC _=>hC⟩
   rw [←he] at hz
   exact BL hS.nodup hok.nodup hsub heq z hz
  ·rename_i hne
   have hlen:=sC hS.nodup hsub
   obtain ⟨h1,h2,h3,h4⟩:=uu hs0 k (eo f S hs) (hs.map (Go.Proofs.YtpbinloeemebkaaGreat.adv f S)) hok (by omega) (hh.adv hsub) K hK
   refine ⟨h1,fun z hz=>h2 z (hsub z hz),h3,fun C hC hcl=>h4 C (fun z hz=>?_) hcl⟩
   rw [he] at hz
   exact hcl z (ml hC hz)
theorem cE.start {n:Nat} {l:List Int}:cE n (cg n [] l):=cE.nil.add _
open Classical in
theorem uo {fs:List ByteArray} {z:Int}:z∈dT f fs↔fX f fs z:=by
 unfold dT
 rw [List.mem_filter,decide_eq_true_iff,List.mem_map]
 refine ⟨fun h=>h.2,fun h=>⟨?_,h⟩⟩
 have:=h.in
 exact ⟨z.toNat,by rw [List.mem_range];omega,by simp;omega⟩
structure E6 (f:aL) (rs:List Int) (fs:List ByteArray) (K:List Int):Prop where
 ok:cE f.Glyphs.length K
 start:∀z∈ej f rs,z∈K
 closed:∀z∈ca f (dT f fs) K,z∈K
 least:∀C,(∀z∈ej f rs,z∈C)→(∀z∈ca f (dT f fs) C,z∈C)→∀z∈K,z∈C
theorem qi {ks C:List Int} {z:Int} (hz:z∈ca f ks C):z∈eo f C (dR f (cg f.Lookups.length [] ks)):=by
 unfold ca at hz
 refine ml (fun y hy=>?_) hz
 rcases f3.1 hy with k | k
 ·cases k
 ·exact k.1
theorem iK {ks C:List Int} {z:Int} (hC:∀z∈C,0≤z∧z < f.Glyphs.length) (hz:z∈eo f C (dR f (cg f.Lookups.length [] ks))):z∈ca f ks C:=by
 unfold ca
 exact ml (fun y hy=>f3.2 (.inr ⟨hy,hC y hy⟩)) hz
theorem wZ (rs:List Int) (fs:List ByteArray):E6 f rs fs (gm f rs fs):=by
 have hS:cE f.Glyphs.length (ej f rs):=cE.start
 obtain ⟨h1,h2,h3,h4⟩:=uu (f:=f) (dR f (cg f.Lookups.length [] (dT f fs))) (f.Glyphs.length+1) (ej f rs) _ hS (by omega) (fun T _=>rfl) _ rfl
 refine ⟨h1,h2,fun z hz=>h3 z (qi hz),fun C hC hcl z hz=>?_⟩
 have:=h4 (C.filter fun z=>decide (0≤z∧z < f.Glyphs.length)) (fun z hz=>List.mem_filter.2 ⟨hC z hz,decide_eq_true (hS.dom z hz)⟩) (fun z hz=>?_) z hz
 ·exact (List.mem_filter.1 this).1
 ·have hd:=(l9 f _ _).dom z hz
  refine List.mem_filter.2 ⟨hcl z ?_,decide_eq_true hd⟩
  refine qW (fun _ h=>h) (fun y hy=>(List.mem_filter.1 hy).1) z (iK (fun y hy=>?_) hz)
  exact Hy (List.mem_filter.1 hy).2
end
end Go.Proofs.YtpbinloeemebkaaGreat
namespace Go.Proofs.YtpbinloeemebkaaGreat
open Go.RowKit
attribute [local irreducible] AT bO AX AO Av Kt bo dU DA cT
theorem BW:∀z∈lT,pu z=false:=by decide
theorem Bz (bs:List Int):(n4 bs).any pu=false:=by
 rw [Bool.eq_false_iff]
 intro h
 obtain ⟨z,hz,hb⟩:=List.any_eq_true.1 h
 unfold n4 oO at hz
 obtain ⟨y,_,rfl⟩:=List.mem_map.1 hz
 have hm:lT.getD (y % 17).toNat 0∈lT:=pL (by
  have h0:0≤y % 17:=Int.emod_nonneg y (by omega)
  have h1:y % 17 < 17:=Int.emod_lt_of_pos y (by omega)
  simp only [lT,ez,List.length_append,List.length_cons,List.length_nil]
  omega) 0
 rw [BW _ hm] at hb
 cases hb
theorem yN (bs:List Int):(n4 bs).length≤20:=by
 unfold n4 oO
 rw [Hu,List.length_take]
 omega
theorem u4 {f:aL} (h:eA f) (rs:List Int) (fs:List ByteArray) (hr:rs.any pu=false):bM Tryz.prog 15 [cx f,sW rs fs] (.tup [.imm 1 (aS (dt (gm f rs fs))),aH 0]):=by
 have hg:=nj f h.small (fun _=>h.acyc) rs fs
 unfold ia at hg
 rw [if_pos h.right,if_neg (by rw [hr];exact fun e=>by cases e)] at hg
 exact hg
theorem EC (f:aL) (h:eA f) (bs:List Int):(qj f bs).length≤8:=by
 have:=rG f bs f.Features.length
 have hfl:=h.featN.length_le
 simp only [Hu,eV,List.length_cons,List.length_nil] at hfl
 unfold qj
 omega
theorem AI {f:aL} {rs:List Int} {fs:List ByteArray}:∀z,z∈dt (gm f rs fs)↔z∈gm f rs fs:=fun z=>(j3 _).mem_iff
theorem zW {f:aL} (hG:eA f) {rs:List Int} {fs:List ByteArray}:∀z∈0::vg rs f.Chars,z∈gm f rs fs:=by
 intro z hz
 refine (wZ (f:=f) rs fs).start z ?_
 unfold ej
 refine f3.2 (.inr ⟨hz,?_⟩)
 have hn:=hG.glyN
 rcases List.mem_cons.1 hz with rfl | hz
 ·omega
 ·unfold vg at hz
  obtain ⟨c,hc,rfl⟩:=List.mem_map.1 hz
  exact hG.charG c (List.mem_filter.1 hc).1
def FJ (H:List Int) (z:Int):List Int:=if z∈H then H else H++[z]
def Gi (H S:List Int):List Int:=S.foldl FJ H
def GN (n:Nat) (H0 H:List Int):Prop:=∃E,H=H0++E∧E.Nodup∧∀z∈E,0≤z∧z < n
structure NS where
 q:Option (Nat×Nat)
 H:List Int
 n:Nat
structure b6 where
 Glyph:Int
 Cluster:Int
 Form:Int
 Advance:Int
 X:Int
 Y:Int
def cI (x:b6):List AV:=[aH x.Glyph,aH x.Cluster,aH x.Form,aH x.Advance,aH x.X,aH x.Y]
def mR (ms:List Bool) (g:Int):Bool:=decide (0≤g) && ms.getD g.toNat false
def l7 (ms:List Bool) (ig:Bool) (x:b6):Bool:= !(ig && mR ms x.Glyph)
def fM (ms:List Bool) (ig:Bool) (run:List b6) (i:Nat):Bool:=match run[i]? with
 | some x=>l7 ms ig x
 | none=>false
def dy (ms:List Bool) (ig:Bool) (run:List b6) (i:Nat):List Nat:=(List.range' i (run.length - i)).filter (fM ms ig run)
def gM (ms:List Bool) (ig:Bool) (run:List b6):Nat→List Nat
 | 0=>[]
 | i+1=>if fM ms ig run i=true then i::gM ms ig run i else gM ms ig run i
def dH (run:List b6) (i:Nat):Int:=match run[i]? with
 | some x=>x.Glyph
 | none=> -1
def fits:List (List Int)→List Int→Bool
 | [],_=>true
 | _::_,[]=>false
 | s::ss,g::gs=>s.contains g && fits ss gs
def eg (ms:List Bool) (ig:Bool) (run:List b6) (i:Nat) (r:bv):Bool:=
 !r.In.isEmpty && (fits (r.In++r.Ahead) ((dy ms ig run i).map (dH run)) && fits r.Back ((gM ms ig run i).map (dH run)))
def m5 (ms:List Bool) (ig:Bool) (run:List b6) (i:Nat) (forms:List Int):Bool:=match run[i]? with
 | some x=>l7 ms ig x && (forms.isEmpty || forms.contains x.Form)
 | none=>false
def gc (ms:List Bool) (l:aP) (run:List b6) (i:Nat) (forms:List Int):Option bv:=if m5 ms l.Ignore run i forms=true then l.Rules.find? (eg ms l.Ignore run i) else none
def dw (ms:List Bool) (l:aP) (run:List b6) (i:Nat) (r:bv):List Nat:=(dy ms l.Ignore run i).take r.In.length
def eZ (r:bv) (i:Nat) (run:List b6):List b6:=match run[i]? with
 | none=>run
 | some x=>match r.Out[(r.In.headD []).idxOf x.Glyph]? with
  | none=>run
  | some g=>if (r.In.headD []).idxOf x.Glyph < (r.In.headD []).length then run.set i { x with Glyph:=g } else run
def ja (r:bv) (i:Nat) (run:List b6):List b6:=match run[i]? with
 | none=>run
 | some x=>if run.length - 1+r.Out.length > 500∧1 < r.Out.length then run else run.take i++(r.Out.map fun g=>{ x with Glyph:=g })++run.drop (i+1)
def f7:List Nat→List b6→List b6
 | [],run=>run
 | p::ps,run=>(f7 ps run).eraseIdx p
def nU (run:List b6) (c:Int) (p:Nat):Int:=match run[p]? with
 | some x=>min c x.Cluster
 | none=>c
def i3 (run:List b6) (ps:List Nat) (c:Int):Int:=ps.foldl (nU run) c
def lL (r:bv) (ps:List Nat) (run:List b6):List b6:=match ps,r.Out with
 | p::q,g::_=>match run[p]? with
  | some x=>f7 q (run.set p { x with Glyph:=g,Cluster:=i3 run (p::q) x.Cluster })
  | none=>run
 | _,_=>run
def qh (r:bv) (i:Nat) (run:List b6):List b6:=match run[i]? with
 | some x=>run.set i { x with Advance:=IntKind.i64.wrap (x.Advance+r.X) }
 | none=>run
def wc (ms:List Bool) (ig:Bool) (run:List b6) (i:Nat) (n:Int):Option Nat:=if 0≤n then (dy ms ig run i)[n.toNat]? else none
def eR (l:aP) (r:bv) (ps:List Nat) (run:List b6):List b6:=
 if l.Kind=1∨l.Kind=5 then eZ r (ps.headD 0) run
 else if l.Kind=2 then ja r (ps.headD 0) run
 else if l.Kind=3 then lL r ps run
 else if l.Kind=6 then qh r (ps.headD 0) run
 else run
abbrev Ge:=aP→bv→List Nat→List b6→List b6
def kH (ms:List Bool) (ls:List aP) (d:Ge) (n:Int) (i:Nat) (run:List b6):List b6:=
 if n < 0 then run else match ls[n.toNat]? with
 | none=>run
 | some l=>if l.Kind < 1∨4 < l.Kind then run else match gc ms l run i [] with
  | none=>run
  | some r=>d l r (dw ms l run i r) run
def fY (ms:List Bool) (ls:List aP) (d:Ge) (ig:Bool) (i:Nat) (run:List b6) (c:gH):List b6:=match wc ms ig run i c.At with
 | none=>run
 | some p=>kH ms ls d c.Lookup p run
def iU (ms:List Bool) (ls:List aP):Nat→Ge
 | 0=>fun l r ps run=>eR l r ps run
 | k+1=>fun l r ps run=>if l.Kind=4 then r.Calls.foldl (fY ms ls (iU ms ls k) l.Ignore (ps.headD 0)) run else eR l r ps run
def oE (l:aP) (i last:Nat) (run run':List b6):Nat:=
 if l.Kind=4 then max (run'.length - (run.length - 1 - last)) (i+1)
 else if l.Kind=6∧i < last then last
 else run'.length - (run.length - 1 - last)
def uN (ms:List Bool) (ls:List aP) (l:aP) (forms:List Int):Nat→Nat→List b6→List b6
 | 0,_,run=>run
 | k+1,i,run=>if i < run.length then match gc ms l run i forms with
   | none=>uN ms ls l forms k (i+1) run
   | some r=>uN ms ls l forms k (oE l i ((dw ms l run i r).getLastD i) run (iU ms ls 4 l r (dw ms l run i r) run)) (iU ms ls 4 l r (dw ms l run i r) run)
  else run
def iV (ms:List Bool) (ls:List aP) (l:aP) (forms:List Int):Nat→List b6→List b6
 | 0,run=>run
 | i+1,run=>iV ms ls l forms i (match gc ms l run i forms with
  | none=>run
  | some r=>iU ms ls 4 l r (dw ms l run i r) run)
def gt (ms:List Bool) (ls:List aP) (n:Int) (run:List b6) (forms:List Int):List b6:=
 if n < 0 then run else match ls[n.toNat]? with
 | none=>run
 | some l=>if l.Kind < 1∨6 < l.Kind then run else if l.Kind=5 then iV ms ls l forms run.length run else uN ms ls l forms run.length 0 run
def oU (K:List Int) (run:List b6):Prop:=∀x∈run,x.Glyph∈K
theorem rN {ms:List Bool} {ig:Bool} {run:List b6} {i j:Nat} (h:j∈dy ms ig run i):fM ms ig run j=true:=(List.mem_filter.1 h).2
theorem o6 {ms:List Bool} {ig:Bool} {run:List b6} {j:Nat}:∀{i:Nat},j∈gM ms ig run i→fM ms ig run j=true
 | 0,h=>by cases h
 | i+1,h=>by
  unfold gM at h
  split at h
  ·rename_i hs
   rcases List.mem_cons.1 h with rfl | h
   ·exact hs
   ·exact o6 h
  ·exact o6 h
theorem pI {p:Int→Bool}:∀{ss:List (List Int)} {gs:List Int},fits ss gs=true→(∀g∈gs,p g=true)→∀s∈ss,s.any p=true
 | [],_,_,_,s,hs=>by cases hs
 | _::_,[],h,_,_,_=>by cases h
 | t::ss,g::gs,h,hp,s,hs=>by
  simp only [fits,Bool.and_eq_true] at h
  rcases List.mem_cons.1 hs with rfl | hs
  ·exact List.any_eq_true.2 ⟨g,by simpa using h.1,hp g (List.mem_cons_self ..)⟩
  ·exact pI h.2 (fun g hg=>hp g (Ht _ hg)) s hs
section
variable {f:aL} {K:List Int} (hd:∀z∈K,0≤z∧z < f.Glyphs.length)
include hd
theorem wq {ig:Bool} {run:List b6} {j:Nat} (hr:oU K run) (h:fM (f.Glyphs.map bn.Mark) ig run j=true):fx f K ig (dH run j)=true:=by
 unfold fM at h
 unfold dH
 split at h
 ·rename_i x hx
  have hk:=hr x (Hw hx)
  have hz:=hd _ hk
  unfold fx zp
  rw [decide_eq_true hz,List.contains_iff_mem.2 hk]
  have hmk:u5 f x.Glyph=mR (f.Glyphs.map bn.Mark) x.Glyph:=by
   unfold u5 mR
   rw [decide_eq_true hz.1,List.getD_eq_getElem?_getD,List.getElem?_map]
   cases f.Glyphs[x.Glyph.toNat]? <;> rfl
  rw [hmk]
  exact h
 ·cases h
theorem FS {l:aP} {r:bv} {run:List b6} {i:Nat} (hr:oU K run) (h:eg (f.Glyphs.map bn.Mark) l.Ignore run i r=true):((jP l r).unmet.all fun s=>s.any (fx f K l.Ignore))=true:=by
 unfold eg at h
 simp only [Bool.and_eq_true] at h
 have h1:=pI (p:=fx f K l.Ignore) h.2.1 fun g hg=>by
  obtain ⟨j,hj,rfl⟩:=List.mem_map.1 hg
  exact wq hd hr (rN hj)
 have h2:=pI (p:=fx f K l.Ignore) h.2.2 fun g hg=>by
  obtain ⟨j,hj,rfl⟩:=List.mem_map.1 hg
  exact wq hd hr (o6 hj)
 refine List.all_eq_true.2 fun s hs=>?_
 rcases Hn hs with hs | hs
 ·exact h1 s (List.mem_append_left _ hs)
 ·rcases Hn hs with hs | hs
  ·exact h2 s hs
  ·exact h1 s (List.mem_append_right _ hs)
theorem F6 {fs:List ByteArray} (hcl:∀z∈ca f (dT f fs) K,z∈K) {n:Int} (hn:fX f fs n) {l:aP} (hl:f.Lookups[n.toNat]?=some l) {r:bv} (hrl:r∈l.Rules) (hin:r.In≠[]) (hO:∀z∈r.Out,0≤z∧z < f.Glyphs.length) {run:List b6} {i:Nat} (hr:oU K run) (h:eg (f.Glyphs.map bn.Mark) l.Ignore run i r=true):∀z∈gT (jP l r) (fx f K l.Ignore),z∈K:=by
 intro z hz
 have hzo:z∈r.Out:=by
  unfold gT at hz
  split at hz
  ·obtain ⟨⟨a,b⟩,hx,rfl⟩:=List.mem_map.1 hz
   exact (List.of_mem_zip (List.mem_filter.1 hx).1).1
  ·split at hz
   ·exact hz
   ·split at hz
    ·exact List.mem_of_mem_take hz
    ·cases hz
 refine hcl z (iK hd (o8.2 ⟨.inr ⟨jP l r,?_,?_⟩,hO z hzo⟩))
 ·unfold dR
  refine List.mem_flatMap.2 ⟨n,f3.2 (.inr ⟨uo.2 hn,hn.in⟩),?_⟩
  unfold kR
  rw [hl]
  exact List.mem_map_of_mem (List.mem_filter.2 ⟨hrl,decide_eq_true hin⟩)
 ·unfold dq
  exact (if_pos (show ((jP l r).unmet.all fun s=>s.any (fx f K (jP l r).ign))=true from FS hd hr h)).symm▸hz
theorem F4 {l:aP} {r:bv} {run:List b6} (hr:oU K run) (ht:∀z∈gT (jP l r) (fx f K l.Ignore),z∈K) {ps:List Nat} (hs:fM (f.Glyphs.map bn.Mark) l.Ignore run (ps.headD 0)=true):oU K (eR l r ps run):=by
 have hset:∀(i:Nat) (y:b6),y.Glyph∈K→oU K (run.set i y):=fun i y hy x hx=>by
  rcases List.mem_or_eq_of_mem_set hx with h | rfl
  ·exact hr x h
  ·exact hy
 have hdrop:∀(q:List Nat) (w:List b6),oU K w→oU K (f7 q w):=by
  intro q
  induction q with
  | nil=>intro w h;exact h
  | cons p q ih=>intro w h x hx;exact ih w h x (List.mem_of_mem_eraseIdx hx)
 unfold eR
 split
 ·rename_i hk
  unfold eZ
  split
  ·exact hr
  ·rename_i x hx
   split
   ·exact hr
   ·rename_i g hg
    split
    ·rename_i hlt
     refine hset _ _ (ht g ?_)
     have hk':(jP l r).kind=1∨(jP l r).kind=5:=hk
     unfold gT
     rw [if_pos hk']
     refine List.mem_map.2 ⟨(g,x.Glyph),List.mem_filter.2 ⟨?_,?_⟩,rfl⟩
     ·refine Hw (i:=(r.In.headD []).idxOf x.Glyph) ?_
      rw [List.getElem?_zip_eq_some]
      refine ⟨hg,?_⟩
      show (r.In.headD [])[(r.In.headD []).idxOf x.Glyph]?=some x.Glyph
      rw [Hz hlt,List.getElem_idxOf]
     ·have:=wq hd hr hs
      unfold dH at this
      rw [hx] at this
      exact this
    ·exact hr
 ·rename_i hk
  have hk1:¬((jP l r).kind=1∨(jP l r).kind=5):=hk
  split
  ·rename_i hk2
   have hk2':(jP l r).kind=2:=hk2
   unfold ja
   split
   ·exact hr
   ·rename_i x hx
    split
    ·exact hr
    ·intro y hy
     rcases Hn hy with hy | hy
     ·rcases Hn hy with hy | hy
      ·exact hr y (List.mem_of_mem_take hy)
      ·obtain ⟨g,hg,rfl⟩:=List.mem_map.1 hy
       refine ht g ?_
       unfold gT
       rw [if_neg hk1,if_pos hk2']
       exact hg
     ·exact hr y (List.mem_of_mem_drop hy)
  ·rename_i hk2
   have hk2':¬(jP l r).kind=2:=hk2
   split
   ·rename_i hk3
    have hk3':(jP l r).kind=3:=hk3
    unfold lL
    split
    ·rename_i p q g gs hO
     split
     ·refine hdrop _ _ (hset _ _ (ht g ?_))
      unfold gT
      rw [if_neg hk1,if_neg hk2',if_pos hk3']
      show g∈r.Out.take 1
      rw [hO]
      exact List.mem_cons_self ..
     ·exact hr
    ·exact hr
   ·split
    ·unfold qh
     split
     ·rename_i x hx
      exact hset _ _ (hr x (Hw hx))
     ·exact hr
    ·exact hr
theorem xa {l:aP} {run:List b6} {i:Nat} {forms:List Int} {r:bv} (h:gc (f.Glyphs.map bn.Mark) l run i forms=some r):r∈l.Rules∧r.In≠[]∧eg (f.Glyphs.map bn.Mark) l.Ignore run i r=true∧fM (f.Glyphs.map bn.Mark) l.Ignore run ((dw (f.Glyphs.map bn.Mark) l run i r).headD 0)=true:=by
 have _:=hd
 unfold gc at h
 split at h
 ·have h1:=List.mem_of_find?_eq_some h
  have h2:=List.find?_some h
  have h3:=h2
  unfold eg at h3
  simp only [Bool.and_eq_true] at h3
  have hin:r.In≠[]:=fun e=>by rw [e] at h3;exact absurd h3.1 (by decide)
  refine ⟨h1,hin,h2,?_⟩
  obtain ⟨s,ss,hss⟩:=List.exists_cons_of_ne_nil hin
  unfold dw
  have h4:=h3.2.1
  cases hf:dy (f.Glyphs.map bn.Mark) l.Ignore run i with
  | nil=>rw [hf,hss] at h4;cases h4
  | cons p q=>
   rw [hss,List.length_cons,List.take_succ_cons]
   exact rN (i:=i) (by rw [hf];exact List.mem_cons_self ..)
 ·cases h
theorem FD {fs:List ByteArray} (hcl:∀z∈ca f (dT f fs) K,z∈K) (hO:∀l∈f.Lookups,∀r∈l.Rules,∀z∈r.Out,0≤z∧z < f.Glyphs.length):∀(k:Nat) {n:Int} (_:fX f fs n) {l:aP} (_:f.Lookups[n.toNat]?=some l) {r:bv} {run:List b6} {i:Nat} {forms:List Int} (_:oU K run) (_:gc (f.Glyphs.map bn.Mark) l run i forms=some r),oU K (iU (f.Glyphs.map bn.Mark) f.Lookups k l r (dw (f.Glyphs.map bn.Mark) l run i r) run):=by
 have hstep:∀{n:Int} (_:fX f fs n) {l:aP} (_:f.Lookups[n.toNat]?=some l) {r:bv} {run:List b6} {i:Nat} {forms:List Int} (_:oU K run) (_:gc (f.Glyphs.map bn.Mark) l run i forms=some r),oU K (eR l r (dw (f.Glyphs.map bn.Mark) l run i r) run):=fun {n} hn {l} hl {r run i forms} hr hm=>by
  obtain ⟨h1,h2,h3,h4⟩:=xa hd hm
  exact F4 hd hr (F6 hd hcl hn hl h1 h2 (hO l (Hw hl) r h1) hr h3) h4
 intro k
 induction k with
 | zero=>intro n hn l hl r run i forms hr hm;exact hstep hn hl hr hm
 | succ k ih=>
  intro n hn l hl r run i forms hr hm
  rw [iU]
  dsimp only
  split
  ·rename_i hk
   have hrl:=(xa hd hm).1
   generalize (dw (f.Glyphs.map bn.Mark) l run i r).headD 0=p
   suffices hall:∀(cs:List gH) (w:List b6),(∀c∈cs,c∈r.Calls)→oU K w→oU K (cs.foldl (fY (f.Glyphs.map bn.Mark) f.Lookups (iU (f.Glyphs.map bn.Mark) f.Lookups k) l.Ignore p) w) from hall r.Calls run (fun _ h=>h) hr
   intro cs
   induction cs with
   | nil=>intro w _ hw;exact hw
   | cons c cs ihc=>
    intro w hc hw
    rw [List.foldl_cons]
    refine ihc _ (fun c h=>hc c (Ht _ h)) ?_
    have hcm:=hc c (List.mem_cons_self ..)
    unfold fY
    split
    ·exact hw
    ·unfold kH
     split
     ·exact hw
     ·rename_i h0
      split
      ·exact hw
      ·rename_i l2 hl2
       split
       ·exact hw
       ·rename_i hk2
        split
        ·exact hw
        ·rename_i r2 hm2
         refine ih (.call hn hl hk hrl hcm ?_) hl2 hw hm2
         unfold lH
         rw [hl2]
         exact decide_eq_true ⟨by omega,by omega⟩
  ·exact hstep hn hl hr hm
theorem Cl {fs:List ByteArray} (hcl:∀z∈ca f (dT f fs) K,z∈K) (hO:∀l∈f.Lookups,∀r∈l.Rules,∀z∈r.Out,0≤z∧z < f.Glyphs.length) {n:Int} (hn:fX f fs n) {run:List b6} (hr:oU K run) (forms:List Int):oU K (gt (f.Glyphs.map bn.Mark) f.Lookups n run forms):=by
 unfold gt
 split
 ·exact hr
 ·split
  ·exact hr
  ·rename_i l hl
   split
   ·exact hr
   ·have hon:∀(k i:Nat) (w:List b6),oU K w→oU K (uN (f.Glyphs.map bn.Mark) f.Lookups l forms k i w):=by
     intro k
     induction k with
     | zero=>intro i w hw;exact hw
     | succ k ih=>
      intro i w hw
      rw [uN]
      split
      ·split
       ·exact ih _ _ hw
       ·rename_i r hm
        exact ih _ _ (FD hd hcl hO 4 hn hl hw hm)
      ·exact hw
    have hdn:∀(i:Nat) (w:List b6),oU K w→oU K (iV (f.Glyphs.map bn.Mark) f.Lookups l forms i w):=by
     intro i
     induction i with
     | zero=>intro w hw;exact hw
     | succ i ih=>
      intro w hw
      rw [iV]
      refine ih _ ?_
      split
      ·exact hw
      ·rename_i r hm
       exact FD hd hcl hO 4 hn hl hw hm
    split
    ·exact hdn _ _ hr
    ·exact hon _ _ _ hr
end
end Go.Proofs.YtpbinloeemebkaaGreat
namespace Go.Proofs.YtpbinloeemebkaaGreat
open Go.RowKit
attribute [local irreducible] AT bO AX AO Av Kt bo dU DA cT
def wL (p:Nat→Bool):Nat→Nat
 | 0=>0
 | n+1=>wL p n ||| (if p n=true then 2 ^ n else 0)
section
variable (cls:List Int) (rows:List (List (List Int))) (have_:Nat→Bool)
def D8 (c:Nat) (s:List Int):Bool:=s.any fun g=>decide (0≤g) && (decide (g < cls.length) && decide (cls.getD g.toNat (-1)=(c:Int)))
def G0 (m c:Nat) (n:Nat):Bool:=match rows[n]? with
 | some r=>match r[m]? with
  | some s=>D8 cls c s
  | none=>false
 | none=>false
def FE (m:Nat) (n:Nat):Bool:=match rows[n]? with
 | some r=>decide (r.length=m)
 | none=>false
def DX (m c:Nat):Nat:=wL (G0 cls rows m c) rows.length
def FF (m:Nat):Nat:=wL (FE rows m) rows.length
def EA:Nat×Nat:=(0,wL have_ rows.length)
def s6 (p:Nat×Nat) (c:Nat):Nat×Nat:=if p.2 &&& DX cls rows p.1 c=0 then (0,0) else (p.1+1,p.2 &&& DX cls rows p.1 c)
def FG (p:Nat×Nat):Nat:=if p.2=0 then 0 else p.2 &&& FF rows p.1
structure GQ (C:Nat) (tab:List (List Int)) (ends:List Nat):Prop where
 met:∃met:List (Nat×Nat),met[0]?=some (EA rows have_)∧met.length=tab.length∧met.length=ends.length∧
  (∀(i:Nat) p,met[i]?=some p→ends[i]?=some (FG rows p))∧
  (∀(i:Nat) p q,met[i]?=some p→tab[i]?=some q→q.length=C∧∀(c:Nat) z,q[c]?=some z→((s6 cls rows p c).2=0∧z= -1)∨((s6 cls rows p c).2≠0∧0≤z∧met[z.toNat]?=some (s6 cls rows p c)))
end
def Bj (cls:List Int) (tab:List (List Int)) (s:Int) (g:Int):Int:=
 if s < 0∨g < 0 then -1 else match tab[s.toNat]?,cls[g.toNat]? with
 | some GY,some c=>if c < 0 then -1 else match GY[c.toNat]? with
  | some z=>if 0≤z∧z < tab.length then z else -1
  | none=> -1
 | _,_=> -1
def DK (ends:List Nat) (s:Int):Nat:=if s < 0 then 0 else ends.getD s.toNat 0
def E2 (cls:List Int) (tab:List (List Int)) (ends:List Nat):Int→List Int→Nat→Nat
 | _,[],told=>told
 | s,g::r,told=>if Bj cls tab s g= -1 then told else E2 cls tab ends (Bj cls tab s g) r (told ||| DK ends (Bj cls tab s g))
def GX (cls:List Int) (tab:List (List Int)) (ends:List Nat) (gl:List Int):Nat:=E2 cls tab ends 0 gl (DK ends 0)
structure GL (n:Nat) (C:Nat) (cls:List Int) (sets:List (List Int)):Prop where
 len:cls.length=n
 dom:∀z∈cls,0≤z∧z < C
 apart:∀s∈sets,∀(i j:Nat) z,cls[i]?=some z→cls[j]?=some z→((i:Int)∈s↔(j:Int)∈s)
def H6 (rows:List (List (List Int))) (have_:Nat→Bool) (gl:List Int) (n:Nat):Bool:=match rows[n]? with
 | some r=>have_ n && (decide (gl.length≤r.length) && fits (r.take gl.length) gl)
 | none=>false
theorem jK:∀{a:List (List Int)} {b:List Int},b.length < a.length→fits a b=false
 | [],_,h=>by simp at h
 | _::_,[],_=>rfl
 | _::a,_::b,h=>by rw [fits,jK (by simpa using h),Bool.and_false]
section
variable {cls:List Int} {rows:List (List (List Int))} {have_:Nat→Bool} {N C:Nat} {sets:List (List Int)}
def Gt (rows:List (List (List Int))) (have_:Nat→Bool) (gl:List Int) (n:Nat):Bool:=match rows[n]? with
 | some r=>have_ n && fits r gl
 | none=>false
end
end Go.Proofs.YtpbinloeemebkaaGreat
namespace Go.Proofs.YtpbinloeemebkaaGreat
open Go.RowKit
attribute [local irreducible] AT bO AX AO Av Kt bo dU DA cT
theorem nJ:∀{ss:List (List Int)} {gl:List Int} {k:Nat},ss.length≤k→fits ss (gl.take k)=fits ss gl
 | [],_,_,_=>rfl
 | _::_,[],k,_=>by rw [List.take_nil]
 | _::ss,_::gl,0,h=>by simp at h
 | s::ss,g::gl,k+1,h=>by rw [List.take_succ_cons,fits,fits,nJ (by simpa using h)]
theorem tJ {α:Type} {q:α→Bool} {l:List α}:l.find? q=(l.findIdx? q).bind fun i=>l[i]?:=by
  cases h:l.findIdx? q with
  | none => rw [List.find?_eq_none.2]; · rfl
            intro x hx
            rw [List.findIdx?_eq_none_iff] at h
            rw [h x hx];decide
  | some i=>
    obtain ⟨hi,h1,h2⟩:=List.findIdx?_eq_some_iff_getElem.1 h
    rw [Option.bind_some,Hz hi,List.find?_eq_some_iff_getElem]
    exact ⟨h1,i,hi,rfl,fun j hj=>by simpa using h2 j hj⟩
def Gh (r:bv):List (List Int):=if r.In.isEmpty then [] else r.In++r.Ahead
def GT (rs:List bv) (n:Nat):Bool:=match rs[n]? with
 | some r=> !r.In.isEmpty
 | none=>false
def g8 (rs:List bv):Nat:=rs.foldl (fun m r=>max m (r.In.length+r.Ahead.length)) 0
def iS (rs:List bv):Nat:=rs.foldl (fun m r=>max m r.Back.length) 0
theorem mH {α:Type} {g:α→Nat}:∀{l:List α} {m:Nat},m≤l.foldl (fun m r=>max m (g r)) m∧∀r∈l,g r≤l.foldl (fun m r=>max m (g r)) m
 | [],m=>⟨Nat.le_refl _,fun r h=>by cases h⟩
 | x::l,m=>by
  have ih:=mH (g:=g) (l:=l) (m:=max m (g x))
  rw [List.foldl_cons]
  refine ⟨by have:=ih.1;omega,fun r hr=>?_⟩
  rcases List.mem_cons.1 hr with rfl | hr
  ·have:=ih.1;omega
  ·exact ih.2 r hr
section
variable {ms:List Bool} {ls:List aP} {l:aP} {run:List b6} {forms:List Int}
theorem vd {n:Int} (h:n < 0∨(ls.length:Int)≤n):gt ms ls n run forms=run:=by
 unfold gt
 by_cases h1:n < 0
 ·rw [if_pos h1]
 ·rw [if_neg h1,List.getElem?_eq_none (by omega)]
end
structure H3 (run:List b6):Prop where
 len:run.length≤500
 mono:run.Pairwise fun a b=>a.Cluster≤b.Cluster
theorem lp:∀{q:List Nat} {run:List b6},(f7 q run).Sublist run
 | [],_=>List.Sublist.refl _
 | p::q,run=>by rw [f7];exact (List.eraseIdx_sublist ..).trans lp
end Go.Proofs.YtpbinloeemebkaaGreat
namespace Go.Proofs.YtpbinloeemebkaaGreat
open Go.RowKit
attribute [local irreducible] AT bO AX AO Av Kt bo dU DA cT
section
variable {ms:List Bool} {ig:Bool} {run:List b6}
theorem yh {i:Nat} (h:run.length≤i):dy ms ig run i=[]:=by
 unfold dy
 rw [show run.length - i=0 by omega]
 rfl
theorem pK {i:Nat} (h:i < run.length):dy ms ig run i=if fM ms ig run i=true then i::dy ms ig run (i+1) else dy ms ig run (i+1):=by
 unfold dy
 rw [show run.length - i=(run.length - (i+1))+1 by omega,List.range'_succ,List.filter_cons]
theorem rM {i:Nat} {x:b6} (h:run[i]?=some x):fM ms ig run i=l7 ms ig x:=by
 unfold fM
 rw [h]
theorem vI {i:Nat} {x:b6} (h:run[i]?=some x):dH run i=x.Glyph:=by
 unfold dH
 rw [h]
theorem pJ {i:Nat}:∀p∈dy ms ig run i,i≤p∧p < run.length∧fM ms ig run p=true:=fun p hp=>by
 unfold dy at hp
 obtain ⟨h1,h2⟩:=List.mem_filter.1 hp
 obtain ⟨h3,h4⟩:=List.mem_range'_1.1 h1
 exact ⟨h3,by omega,h2⟩
theorem pt:∀{i:Nat},∀p∈gM ms ig run i,p < i∧fM ms ig run p=true
 | 0,p,h=>by cases h
 | i+1,p,h=>by
  rw [gM] at h
  split at h
  ·rename_i hs
   rcases List.mem_cons.1 h with rfl | h
   ·exact ⟨Nat.lt_succ_self _,hs⟩
   ·have:=pt p h
    exact ⟨by omega,this.2⟩
  ·have:=pt p h
   exact ⟨by omega,this.2⟩
end
end Go.Proofs.YtpbinloeemebkaaGreat
namespace Go.Proofs.YtpbinloeemebkaaGreat
open Go.RowKit
attribute [local irreducible] AT bO AX AO Av Kt bo dU DA cT
theorem tK:∀{a b:List (List Int)} {gl:List Int},fits (a++b) gl=(fits a gl && fits b (gl.drop a.length))
 | [],b,gl=>by simp [fits]
 | _::_,b,[]=>by simp [fits]
 | s::a,b,g::gl=>by
  rw [Hs,fits,tK,fits,List.length_cons,List.drop_succ_cons,Bool.and_assoc]
def DS (q:List Nat):Nat→List b6→List b6
 | _,[]=>[]
 | k,x::r=>if k∈q then DS q (k+1) r else x::DS q (k+1) r
end Go.Proofs.YtpbinloeemebkaaGreat
namespace Go.Proofs.YtpbinloeemebkaaGreat
open Go.RowKit
end Go.Proofs.YtpbinloeemebkaaGreat
namespace Go.Proofs.YtpbinloeemebkaaGreat
open Go.RowKit
def zu (P:Program) (u:AV) (args:List AV) (L:AL) (Post:AV→AL→Prop):Prop:=(∃f caps,bK P f∧jL u=some (f,caps)∧AC P f (args++caps) L Post)∨∃f fs caps,bK P f∧u= .fnB f fs caps∧AC P f (fs++(args++caps)) L Post
theorem zu.fn0 {P:Program} {f:FuncId} {args:List AV} {L:AL} {Post:AV→AL→Prop} [h:bK P f] (k:AC P f (args++[]) L Post):zu P (.sc (.func (.func f) #[] #[])) args L Post:= .inl ⟨f,[],h,rfl,k⟩
def GW (u:AV):Bool:=match u with
 | .fn _ _=>true
 | .fnB _ _ _=>true
 | .sc _=>true
 | _=>false
section
variable {P:Program} {r:Option Nat} {ops:Array Oper} {Q:Exit→Act→World→Prop} {nt:Nat} {D:List Deferred} {fr:c6} {B:Bs} {L:AL} {rest:List Oper} {d:Nat} {ty t:TypeId} {pos:String} {af:Array Edge} {x y z:Operand} {u:AV} {g:Option (Nat×Bool)}
theorem zN (Lc Lf:AL) {d:Option Tmp} {f:FuncId} {args:Array Operand} {ts:Array TypeId} {cs fs caps:List AV} {Post:AV→AL→Prop} [hf:bK P f] (hx:bt fr x=some (.fnB f fs caps)) (hv:ep fr args.toList=some cs) (hL:L.Perm (Lc++Lf)) (h:AC P f (fs++(cs++caps)) Lc Post):
  AO P ⟨d,.call ⟨.value x,args,ts⟩,ty,pos,af,g⟩ fr B L (fun c L'=>∃L1,Post c L1∧L'=L1++Lf):=by
 intro σ ρ w hρ hw0
 have hw:=hw0.perm hL
 obtain ⟨qs,ws,hw1,hw0',hw2⟩:=(hρ x _ hx).fnB_inv
 have hvs:=f4 hρ _ _ hv
 have e:args.map ρ=(args.toList.map ρ).toArray:=by apply Array.toList_inj.1;simp
 unfold gU
 rw [show (execOp ρ ⟨d,.call ⟨.value x,args,ts⟩,ty,pos,af,g⟩).run P w= .ok (.enter f (qs++(args.toList.map ρ++ws)).toArray) w by
  simp [execOp,resolve,hw1,Deferred.ofValue,invoke,hf.enters]]
 have happ:∀{ps bs:List AV} {us vs:List Value},dv σ ps us→dv σ bs vs→dv σ (ps++bs) (us++vs):=by
  intro ps bs us vs ha hb
  refine ⟨by rw [List.length_append,List.length_append,ha.1,hb.1],fun i c u hc hu=>?_⟩
  have hq:=ha.1
  by_cases hi:i < ps.length
  ·rw [List.getElem?_append_left hi] at hc
   rw [List.getElem?_append_left (by omega)] at hu
   exact ha.2 i c u hc hu
  ·rw [List.getElem?_append_right (by omega)] at hc
   rw [List.getElem?_append_right (by omega),←hq] at hu
   exact hb.2 _ c u hc hu
 have hall:=happ hw0' (happ hvs hw2)
 refine (h σ w _ hall hw.enter).mono fun en w' ⟨v,τ,c,L',h1,h2,h3,h4⟩=>⟨v,h1,τ,c,L'++Lf,h3.grow,h2,hw.leave h3,L',h4,rfl⟩
end
section
variable {P:Program} {l:List Oper} {fr:c6} {fin:iq} {sk:ky} {acc:c6} {L:AL} {k:Nat} {dd:Option Tmp} {ty:TypeId} {pos:String} {af:Array Edge} {g:Option (Nat×Bool)} {x:Operand} {u:AV}
theorem Cx {args:Array Operand} {ts:Array TypeId} {cs:List AV} {Post:AV→AL→Prop} (Lc Lf:AL) (hc:zu P u cs Lc Post) (hx:bt (cB l.toArray acc fr af.toList) x=some u) (hv:ep (cB l.toArray acc fr af.toList) args.toList=some cs) (hL:L.Perm (Lc++Lf)) (hg:iL ⟨dd,.call ⟨.value x,args,ts⟩,ty,pos,af,g⟩ acc) (h:∀c L1,Post c L1→DA P l fr fin sk ((k,c)::acc) (L1++Lf)):
  cT P l fr fin k .e ⟨dd,.call ⟨.value x,args,ts⟩,ty,pos,af,g⟩ sk acc L:=by
 rcases hc with ⟨f,caps,hf,hu,hc⟩ | ⟨f,fs,caps,hf,rfl,hc⟩
 ·exact iv hg (fun B=>ta Lc Lf hx hu hv hL hc) fun c L' ⟨L1,h1,h2⟩=>by subst h2;exact h c L1 h1
 ·exact iv hg (fun B=>zN Lc Lf hx hv hL hc) fun c L' ⟨L1,h1,h2⟩=>by subst h2;exact h c L1 h1
end
end Go.Proofs.YtpbinloeemebkaaGreat
namespace Go.Proofs.YtpbinloeemebkaaGreat
open Go.RowKit
section
variable {P:Program} {tt:TT} {r:Option Nat} {ops:Array Oper} {Q:Exit→Act→World→Prop} {nt:Nat} {D:List Deferred} {fr:c6} {B:Bs} {L:AL} {rest:List Oper} {d:Nat} {ty t t':TypeId} {pos:String} {af:Array Edge} {x y z:Operand} {u:AV} {g:Option (Nat×Bool)}
theorem zR {dd:Option Tmp} {e sz by_ s:Nat} {l:List (List AV)} (hc:kw P t e sz by_) (hx:bt fr x=some u) (hu:u.im= .imm s l) (hy:bt fr y=some (.sc (.slice none 0 0))):
  AO P ⟨dd,.binOp .eql t x y t',ty,pos,af,g⟩ fr B L (fun c L'=>∃b,c= .sc (.bool b)∧(b=true→l=[])∧L'=L):=by
 intro σ ρ w hρ hw
 have hxv:=(hρ x u hx).im
 rw [hu] at hxv
 have hyv:=(hρ y _ hy).sc_inv
 have key:∀v,VR σ (.imm s l) v→∃A cap,v= .slice A l.length cap∧(l≠[]→∃b off,A=some ⟨b,off,none⟩):=by
  intro v hv
  cases hv with
  | imm sz l A cap h1 h2 h3 ha hx2 h4=>exact ⟨A,cap,rfl,ha⟩
 obtain ⟨A,cap,hval,ha⟩:=key _ hxv
 ·have hrun:=Lib.run_eql_slice_nil (P:=P) w t e A l.length cap 0 0 hc.under
  unfold gU
  rw [show (execOp ρ ⟨dd,.binOp .eql t x y t',ty,pos,af,g⟩).run P w= .ok (.value (.bool A.isNone)) w by
   simp [execOp,hval,hyv,eqGuard,hrun]]
  refine ⟨σ,.sc _,L,ci.le_refl σ,.sc _,hw,A.isNone,rfl,fun h=>?_,rfl⟩
  cases A with
  | none=>exact Decidable.byContradiction fun hn=>by obtain ⟨b,o,hh⟩:=ha hn;cases hh
  | some a=>cases h
theorem D3 (ok:ev P tt) {e sz by_ s:Nat} {l:List (List AV)} (ht:jt tt t=some (e,sz,by_)) (hx:bt fr x=some u) (hu:hQ u=some (s,l)) (hy:bt fr y=some (.sc (.slice none 0 0))) (hd:Nat.ble nt d=false) (h:∀b,(b=true→l=[])→bO P r ops Q nt D rest ((d,.sc (.bool b))::fr) B L):
  bO P r ops Q nt D (⟨some d,.binOp .eql t x y t',ty,pos,af,none⟩::rest) fr B L:=
 cU hd rfl (zR (bq ok ht).1 hx (cM hu) hy) fun c L' ⟨b,h1,h2,h3⟩=>by subst h1;subst h3;exact h b h2
end
section
variable {P:Program} {nt:Nat} {fr:c6} {B:Bs} {L L':AL}
theorem Ct (L':AL) {fn:Func} {Post:AV→AL→Prop} {cs:List AV} (hr:oH P fr L fn.results.toList cs) (hs:L'.Sublist L) (h:Post (qU cs) L'):AX P .ret (bodyPost P fn (j4 B Post)) nt [] fr B L:=by
 intro σ a w ha hw
 obtain ⟨v,h1,h2⟩:=iY ha hw hr
 exact ⟨ha.defers,v,h1,v,σ,qU cs,L',rfl,h2,hw.sublist hs,h⟩
end
end Go.Proofs.YtpbinloeemebkaaGreat
namespace Go.Proofs.YtpbinloeemebkaaGreat
open Go.RowKit
end Go.Proofs.YtpbinloeemebkaaGreat
