/-
  An automaton is built: the walk.
-/
import Derived.Test.YtpmdfoaadejmkaaGreatDoorM16
import Derived.Test.YtpmdfoaadejmkaaGreatDoorM13
import Derived.Test.YtpmdfoaadejmkaaGreatDoorM12
import Derived.Test.YtpmdfoaadejmkaaGreatDoorM05
import Derived.Test.YtpmdfoaadejmkaaGreatDoorM14
namespace Go.Proofs.YtpmdfoaadejmkaaGreatDoor
open Go.RowKit
attribute [local irreducible] AT br AX AO Av Kt bb df DA cC
structure sY (N:Nat) (r:b8):Prop where
 back:∀s∈r.Back,jU s∧∀g∈s,0≤g∧g < (N:Int)
 in_:∀s∈r.In,jU s∧∀g∈s,0≤g∧g < (N:Int)
 ahead:∀s∈r.Ahead,jU s∧∀g∈s,0≤g∧g < (N:Int)
 long:r.Back.length≤200∧r.In.length+r.Ahead.length≤200
structure wm (N:Nat) (l:aL):Prop where
 few:l.Rules.length≤6
 rule:∀r∈l.Rules,sY N r
def dO (rs:List b8):List (List Int):=rs.flatMap fun r=>r.Back++r.In++r.Ahead
theorem xr {rs:List b8} {k:Nat} {r:b8} (h:rs[k]?=some r):dO (rs.take (k+1))=dO (rs.take k)++r.Back++r.In++r.Ahead:=by
 unfold dO
 rw [List.take_add_one,h]
 simp
theorem oZ {N:Nat}:∀{rs:List b8},(∀r∈rs,sY N r)→(dO rs).length≤400 * rs.length
 | [],_=>by simp [dO]
 | r::rs,h=>by
  have ih:=oZ (rs:=rs) fun x hx=>h x (by simp [hx])
  have hr:=(h r (by simp)).long
  unfold dO at ih ⊢
  rw [List.flatMap_cons,List.length_append,List.length_append,List.length_append,List.length_cons]
  omega
theorem rV {N:Nat} {rs:List b8} (h:∀r∈rs,sY N r):∀s∈dO rs,jU s∧∀g∈s,0≤g∧g < (N:Int):=by
 intro s hs
 unfold dO at hs
 obtain ⟨r,hr,hs⟩:=List.mem_flatMap.1 hs
 rw [List.mem_append,List.mem_append] at hs
 rcases hs with (hs | hs) | hs
 ·exact (h r hr).back s hs
 ·exact (h r hr).in_ s hs
 ·exact (h r hr).ahead s hs
structure ka where
 cls:List Int
 fore:List (List Int)
 back:List (List Int)
 foreE:List Nat
 backE:List Nat
def H8 (a:ka):List AV:=[.imm 1 (aT a.cls),.imm 1 (b7 a.fore),.imm 1 (b7 a.back),.imm 1 (gk a.foreE),.imm 1 (gk a.backE)]
structure wn (N:Nat) (rs:List b8) (a:ka):Prop where
 cls:sZ N (gn a.cls).toNat a.cls (dO rs)
 fore:qN a.cls (rs.map fun r=>(nY r).1) (jI nY rs) (gn a.cls).toNat a.fore a.foreE
 back:qN a.cls (rs.map fun r=>(pd r).1) (jI pd rs) (gn a.cls).toNat a.back a.backE
theorem kz (r:b8):(dz r).length≤r.In.length+r.Ahead.length:=by
 unfold dz
 split
 ·simp
 ·rw [List.length_append];omega
theorem kA {r:b8} {s:List Int} (h:s∈dz r):s∈r.In∨s∈r.Ahead:=by
 unfold dz at h
 split at h
 ·cases h
 ·exact Im h
section
variable {N:Nat} {l:aL} (h:wm N l) (hN0:0 < N) (hN:N≤65536)
include h
theorem mD:∀s∈dO l.Rules,(∀g∈s,0≤g∧g < (N:Int))∧s.Nodup:=fun s hs=>⟨(rV h.rule s hs).2,gH (rV h.rule s hs).1⟩
include hN
theorem pY:(∀z∈dH N (dO l.Rules),0≤z∧z≤1000000)∧(dH N (dO l.Rules)).length=N∧(gn (dH N (dO l.Rules))).toNat≤1000000∧∀z∈dH N (dO l.Rules),0≤z∧z < ((gn (dH N (dO l.Rules))).toNat:Int):=by
 have h1:=ry N _ (mD h)
 refine ⟨fun z hz=>by have:=h1 z hz;omega,rz N _ (mD h),?_,(ug N _ (mD h)).dom⟩
 have:gn (dH N (dO l.Rules))≤(N:Int):=rr (by omega) fun z hz=>(h1 z hz).2
 omega
theorem FI:zh l.Rules (dH N (dO l.Rules)):=by
 obtain ⟨h1,h2,_,_⟩:=pY h hN
 exact ⟨h.few,h1,by omega,fun r hr=>by have:=(h.rule r hr).long;omega⟩
theorem Df:zi (q9 nY l.Rules (dH N (dO l.Rules))) (jI nY l.Rules) 200:=by
 obtain ⟨h1,h2,h3,h4⟩:=pY h hN
 refine ⟨⟨by show (l.Rules.map _).length≤6;rw [Iu];exact h.few,h4,fun eF hrow s hs=>?_,fun eF hrow=>?_,h3,by show (dH N (dO l.Rules)).length≤_;omega⟩,by show ca _ _=ca _ (l.Rules.map _).length;rw [Iu],fun eF hrow=>?_,Nat.le_refl _⟩
 ·obtain ⟨r,hr,rfl⟩:=List.mem_map.1 hrow
  have hb:=h.rule r hr
  have hsr:jU s∧∀g∈s,0≤g∧g < (N:Int):=by
   rcases kA hs with hs | hs
   ·exact hb.in_ s hs
   ·exact hb.ahead s hs
  refine ⟨fun g hg=>?_,?_⟩
  ·show 0≤g∧g < ((dH N (dO l.Rules)).length:Int)
   rw [h2]
   exact hsr.2 g hg
  ·have:=fA (gH hsr.1) hsr.2
   omega
 ·obtain ⟨r,hr,rfl⟩:=List.mem_map.1 hrow
  have:=kz r
  have:=(h.rule r hr).long
  show (dz r).length≤_
  omega
 ·obtain ⟨r,hr,rfl⟩:=List.mem_map.1 hrow
  have:=kz r
  have:=(h.rule r hr).long
  show (dz r).length≤_
  omega
theorem CG:zi (q9 pd l.Rules (dH N (dO l.Rules))) (jI pd l.Rules) 200:=by
 obtain ⟨h1,h2,h3,h4⟩:=pY h hN
 refine ⟨⟨by show (l.Rules.map _).length≤6;rw [Iu];exact h.few,h4,fun eF hrow s hs=>?_,fun eF hrow=>?_,h3,by show (dH N (dO l.Rules)).length≤_;omega⟩,by show ca _ _=ca _ (l.Rules.map _).length;rw [Iu],fun eF hrow=>?_,Nat.le_refl _⟩
 ·obtain ⟨r,hr,rfl⟩:=List.mem_map.1 hrow
  have hsr:=(h.rule r hr).back s hs
  refine ⟨fun g hg=>?_,?_⟩
  ·show 0≤g∧g < ((dH N (dO l.Rules)).length:Int)
   rw [h2]
   exact hsr.2 g hg
  ·have:=fA (gH hsr.1) hsr.2
   omega
 ·obtain ⟨r,hr,rfl⟩:=List.mem_map.1 hrow
  have:=(h.rule r hr).long
  show r.Back.length≤_
  omega
 ·obtain ⟨r,hr,rfl⟩:=List.mem_map.1 hrow
  have:=(h.rule r hr).long
  show r.Back.length≤_
  omega
end
set_option maxHeartbeats 8000000 in
theorem zR (f:aY) (n:Nat) (l:aL) (hl:f.Lookups[n]?=some l) (h:wm f.Glyphs.length l) (hN0:0 < f.Glyphs.length) (hN:f.Glyphs.length≤65536):AC Tryz.prog 35 [cQ f,aF n] [] fun c _=>∃a,wn f.Glyphs.length l.Rules a∧c= .tup [.agg (H8 a),aF 0]:=by
 refine aN Tryz.func35 rfl Tryz.ntmps35 rfl fun B=>?_
 have hgl:(f.Glyphs.map bL).length=f.Glyphs.length:=Iu ..
 have hll:(f.Lookups.map bC).length=f.Lookups.length:=Iu ..
 have hrl:(l.Rules.map bA).length=l.Rules.length:=Iu ..
 have hnl:=(Ip hl).1
 have hlg:(f.Lookups.map bC)[n]?=some (bC l):=by simp [hl]
 have hfew:=h.few
 repeat' (first|refine If ?_|refine IF a5 FN ?_|refine IN FN ?_|refine bk ?_|refine bh a5 fun _=>?_|fail)
 refine c9 [1,2,4] False rfl (fun Q' K=>?_) (fun hC=>hC.elim) (fun _=>?_)
 ·repeat' (first|refine If ?_|refine IF a5 FN ?_|refine IN FN ?_|refine IP IB ?_|refine IR IA (fun _=>?_) (fun _=>?_))
  all_goals exact K _ _ rfl rfl (by simp_all <;> omega)
 repeat' (first|refine If ?_|refine IF a5 FN ?_|(apply aS;first|refine aR a5 ?_|refine aH a5 ?_)|fail)
 rename_i r4 _
 have hpd:=qI f.Glyphs.length hN0 hN (dO l.Rules) (rV h.rule) (by have:=oZ h.rule;omega)
 have hcls:=ug f.Glyphs.length (dO l.Rules) (mD h)
 have hso:=FI h hN
 have hsf:=rI _ _ _ (Df h hN) (.fnB 100 [.agg (v6 l.Rules (dH f.Glyphs.length (dO l.Rules)))] []) (jo.fnB (f:=100) (fs:=[.agg (v6 l.Rules (dH f.Glyphs.length (dO l.Rules)))]) (caps:=[]) (Ay hso))
 have hsb:=rI _ _ _ (CG h hN) (.fnB 101 [.agg (v6 l.Rules (dH f.Glyphs.length (dO l.Rules)))] []) (jo.fnB (f:=101) (fs:=[.agg (v6 l.Rules (dH f.Glyphs.length (dO l.Rules)))]) (caps:=[]) (zN hso))
 refine aq rfl (fun h1=>?_) (fun h1=>?_)
 ·have:=Iy h1
  omega
 clear h1
 repeat' (first|refine If ?_|refine ak ?_|refine IF a5 FN ?_)
 refine bP (bO (t:=7) (c':= .vec none 1 (b7 [])) rfl fun σ v h=>cJ 1 h) ?_
 refine aO [2,4,6,49,50] (α:=Nat×Option (Nat×Nat)) (fun s=>[(51,aF s.1),(7,.vec s.2 1 (b7 (dO (l.Rules.take s.1))))]) (fun s=>s.1≤l.Rules.length) (fun s=>(r4,.box [.sc (.slice none 0 0),.sc (.slice none 0 0),.sc (.slice none 0 0),.sc (.slice none 0 0),.sc (.slice none 0 0)] 62)::tok s.2 22 1 (dO (l.Rules.take s.1)).length) (fun s=>l.Rules.length - s.1) (0,none) rfl ⟨rfl,rfl,trivial⟩ (Nat.zero_le _) (fun _ _ hh=>hh) ?_
 ·rintro ⟨k,q⟩ hk
  dsimp only at hk ⊢
  try dsimp only [Is,Ir,Iq,Ik]
  repeat' (first|refine If ?_|refine IF a5 FN ?_)
  refine aq rfl (fun h1=>?_) (fun h1=>?_)
  ·have hk2:k < l.Rules.length:=by have:=Iy h1;omega
   obtain ⟨r,hr⟩:∃z,l.Rules[k]?=some z:=⟨_,Iz hk2⟩
   have hrg:(l.Rules.map bA)[k]?=some (bA r):=by simp [hr]
   have hlong:=(h.rule r (Iw hr)).long
   have hal:=xr hr
   have hlen:(dO (l.Rules.take k)).length≤2400:=by
    have:=oZ (N:=f.Glyphs.length) (rs:=l.Rules.take k) fun x hx=>h.rule x (List.mem_of_mem_take hx)
    rw [List.length_take] at this
    omega
   have hri:b7 (dO (l.Rules.take (k+1)))=b7 (dO (l.Rules.take k))++b7 r.Back++b7 r.In++b7 r.Ahead:=by rw [hal];simp [b7]
   have hrl0:=cq (dO (l.Rules.take k))
   have hrl1:=cq r.Back
   have hrl2:=cq r.In
   have hrl3:=cq r.Ahead
   have hln:(dO (l.Rules.take (k+1))).length=(dO (l.Rules.take k)).length+r.Back.length+r.In.length+r.Ahead.length:=by rw [hal,List.length_append,List.length_append,List.length_append]
   generalize b7 (dO (l.Rules.take k))=A0 at *
   generalize (dO (l.Rules.take k)).length=n0 at *
   clear h1
   repeat' (first|refine If ?_|refine ak ?_|refine IF a5 FN ?_|(apply aS;first|refine aR a5 ?_|refine aH a5 ?_)|(apply aM;first|refine IH 9 a5 0 IE ?_|refine IH 9 a5 1 IE ?_|refine IH 9 a5 2 IE ?_|refine IH 10 a5 0 IE ?_|refine IH 10 a5 1 IE ?_|refine IH 10 a5 2 IE ?_|refine IG a5 0 ID ?_|refine IG a5 1 ID ?_|refine IG a5 2 ID ?_|refine IG a5 3 ID ?_|fail)|refine bh a5 fun _=>?_|fail)
   refine bJ a5 [(r4,.box [.sc (.slice none 0 0),.sc (.slice none 0 0),.sc (.slice none 0 0),.sc (.slice none 0 0),.sc (.slice none 0 0)] 62)] rfl rfl rfl rfl (by rw [hrl0];exact List.perm_append_comm (l₁:=[_])) (by omega) (by omega) rfl fun q1=>?_
   repeat' (first|refine If ?_|refine IF a5 FN ?_)
   refine bJ a5 [(r4,.box [.sc (.slice none 0 0),.sc (.slice none 0 0),.sc (.slice none 0 0),.sc (.slice none 0 0),.sc (.slice none 0 0)] 62)] rfl rfl rfl rfl (Io _) (by rw [List.length_append];omega) (by rw [List.length_append];omega) rfl fun q2=>?_
   repeat' (first|refine If ?_|refine IF a5 FN ?_)
   refine bJ a5 [(r4,.box [.sc (.slice none 0 0),.sc (.slice none 0 0),.sc (.slice none 0 0),.sc (.slice none 0 0),.sc (.slice none 0 0)] 62)] rfl rfl rfl rfl (Io _) (by rw [List.length_append,List.length_append];omega) (by rw [List.length_append,List.length_append];omega) rfl fun q3=>?_
   repeat' (first|refine If ?_|refine IF a5 FN ?_|(apply aV;refine aU ?_)|fail)
   refine aD (k+1,q3) rfl ⟨by rw [Iv];rfl,by dsimp only;rw [hri];rfl,trivial⟩ hk2 (by dsimp only;omega) (fun σ w hh=>?_)
   have h2:=hh.perm (List.perm_append_comm (l₂:=[_]))
   have h3:(A0++b7 r.Back++b7 r.In++b7 r.Ahead).length=(dO (l.Rules.take (k+1))).length:=by rw [hln,List.length_append,List.length_append,List.length_append];omega
   rw [h3] at h2
   exact h2
  ·have hk2:k=l.Rules.length:=by have:=Ix h1;omega
   subst hk2
   rw [List.take_length]
   haveI:AD Tryz.prog 98 [aF ((f.Glyphs.map bL).length:Nat),.imm 1 (b7 (dO l.Rules))] (.imm 1 (aT (dH f.Glyphs.length (dO l.Rules)))):=⟨by rw [hgl];exact hpd⟩
   clear h1
   repeat' (first|refine If ?_|refine IF a5 FN ?_|(apply aM;first|refine IH 9 a5 0 IE ?_|refine IH 9 a5 1 IE ?_|refine IH 9 a5 2 IE ?_|refine IH 10 a5 0 IE ?_|refine IH 10 a5 1 IE ?_|refine IH 10 a5 2 IE ?_|refine IG a5 0 ID ?_|refine IG a5 1 ID ?_|refine IG a5 2 ID ?_|refine IG a5 3 ID ?_|fail)|refine bh a5 fun _=>?_|(apply bv;refine bn ?_)|fail)
   refine b9 [] _ hsf rfl rfl (Io _) rfl fun c1 L1 ⟨ft,fe,hf1,hc1⟩=>?_
   subst hc1
   refine aJ (bM (List.sublist_append_right ..)) ?_
   repeat' (first|refine If ?_|refine IF a5 FN ?_|refine bI rfl ?_)
   refine b9 [] _ hsb rfl rfl (Io _) rfl fun c1 L1 ⟨bt,be,hb1,hc1⟩=>?_
   subst hc1
   refine aJ (bM (List.sublist_append_right ..)) ?_
   repeat' (first|refine If ?_|refine IF a5 FN ?_|(apply aM;first|refine IH 9 a5 0 IE ?_|refine IH 9 a5 1 IE ?_|refine IH 9 a5 2 IE ?_|refine IH 10 a5 0 IE ?_|refine IH 10 a5 1 IE ?_|refine IH 10 a5 2 IE ?_|refine IG a5 0 ID ?_|refine IG a5 1 ID ?_|refine IG a5 2 ID ?_|refine IG a5 3 ID ?_|fail)|refine bI rfl ?_)
   exact gW (cs:=[.agg (H8 ⟨dH f.Glyphs.length (dO l.Rules),ft,bt,fe,be⟩),aF 0]) [] ⟨⟨_,0,_,_,rfl,rfl,.inr ⟨ey a5 rfl,rfl⟩⟩,rfl,trivial⟩ (List.nil_sublist _) ⟨⟨dH f.Glyphs.length (dO l.Rules),ft,bt,fe,be⟩,⟨hcls,hf1,hb1⟩,rfl⟩
end Go.Proofs.YtpmdfoaadejmkaaGreatDoor
namespace Go.Proofs.YtpmdfoaadejmkaaGreatDoor
open Go.RowKit
section
variable {P:Program} {fr:bW} {B:Bs} {L:AL} {ty t t':TypeId} {pos:String} {af:Array Edge} {g:Option (Nat×Bool)} {x y z q:Operand} {u:AV}
theorem Cr {d:Option Tmp} {s e sz by_ hi:Nat} {l:List (List AV)} {k k':IntKind} {a b:Int} (hc:k8 P t e sz by_) (hx:bc fr x=some u) (hu:ij u=some (s,l)) (hs:Nat.beq s sz=true) (hy:bc fr y=some (.sc (.int k a))) (hz:bc fr z=some (.sc (.int k' b))) (ha:a=(hi:Int)) (hb:b=(hi:Int)) (h:hi≤l.length):Av P ⟨d,.slice t x none (some y) (some z),ty,pos,af,g⟩ fr (.imm s (l.take hi)):=by
 intro σ ρ w hρ _
 subst ha hb
 rw [Nat.beq_eq] at hs
 subst hs
 have h1:=(hρ x u hx).im
 rw [cM hu] at h1
 obtain ⟨A,cap,hv,hcap,_⟩:=h1.imm_inv
 rw [hv] at h1
 have hvr:=h1.cut (lo:=0) (hi:=hi) (m:=hi) (Nat.zero_le _) h (Nat.le_refl _) (by omega)
 haveI:=hc
 simp only [List.drop_zero,Nat.sub_zero,Nat.zero_mul] at hvr
 refine ⟨_,?_,hvr⟩
 have h4:hi≤cap:=by omega
 simp [execOp,hv,(hρ y _ hy).sc_inv,(hρ z _ hz).sc_inv,Instr.sliceAt,Instr.slice,Instr.sliceBounds,Instr.sliceBound,asIntOf,run_underlying hc.under,cO (t:=t),h4]
end
section
variable {P:Program} {tt:TT} {l:List Oper} {fr:bW} {fin:jn} {sk:lW} {acc:bW} {L:AL} {k:Nat} {dd:Option Tmp} {ty t:TypeId} {pos:String} {af:Array Edge} {g:Option (Nat×Bool)} {x y z:Operand} {u:AV}
theorem CO (ok:dY P tt) (hi:Nat) {s e sz by_:Nat} {ll:List (List AV)} {q q':IntKind} {a b:Int} (ht:jl tt t=some (e,sz,by_)) (hx:bc (ct l.toArray acc fr af.toList) x=some u) (hu:ij u=some (s,ll)) (hs:Nat.beq s sz=true) (hy:bc (ct l.toArray acc fr af.toList) y=some (.sc (.int q a))) (hz:bc (ct l.toArray acc fr af.toList) z=some (.sc (.int q' b))) (ha:a=(hi:Int)) (hb:b=(hi:Int)) (h1:hi≤ll.length) (hg:iA ⟨dd,.slice t x none (some y) (some z),ty,pos,af,g⟩ acc) (h:DA P l fr fin sk ((k,.imm s (ll.take hi))::acc) L):
  cC P l fr fin k .v ⟨dd,.slice t x none (some y) (some z),ty,pos,af,g⟩ sk acc L:=eW hg (yq (Cr (bi ok ht).1 hx hu hs hy hz ha hb h1)) h
end
end Go.Proofs.YtpmdfoaadejmkaaGreatDoor
namespace Go.Proofs.YtpmdfoaadejmkaaGreatDoor
open Go.RowKit
attribute [local irreducible] AT br AX AO Av Kt bb df DA cC
theorem vA (l:List Int) (z:Int):bN Tryz.prog 190 [.imm 1 (aT l),aF z] (aF (if z∈l then (l.idxOf z:Nat) else -1)):=by
 refine aN Tryz.func190 rfl Tryz.ntmps190 rfl fun B=>?_
 refine cK 0 rfl rfl fun hlen=>?_
 have hll:=aZ l
 rw [hll] at hlen
 repeat' (first|refine If ?_|refine ak ?_|refine IF a5 FN ?_)
 refine aO [0,1,7] (α:=Nat) (fun i=>[(8,aF i)]) (fun i=>i≤l.length∧z∉l.take i) (fun _=>[]) (fun i=>l.length - i) 0 rfl ⟨rfl,trivial⟩ ⟨Nat.zero_le _,by simp⟩ (fun _ _ h=>h) fun i hi=>?_
 try dsimp only [Is,Ir,Iq,Ik]
 repeat' (first|refine If ?_|refine IF a5 FN ?_)
 refine aq rfl (fun h=>?_) (fun h=>?_)
 ·have hil:i < l.length:=by have:=Iy h;omega
  obtain ⟨y,hy⟩:∃z,l[i]?=some z:=⟨_,Iz hil⟩
  have hzg:=bR hy
  have htk:l.take (i+1)=l.take i++[y]:=by rw [List.take_add_one,hy];rfl
  clear h
  repeat' (first|refine If ?_|refine ak ?_|refine IF a5 FN ?_|(apply aS;first|refine aR a5 ?_|refine aH a5 ?_)|fail)
  refine aq rfl (fun h2=>?_) (fun h2=>?_)
  ·have h2':=Iy h2
   subst h2'
   repeat' (first|refine If ?_|refine IF a5 FN ?_)
   refine IL FN ?_
   have hm:=Iw hy
   have:l.idxOf z=i:=by
    have e:l=l.take i++z::l.drop (i+1):=by
     conv=>lhs;rw [←List.take_append_drop i l,List.drop_eq_getElem_cons hil,(Ip hy).2]
    rw [e,List.idxOf_append,if_neg hi.2,List.idxOf_cons_self,List.length_take]
    omega
   rw [if_pos hm,this]
  ·have h2':=Ix h2
   repeat' (first|refine If ?_|refine IF a5 FN ?_|(apply aV;refine aU ?_)|fail)
   exact aD (i+1) rfl ⟨by rw [Iv];rfl,trivial⟩ ⟨by omega,by rw [htk];simp [hi.2];exact h2'⟩ (by omega) (fun _ _ h=>h)
 ·have hil:i=l.length:=by have:=Ix h;omega
  subst hil
  rw [List.take_length] at hi
  repeat' (first|refine If ?_|refine IF a5 FN ?_)
  refine IL FN ?_
  rw [if_neg hi.2]
instance (l:List Int) (z:Int):AD Tryz.prog 190 [.imm 1 (aT l),aF z] (aF (if z∈l then (l.idxOf z:Nat) else -1)):=⟨vA l z⟩
theorem qC (l:List Int) (z:Int):bN Tryz.prog 187 [.imm 1 (aT l),aF z] (ej (l.contains z)):=by
 refine aN Tryz.func187 rfl Tryz.ntmps187 rfl fun B=>?_
 repeat' (first|refine If ?_|refine IF a5 FN ?_|(apply bv;refine bn ?_)|fail)
 refine IL FN ?_
 congr 2
 by_cases h:z∈l
 ·rw [if_pos h,decide_eq_true (by omega)];simp [h]
 ·rw [if_neg h,decide_eq_false (by omega)];simp [h]
instance (l:List Int) (z:Int):AD Tryz.prog 187 [.imm 1 (aT l),aF z] (ej (l.contains z)):=⟨qC l z⟩
structure kc (e:oE):Prop where
 few:e.l.Rules.length≤6
 ends:rS e
 fore:∀gl,fP e.cls e.fore e.foreE gl=ca (eH (e.l.Rules.map dz) (re e.l.Rules) gl) (e.l.Rules.map dz).length
 back:∀gl,fP e.cls e.back e.backE gl=ca (eH (e.l.Rules.map b8.Back) (fun _=>true) gl) (e.l.Rules.map b8.Back).length
 long:fN e.l.Rules≤1000000∧i5 e.l.Rules≤1000000
section
variable {e:oE} (h:kc e)
include h
theorem kc.lt (bg fg:List Int):fP e.cls e.back e.backE bg &&& fP e.cls e.fore e.foreE fg < 64:=by
 have h1:=Nat.and_le_right (n:=fP e.cls e.back e.backE bg) (m:=fP e.cls e.fore e.foreE fg)
 have h2:=m9 (eH (e.l.Rules.map dz) (re e.l.Rules) fg) (e.l.Rules.map dz).length
 rw [←h.fore fg,Iu] at h2
 have h3:2 ^ e.l.Rules.length≤2 ^ 6:=Nat.pow_le_pow_right (by omega) h.few
 have:(2:Nat) ^ 6=64:=rfl
 omega
theorem kc.first (ms:List Bool) (run:List aK) (i:Nat):s6 (fP e.cls e.back e.backE (((m8 ms e.l.Ignore run i).take (i5 e.l.Rules)).map (ea run)) &&& fP e.cls e.fore e.foreE (((dJ ms e.l.Ignore run i).take (fN e.l.Rules)).map (ea run)))=match e.l.Rules.findIdx? (eD ms e.l.Ignore run i) with
  | some n=>(n:Int)
  | none=> -1:=by
 have hlt:=h.lt (((m8 ms e.l.Ignore run i).take (i5 e.l.Rules)).map (ea run)) (((dJ ms e.l.Ignore run i).take (fN e.l.Rules)).map (ea run))
 rw [h.fore,h.back] at hlt ⊢
 have ht:=vl (ms:=ms) (ig:=e.l.Ignore) (run:=run) (i:=i) (rs:=e.l.Rules) fun n=>xF (rs:=e.l.Rules) (n:=n)
 generalize (ca (eH (e.l.Rules.map b8.Back) _ _) _ &&& _)=b at ht hlt ⊢
 obtain ⟨k1,k2⟩:=vD (q:=eD ms e.l.Ignore run i) (l:=e.l.Rules) ht
 unfold s6
 cases hf:e.l.Rules.findIdx? (eD ms e.l.Ignore run i) with
 | none=>rw [k2 hf];rfl
 | some n=>
  obtain ⟨k3,k4⟩:=k1 n hf
  have hn:=(List.findIdx?_eq_some_iff_getElem.1 hf).1
  have hf:=h.few
  rw [if_neg (fun e=>by rw [e,Nat.zero_testBit] at k3;cases k3)]
  exact Ca b hlt n (by omega) k3 k4
end
theorem tK:∀{ss:List (List Int)} {gl:List Int},eA ss gl=true→ss.length≤gl.length
 | [],_,_=>Nat.zero_le _
 | _::_,[],h=>by cases h
 | _::ss,_::gl,h=>by
  rw [eA,Bool.and_eq_true] at h
  have:=tK h.2
  simp;omega
theorem om {ms:List Bool} {ig:Bool} {run:List aK} {i:Nat} {r:b8} (h:eD ms ig run i r=true):0 < r.In.length∧r.In.length≤(dJ ms ig run i).length:=by
 unfold eD at h
 rw [Bool.and_eq_true,Bool.and_eq_true] at h
 have h1:=tK h.2.1
 rw [List.length_append,Iu] at h1
 constructor
 ·have:=h.1
  cases hr:r.In with
  | nil=>rw [hr] at this;cases this
  | cons a b=>simp
 ·omega
theorem AQ {rs:List b8} {r:b8} (h:r∈rs):r.In.length≤fN rs:=by
 have:=(mh (g:=fun r:b8=>r.In.length+r.Ahead.length) (m:=0)).2 r h
 unfold fN
 omega
theorem BS {ms:List Bool} {ig:Bool} {run:List aK} {i:Nat}:f7 ms ig run true (i:Int)=dJ ms ig run i:=by
 unfold f7
 rw [if_pos rfl,Int.toNat_natCast]
theorem w9 {ms:List Bool} {ig:Bool} {run:List aK} {i:Nat}:f7 ms ig run false ((i:Int) - 1)=m8 ms ig run i:=by
 unfold f7
 simp only [Bool.false_eq_true,if_false]
 rw [show ((i:Int) - 1+1).toNat=i by omega]
def kK (E:ow) (l:aL) (run:List aK) (i:Nat) (forms:List Int):AV:=match eK E.ms l run i forms with
 | none=> .tup [Hl,.sc (.slice none 0 0)]
 | some r=> .tup [.iptr (bA (eN r)),.imm 1 (cZ (di E.ms l run i r))]
abbrev iT (wb:Nat) (E:ow) (q:Option fW) (run:List aK):AL:=uD wb (.iptr (dR E)) q run++[dv]
set_option maxHeartbeats 4000000 in
theorem pN (E:ow) (e:oE) (he:kc e) (wb:Nat) (q:Option fW) (run:List aK) (hq:dI q run) (hr:run.length≤1000000) (i:Nat) (hi0:i≤1000000) (forms:List Int):AC Tryz.prog 102 [fT wb,.iptr (fv e),aF i,.imm 1 (aT forms)] (iT wb E q run) fun c L=>c=kK E e.l run i forms∧L=iT wb E q run:=by
 refine aN Tryz.func102 rfl Tryz.ntmps102 rfl fun B=>?_
 have hfl:=aZ forms
 refine cK 3 rfl rfl fun hlen=>?_
 by_cases hi:i < run.length
 ·obtain ⟨m,rfl⟩:=hq.lt hi
  obtain ⟨x,hx⟩:∃x,run[i]?=some x:=⟨_,Iz hi⟩
  have hse:=sL E e wb m run i x hx
  repeat' (first|refine If ?_|refine IF a5 FN ?_|refine IN FN ?_|(apply bw;first|refine II a5 0 IC ?_|refine II a5 1 IC ?_|refine II a5 2 IC ?_|refine II a5 3 IC ?_|refine IJ a5 0 IC ?_|refine IJ a5 1 IC ?_|refine IJ a5 2 IC ?_|refine IK a5 1 IA (by assumption) rfl ?_|refine IK a5 0 IA (by assumption) rfl ?_|fail)|fail)
  refine c9 [0,1,2,3] (oo E.ms e.l.Ignore x=false) rfl (fun Q' K=>?_) (fun hC=>?_) (fun hC=>?_)
  ·repeat' (first|refine If ?_|refine IF a5 FN ?_|refine IN FN ?_|refine IP IB ?_|refine IR IA (fun _=>?_) (fun _=>?_))
   ·refine b9 (uD wb (.iptr (dR E)) (some m) run) [dv] hse rfl rfl (Io _) rfl fun c L1 ⟨hc,hL⟩=>?_
    subst hc;subst hL
    repeat' (first|refine If ?_|refine IF a5 FN ?_|refine IN FN ?_)
    exact K _ _ rfl rfl (by simp)
   ·rename_i hx2
    have:=Iy hx2
    omega
  ·have hm:eK E.ms e.l run i forms=none:=by
    unfold eK
    rw [if_neg]
    unfold kl
    rw [hx]
    dsimp only
    rw [hC]
    simp
   unfold kK
   rw [hm]
   repeat' (first|refine If ?_|refine IF a5 FN ?_)
   exact IS IA ⟨rfl,rfl⟩
  have hC:oo E.ms e.l.Ignore x=true:=by simpa using hC
  have h2:=nX (j:=2) m.junk hx rfl
  repeat' (first|refine If ?_|refine IF a5 FN ?_)
  refine c9 [0,1,2] (forms≠[]∧forms.contains x.Form=false) rfl (fun Q' K=>?_) (fun hC2=>?_) (fun hC2=>?_)
  ·repeat' (first|refine If ?_|refine IF a5 FN ?_|refine IN FN ?_|refine IP IB ?_|(apply bw;first|refine II a5 0 IC ?_|refine II a5 1 IC ?_|refine II a5 2 IC ?_|refine II a5 3 IC ?_|refine IJ a5 0 IC ?_|refine IJ a5 1 IC ?_|refine IJ a5 2 IC ?_|refine IK a5 1 IA (by assumption) rfl ?_|refine IK a5 0 IA (by assumption) rfl ?_|fail)|(apply aS;first|refine aR a5 ?_|refine aH a5 ?_)|(apply bv;refine bn ?_)|refine IR IA (fun _=>?_) (fun _=>?_))
   all_goals exact K _ _ rfl rfl (by cases forms <;> simp_all)
  ·have hm:eK E.ms e.l run i forms=none:=by
    unfold eK
    rw [if_neg]
    unfold kl
    rw [hx]
    dsimp only
    rw [hC2.2]
    cases forms with
    | nil=>exact absurd rfl hC2.1
    | cons a b=>simp
   unfold kK
   rw [hm]
   repeat' (first|refine If ?_|refine IF a5 FN ?_)
   exact IS IA ⟨rfl,rfl⟩
  have hbe:kl E.ms e.l.Ignore run i forms=true:=by
   unfold kl
   rw [hx]
   dsimp only
   rw [hC]
   cases forms with
   | nil=>rfl
   | cons a b=>cases hcc:(a::b).contains x.Form with
    | true=>rfl
    | false=>exact absurd ⟨by simp,hcc⟩ hC2
  have hmv:eK E.ms e.l run i forms=e.l.Rules.find? (eD E.ms e.l.Ignore run i):=by
   unfold eK
   rw [if_pos hbe]
  have s1:=xc E e wb (some m) run hq hr true i ⟨by omega,fun _=>by omega,fun h=>by cases h⟩ (by omega) (fN e.l.Rules)
  have s2:=xc E e wb (some m) run hq hr false ((i:Int) - 1) ⟨by omega,fun h=>(by cases h),fun _=>by omega⟩ (by omega) (i5 e.l.Rules)
  rw [BS] at s1
  rw [w9] at s2
  have hfirst:=he.first E.ms run i
  repeat' (first|refine If ?_|refine IF a5 FN ?_)
  refine b9 (uD wb (.iptr (dR E)) (some m) run) [dv] s1 rfl rfl (Io _) rfl fun c L1 ⟨hc,hL⟩=>?_
  subst hc;subst hL
  repeat' (first|refine If ?_|refine IF a5 FN ?_|(apply aV;refine aU ?_)|fail)
  refine b9 (uD wb (.iptr (dR E)) (some m) run) [dv] s2 rfl rfl (Io _) rfl fun c L1 ⟨hc,hL⟩=>?_
  subst hc;subst hL
  repeat' (first|refine If ?_|refine IF a5 FN ?_)
  refine b9 [dv] (uD wb (.iptr (dR E)) (some m) run) (xo e he.ends _ _ (he.lt _ _)) rfl rfl List.perm_append_comm rfl fun c L1 ⟨hc,hL⟩=>?_
  subst hc;subst hL
  refine aJ (aI (L':=iT wb E (some m) run) List.perm_append_comm) ?_
  rw [hfirst]
  unfold kK
  rw [hmv,Al]
  cases hfi:e.l.Rules.findIdx? (eD E.ms e.l.Ignore run i) with
  | none=>
   dsimp only [Option.bind_none]
   repeat' (first|refine If ?_|refine IF a5 FN ?_|refine bQ rfl ?_)
   exact IS IA ⟨rfl,rfl⟩
  | some n=>
   obtain ⟨hn,hn1,hn2⟩:=List.findIdx?_eq_some_iff_getElem.1 hfi
   obtain ⟨r,hrr⟩:∃r,e.l.Rules[n]?=some r:=⟨_,Iz hn⟩
   rw [(Ip hrr).2] at hn1
   obtain ⟨hin0,hin⟩:=om hn1
   have hfm:=AQ (Iw hrr)
   have hrg:((iS e.l).Rules.map bA)[n]?=some (bA (eN r)):=by simp [iS,hrr]
   have hpl:((dJ E.ms e.l.Ignore run i).take (fN e.l.Rules)).take r.In.length=di E.ms e.l run i r:=by
    unfold di
    rw [List.take_take,Nat.min_eq_left hfm]
   have hnl:=lb ((dJ E.ms e.l.Ignore run i).take (fN e.l.Rules))
   rw [List.length_take] at hnl
   have hril:=cq r.In
   dsimp only [Option.bind_some]
   rw [hrr]
   dsimp only
   repeat' (first|refine If ?_|refine IF a5 FN ?_|(apply aS;first|refine aR a5 ?_|refine aH a5 ?_)|refine bI rfl ?_)
   refine bz 6 [(0,.v),(1,.v),(2,.v),(3,.v),(4,.v),(5,.v)] none ?_ trivial rfl (by kernel_rfl) (by kernel_rfl) (by kernel_rfl) bT (by kernel_rfl) rfl
   repeat' (first|refine aC ?_|refine b6 a5 ?_|fail)
   refine CO a5 r.In.length rfl rfl rfl rfl rfl rfl (by rw [show (eN r).In=r.In from rfl,hril]) (by rw [show (eN r).In=r.In from rfl,hril]) (by omega) trivial ?_
   rw [show (cZ ((dJ E.ms e.l.Ignore run i).take (fN e.l.Rules))).take r.In.length=cZ (di E.ms e.l run i r) by rw [←hpl];unfold cZ aT;rw [←List.map_take,←List.map_take]]
   repeat' (first|refine aC ?_|refine b6 a5 ?_|fail)
   refine IQ [8,99] FN ?_
   repeat' (first|refine If ?_|refine a7 ?_|refine IF a5 FN ?_)
   exact IS IA ⟨rfl,rfl⟩
 ·have hm:eK E.ms e.l run i forms=none:=by
   unfold eK
   rw [if_neg]
   unfold kl
   rw [List.getElem?_eq_none (by omega)]
   exact fun h=>by cases h
  unfold kK
  rw [hm]
  repeat' (first|refine If ?_|refine IF a5 FN ?_|refine IN FN ?_|(apply bw;first|refine II a5 0 IC ?_|refine II a5 1 IC ?_|refine II a5 2 IC ?_|refine II a5 3 IC ?_|refine IJ a5 0 IC ?_|refine IJ a5 1 IC ?_|refine IJ a5 2 IC ?_|refine IK a5 1 IA (by assumption) rfl ?_|refine IK a5 0 IA (by assumption) rfl ?_|fail)|fail)
  refine c9 [0,1,2,3] True rfl (fun Q' K=>?_) (fun hC=>?_) (fun hC=>absurd trivial hC)
  ·repeat' (first|fail)
   refine lM a5 rfl hq rfl rfl ?_
   repeat' (first|refine If ?_|refine IF a5 FN ?_|refine IN FN ?_|refine IP IB ?_|refine IR IA (fun _=>?_) (fun _=>?_))
   ·rename_i h
    have:=Ix h
    omega
   ·exact K _ _ rfl rfl (by simp)
  ·repeat' (first|refine If ?_|refine IF a5 FN ?_)
   exact IS IA ⟨rfl,rfl⟩
end Go.Proofs.YtpmdfoaadejmkaaGreatDoor
namespace Go.Proofs.YtpmdfoaadejmkaaGreatDoor
open Go.RowKit
section
variable {P:Program} {tt:TT} {l:List Oper} {fr:bW} {fin:jn} {sk:lW} {acc:bW} {L:AL} {k:Nat} {dd:Option Tmp} {ty t:TypeId} {pos:String} {af:Array Edge} {g:Option (Nat×Bool)}
theorem A5 (ok:dY P tt) {zs:List Value} (hz:zI tt t=some zs) (h1:zs.all (·.oneCell')=true) (hg:iA ⟨dd,.alloc t,ty,pos,af,g⟩ acc) (h:∀b,DA P l fr fin sk ((k,.sc (.pointer (some ⟨b,0,none⟩)))::acc) ((b,.box (zs.map .sc) t)::L)):
  cC P l fr fin k .a ⟨dd,.alloc t,ty,pos,af,g⟩ sk acc L:=
 F8 (fun c L' ⟨b,_,h2⟩=>⟨[(b,_)],h2⟩) hg (fun _=>m6 (ew ok hz) h1) fun c L' ⟨b,h1,h2⟩=>by subst h1;subst h2;exact h b
end
end Go.Proofs.YtpmdfoaadejmkaaGreatDoor
namespace Go.Proofs.YtpmdfoaadejmkaaGreatDoor
open Go.RowKit
attribute [local irreducible] AT br AX AO Av Kt bb df DA cC
theorem ky {run:List aK} {i j:Nat} {x:aK} (y:aK) (v:AV) (junk:List AV) (h:run[i]?=some x) (hj:j < 6) (hy:bU y=(bU x).set j v):f4 (bY run++junk) (0+((i:Nat):Int).toNat * 6+j) [v]=bY (run.set i y)++junk:=by
 rw [iw,Int.toNat_natCast,Nat.zero_add]
 have hi:=(Ip h).1
 have hl:=d9 run
 rw [List.set_append,if_pos (by omega)]
 congr 1
 unfold bY
 have hm:(run.map bU)[i]?=some (bU x):=by simp [h]
 rw [tN (sz:=6) (run.map bU) i j (bU x) v (fun e he=>by obtain ⟨z,_,rfl⟩:=List.mem_map.1 he;rfl) hm hj,←hy,List.map_set]
theorem nl (run:List aK) (junk:List AV) {k:Nat} (h:k≤run.length):(bY run++junk).take (k * 6)=bY (run.take k):=by
 have e:bY run=bY (run.take k)++bY (run.drop k):=by rw [←hY,List.take_append_drop]
 have hl:=d9 (run.take k)
 rw [List.length_take,Nat.min_eq_left h] at hl
 rw [e,List.append_assoc,←hl,List.take_left]
theorem rc (run:List aK) (junk:List AV) {k:Nat} (h:k≤run.length):((bY run++junk).drop (k * 6)).take ((run.length - k) * 6)=bY (run.drop k):=by
 have e:bY run=bY (run.take k)++bY (run.drop k):=by rw [←hY,List.take_append_drop]
 have hl:=d9 (run.take k)
 rw [List.length_take,Nat.min_eq_left h] at hl
 have hl2:=d9 (run.drop k)
 rw [List.length_drop] at hl2
 rw [e,List.append_assoc,←hl,List.drop_left,←hl2,List.take_left]
theorem y3 (run:List aK) (junk:List AV) {i:Nat} {x:aK} (h:run[i]?=some x):((bY run++junk).drop (i * 6)).take 6=bU x:=by
 have hi:=(Ip h).1
 have e:bY run=bY (run.take i)++(bU x++bY (run.drop (i+1))):=by
  rw [←lH,←hY]
  congr 1
  rw [←(Ip h).2,List.getElem_cons_drop,List.take_append_drop]
 have hl:=d9 (run.take i)
 rw [List.length_take,Nat.min_eq_left (by omega)] at hl
 rw [e,List.append_assoc,←hl,List.drop_left,List.append_assoc]
 exact List.take_left (l₁:=bU x)
theorem AJ (b k n:Nat) (cs:List AV) (hk:k * 6≤cs.length) (hk1:k≤1000000) (hn1:n≤2000000):AC Tryz.prog 259 [.sc (.slice (some ⟨b,0,none⟩) k k),aF n] [(b,.box cs 67)] fun c L=>
  (n=0∧c= .sc (.slice (some ⟨b,0,none⟩) k k)∧L=[(b,.box cs 67)])∨
  (0 < n∧∃b' cs' cap',c= .sc (.slice (some ⟨b',0,none⟩) k cap')∧cap' * 6≤cs'.length∧cs'.take (k * 6)=cs.take (k * 6)∧k+n≤cap'∧cap'≤maxLen∧L=[(b',.box cs' 67),(b,.box cs 67)]):=by
 refine aN Tryz.func259 rfl Tryz.ntmps259 rfl fun B=>?_
 repeat' (first|refine If ?_|refine IF a5 FN ?_|refine bI rfl ?_)
 refine su a5 rfl rfl rfl ?_
 repeat' (first|refine If ?_|refine IF a5 FN ?_|(apply aV;refine aU ?_)|fail)
 refine aq rfl (fun h=>?_) fun h=>?_
 ·have hn0:0 < n:=by have:=Iy h;omega
  repeat' (first|refine If ?_|refine IF a5 FN ?_)
  refine su a5 rfl rfl rfl ?_
  repeat' (first|fail)
  refine wY a5 k rfl rfl rfl rfl (Nat.le_refl _) rfl ?_
  repeat' (first|refine IF a5 FN ?_)
  refine vO a5 0 n rfl rfl rfl Tryz.underlying3 rfl rfl (by omega) hn0 rfl hk (Nat.le_refl _) (by omega) (by unfold maxLen;omega) (by omega) rfl fun b' cs' cap' h1 h2 h3 h4=>?_
  repeat' (first|refine IF a5 FN ?_)
  refine wY a5 k rfl rfl rfl rfl (by omega) rfl ?_
  repeat' (first|refine If ?_|refine IF a5 FN ?_)
  exact IL FN (.inr ⟨hn0,b',cs',cap',rfl,h1,h2,h3,h4,rfl⟩)
 ·have hn0:n=0:=by have:=Ix h;omega
  repeat' (first|refine If ?_|refine IF a5 FN ?_)
  exact IL FN (.inl ⟨hn0,rfl,rfl⟩)
theorem rH {fr:bW} {B:Bs} {L:AL} {y:Operand} {sz c:Nat} {A:Option Addr} (hy:bc fr y=some (.sc (.slice A 0 c))):uK fr B L y sz 0 []:=fun σ ρ w hρ _=>⟨A,c,[],(hρ y _ hy).sc_inv,d6.nil,by simp,by simp,fun h=>by omega⟩
theorem vn {run:List aK} (junk:List AV) {i:Nat} {x:aK} (h:run[i]?=some x):((bY run++junk).drop (0+((i:Nat):Int).toNat * 6)).take 6=bU x:=by
 rw [Int.toNat_natCast,Nat.zero_add]
 exact y3 run junk h
def vY (x:aK) (l:List Int):List aK:=l.map fun g=>{ x with Glyph:=g }
theorem BE (x:aK) (l:List Int):(vY x l).length=l.length:=by simp [vY]
theorem FA {a b:Nat×AB} {X:AL}:(a::b::X).Perm (b::a::X):=List.Perm.swap ..
theorem Hp {a b c d:Nat×AB}:[a,b,c,d].Perm [c,b,d,a]:=(List.Perm.cons a (List.Perm.swap c b _)).trans ((List.Perm.swap c a _).trans ((((List.Perm.swap b a _).trans ((List.Perm.swap d a _).cons b))).cons c))
theorem Hq {a b c d:Nat×AB} {X:AL}:((a::X)++[b,c,d]).Perm (b::a::c::d::X):=(List.perm_append_comm (l₁:=a::X) (l₂:=[b,c,d])).trans (((List.Perm.swap a d _).cons c |>.trans (List.Perm.swap a c _)).cons b)
set_option maxHeartbeats 4000000 in
theorem Bj (E:ow) (wb:Nat) (m:fW) (run:List aK) (hq:dI (some m) run) (hr:run.length≤1000000) (i:Nat) (x:aK) (hx:run[i]?=some x) (r:b8) (ho:r.Out.length≤1000000):AC Tryz.prog 191 [fT wb,aF i,.imm 1 (aT r.Out)] (iT wb E (some m) run) fun _ L=>∃q',dI q' (gw r i run)∧L=iT wb E q' (gw r i run):=by
 refine aN Tryz.func191 rfl Tryz.ntmps191 rfl fun B=>?_
 have hil:=(Ip hx).1
 have hol:=aZ r.Out
 obtain ⟨h1,h2,h3⟩:=hq.fit m rfl
 have hfl:=d9 run
 have hmv:gw r i run=if run.length - 1+r.Out.length > 500∧1 < r.Out.length then run else run.take i++vY x r.Out++run.drop (i+1):=by
  unfold gw
  rw [hx]
  rfl
 have hit:=vn m.junk hx
 unfold maxLen at h2
 repeat' (first|refine If ?_|refine IF a5 FN ?_|(apply bw;first|refine II a5 0 IC ?_|refine II a5 1 IC ?_|refine II a5 2 IC ?_|refine II a5 3 IC ?_|refine IJ a5 0 IC ?_|refine IJ a5 1 IC ?_|refine IJ a5 2 IC ?_|refine IK a5 1 IA (by assumption) rfl ?_|refine IK a5 0 IA (by assumption) rfl ?_|fail)|(apply aV;refine aU ?_)|fail)
 refine c9 [0,1,2] (run.length - 1+r.Out.length > 500∧1 < r.Out.length) rfl (fun Q' K=>?_) (fun hC=>?_) (fun hC=>?_)
 ·repeat' (first|refine If ?_|refine IF a5 FN ?_|refine IN FN ?_|refine IP IB ?_|refine IR IA (fun _=>?_) (fun _=>?_))
  all_goals exact K _ _ rfl rfl (by simp_all <;> omega)
 ·rw [if_pos hC] at hmv
  repeat' (first|refine If ?_|fail)
  exact oJ rfl ⟨some m,by rw [hmv];exact hq,by rw [hmv]⟩
 rw [if_neg hC] at hmv
 repeat' (first|refine If ?_|fail)
 refine d7 [.cell (wb,1,eM (some m) run)] 17 [(0,.v),(1,.v),(2,.v),(3,.l),(4,.v),(5,.v),(6,.l),(7,.v),(8,.v),(9,.v),(10,.k),(11,.v),(12,.v),(13,.v),(14,.a),(15,.f),(16,.v)] none ?_ trivial rfl (by kernel_rfl) (by kernel_rfl) (by kernel_rfl) bT (by kernel_rfl) rfl
 repeat' (first|refine aC ?_|refine b6 a5 ?_|refine bZ a5 0 rfl rfl rfl rfl (by first|trivial|rfl) ?_)
 refine d8 a5 rfl rfl rfl ⟨by omega,by omega⟩ trivial ?_
 repeat' (first|refine aC ?_|fail)
 refine oL a5 1 rfl rfl rfl (Nat.ble_eq_true_of_le (by rw [Int.toNat_natCast];simp;omega)) trivial ?_
 rw [hit]
 repeat' (first|refine aC ?_|refine b6 a5 ?_|fail)
 refine dx a5 0 rfl rfl rfl (mq 0 rfl rfl) trivial ?_
 repeat' (first|refine aC ?_|refine b6 a5 ?_|(apply dW;refine fz ?_)|fail)
 refine wE a5 (i+1) rfl rfl rfl (by omega) (by omega) h1 trivial ?_
 repeat' (first|refine aC ?_|fail)
 refine A5 a5 rfl rfl trivial fun ib=>?_
 repeat' (first|refine aC ?_|fail)
 refine A8 a5 0 rfl rfl rfl rfl rfl rfl rfl (mq 1 rfl rfl) trivial fun _=>?_
 repeat' (first|refine aC ?_|refine b6 a5 ?_|fail)
 refine IQ [0,1,2,7,8] FN ?_
 repeat' (first|refine If ?_|refine a7 ?_|refine IF a5 FN ?_|(apply bw;first|refine II a5 0 IC ?_|refine II a5 1 IC ?_|refine II a5 2 IC ?_|refine II a5 3 IC ?_|refine IJ a5 0 IC ?_|refine IJ a5 1 IC ?_|refine IJ a5 2 IC ?_|refine IK a5 1 IA (by assumption) rfl ?_|refine IK a5 0 IA (by assumption) rfl ?_|fail)|fail)
 refine Fp a5 i rfl rfl rfl rfl rfl rfl (by omega) rfl ?_
 repeat' (first|refine IF a5 FN ?_|(apply aV;refine aU ?_)|fail)
 have hfll:(bY run++m.junk).length=run.length * 6+m.junk.length:=by rw [List.length_append,hfl]
 have hti:=nl run m.junk (Nat.le_of_lt hil)
 have hgr:=AJ m.rb i (r.Out.length+(run.length - (i+1))) (bY run++m.junk) (by omega) (by omega) (by omega)
 refine aJ (aI (L':=(m.rb,.box (bY run++m.junk) 67)::[(wb,.box [.iptr (dR E),eM (some m) run] 102),dv,(ib,.box (bU x) 67)]) ?_) ?_
 ·exact Hp
 refine b9 [(m.rb,.box (bY run++m.junk) 67)] [(wb,.box [.iptr (dR E),eM (some m) run] 102),dv,(ib,.box (bU x) 67)] hgr rfl (by rw [hol];rfl) (Io _) rfl fun c L1 hp=>?_
 obtain ⟨db,dcs,dcap,X,hc,hL,hd1,hd2,hd3,nu,hX⟩:∃db dcs dcap X,c= .sc (.slice (some ⟨db,0,none⟩) i dcap)∧L1=(db,.box dcs 67)::X∧dcap * 6≤dcs.length∧dcs.take (i * 6)=bY (run.take i)∧i+(r.Out.length+(run.length - (i+1)))≤dcap∧dcap≤maxLen∧(r.Out.length+(run.length - (i+1))=0∨X=[(m.rb,.box (bY run++m.junk) 67)]):=by
  rcases hp with ⟨h0,hc,hL⟩ | ⟨h0,b',cs',cap',hc,h4,h5,h6,h7,hL⟩
  ·exact ⟨m.rb,_,i,[],hc,hL,by omega,hti,by omega,by unfold maxLen;omega,.inl h0⟩
  ·exact ⟨b',cs',cap',_,hc,hL,h4,by rw [h5,hti],h6,h7,.inr rfl⟩
 subst hc;subst hL
 unfold maxLen at nu
 refine aJ (aI (L':=(wb,.box [.iptr (dR E),eM (some m) run] 102)::(db,.box dcs 67)::dv::(ib,.box (bU x) 67)::X) ?_) ?_
 ·exact Hq
 repeat' (first|refine If ?_|refine ak ?_|refine IF a5 FN ?_)
 refine aO [0,7,8,59,60] (α:=Nat×Int×List AV) (fun s=>[(61,aF s.1),(9,.sc (.slice (some ⟨db,0,none⟩) (i+s.1:Nat) dcap))]) (fun s=>s.1≤r.Out.length∧dcap * 6≤s.2.2.length∧s.2.2.take ((i+s.1) * 6)=bY (run.take i++vY x (r.Out.take s.1))) (fun s=>(wb,.box [.iptr (dR E),eM (some m) run] 102)::(db,.box s.2.2 67)::dv::(ib,.box (bU { x with Glyph:=s.2.1 }) 67)::X) (fun s=>r.Out.length - s.1) (0,x.Glyph,dcs) rfl ⟨rfl,rfl,trivial⟩ ⟨Nat.zero_le _,hd1,by simpa [vY] using hd2⟩ (fun _ _ h=>h) ?_
 rintro ⟨k,g,cs⟩ ⟨hk,hcl,hct⟩
 dsimp only at hk hcl hct ⊢
 try dsimp only [Is,Ir,Iq,Ik]
 repeat' (first|refine If ?_|refine IF a5 FN ?_)
 refine aq rfl (fun h=>?_) (fun h=>?_)
 ·have hk2:k < r.Out.length:=by have:=Iy h;omega
  obtain ⟨y,hy⟩:∃z,r.Out[k]?=some z:=⟨_,Iz hk2⟩
  have hyg:=bR hy
  clear h
  repeat' (first|refine If ?_|refine ak ?_|refine IF a5 FN ?_|(apply aS;first|refine aR a5 ?_|refine aH a5 ?_)|(apply aM;first|refine IG a5 0 ID ?_|refine IG a5 1 ID ?_|refine IG a5 2 ID ?_|refine IG a5 3 ID ?_|fail))
  refine IJ a5 3 IC ?_
  repeat' (first|refine bG a5 ?_|fail)
  refine la a5 1 rfl rfl rfl rfl (ut rfl rfl) rfl hcl (by omega) (by unfold maxLen;omega) (by simp;unfold maxLen;omega) (by simp;omega) rfl fun b' cs' cap' e1 e2 e3 e4 e5=>?_
  obtain ⟨e6,e7,e8⟩:=e5 (by simp;omega)
  subst e6;subst e7
  refine aJ (aI FA) ?_
  repeat' (first|refine If ?_|refine IF a5 FN ?_|(apply aV;refine aU ?_)|fail)
  refine aD (k+1,y,cs') rfl ⟨by rw [Iv];rfl,rfl,trivial⟩ ⟨hk2,e1,?_⟩ (by dsimp only;omega) (fun _ _ h=>h)
  rw [←Nat.add_assoc]
  refine e2.trans ?_
  rw [hct,show r.Out.take (k+1)=r.Out.take k++[y] by rw [List.take_add_one,hy];rfl]
  unfold vY
  rw [List.map_append,←List.append_assoc]
  refine Eq.trans ?_ (hY _ _).symm
  rfl
 ·have hke:k=r.Out.length:=by have:=Ix h;omega
  subst hke
  rw [List.take_length] at hct
  have hsrc:∀fr y B,bc fr y=some (.sc (.slice (some ⟨m.rb,if m.cap=i+1 then 0 else (i+1) * 6,none⟩) (run.length - (i+1)) (m.cap - (i+1))))→uK fr B ((wb,.box [.iptr (dR E),eM (some m) run] 102)::(db,.box cs 67)::dv::(ib,.box (bU { x with Glyph:=g }) 67)::X) y 6 (run.length - (i+1)) (bY (run.drop (i+1))):=by
   intro fr y B hy
   by_cases hz:run.length - (i+1)=0
   ·rw [hz] at hy ⊢
    rw [List.drop_eq_nil_of_le (by omega)]
    exact rH hy
   ·rcases hX with hX | hX
    ·omega
    ·subst hX
     have hs:=uu (B:=B) (sz:=6) (L:=(wb,.box [.iptr (dR E),eM (some m) run] 102)::(db,.box cs 67)::dv::(ib,.box (bU { x with Glyph:=g }) 67)::[(m.rb,.box (bY run++m.junk) 67)]) 4 hy rfl (by split <;> omega)
     rw [if_neg (by omega),rc run m.junk hil] at hs
     exact hs
  repeat' (first|refine If ?_|refine IF a5 FN ?_)
  refine la a5 1 rfl rfl rfl rfl (hsrc _ _ _ rfl) rfl hcl (by omega) (by unfold maxLen;omega) (by unfold maxLen;omega) (by omega) rfl fun b' cs' cap' e1 e2 e3 e4 e5=>?_
  obtain ⟨e6,e7,e8⟩:=e5 (by omega)
  subst e6;subst e7
  refine aJ (aI FA) ?_
  repeat' (first|refine If ?_|refine IF a5 FN ?_|(apply aM;first|refine IG a5 0 ID ?_|refine IG a5 1 ID ?_|refine IG a5 2 ID ?_|refine IG a5 3 ID ?_|fail))
  have hrun:gw r i run=run.take i++vY x r.Out++run.drop (i+1):=hmv
  have hlen:(gw r i run).length=i+r.Out.length+(run.length - (i+1)):=by
   rw [hrun,List.length_append,List.length_append,List.length_take,List.length_drop,BE]
   omega
  have hfl2:=d9 (gw r i run)
  have hcs:cs'=bY (gw r i run)++cs'.drop ((i+r.Out.length+(run.length - (i+1))) * 6):=by
   conv=>lhs;rw [←List.take_append_drop ((i+r.Out.length+(run.length - (i+1))) * 6) cs',e2,hct]
   rw [hrun,hY _ (run.drop (i+1))]
  refine fb (L':=[(wb,.box [.iptr (dR E),.sc (.slice (some ⟨b',0,none⟩) (i+r.Out.length+(run.length - (i+1)):Nat) cap')] 102),(b',.box cs' 67),dv]) (.cons_cons _ (.cons_cons _ (.cons_cons _ (List.nil_sublist _)))) ?_
  refine cA rfl ⟨some ⟨b',cap',cs'.drop ((i+r.Out.length+(run.length - (i+1))) * 6)⟩,⟨fun h=>(by cases h),fun m' hm'=>?_⟩,?_⟩
  ·cases hm'
   refine ⟨by rw [hlen];dsimp only;omega,by dsimp only;unfold maxLen;omega,?_⟩
   dsimp only
   rw [←hcs]
   exact e1
  ·unfold eM nF
   dsimp only
   rw [hlen,←hcs]
   rfl
end Go.Proofs.YtpmdfoaadejmkaaGreatDoor
