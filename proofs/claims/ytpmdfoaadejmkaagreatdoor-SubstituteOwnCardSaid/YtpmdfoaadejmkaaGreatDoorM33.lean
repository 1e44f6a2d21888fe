/-
  A call whose answer is held apart, just as it is.
-/
import Derived.Test.YtpmdfoaadejmkaaGreatDoorM29
import Derived.Test.YtpmdfoaadejmkaaGreatDoorM15
import Derived.Test.YtpmdfoaadejmkaaGreatDoorM17
import Derived.Test.YtpmdfoaadejmkaaGreatDoorM30
namespace Go.Proofs.YtpmdfoaadejmkaaGreatDoor
open Go.RowKit
section
variable {P:Program} {fr:bT} {B:Bs} {L:AL} {d:Option Tmp} {ty:TypeId} {pos:String} {af:Array Edge} {g:Option (Nat×Bool)}
theorem v6 (i:Nat) {z e0:Nat} {cs0:List AV} (hz:L[i]?=some (z,.box cs0 e0)) {f:FuncId} {args:Array Operand} {ts:Array TypeId} {cs ds:List AV} {Post:Mem→AV→Prop} [hf:bD P f] (hv:dy fr args.toList=some cs) (hi:gN cs=some ds) (h:Jy P f ds Post):
  AO P ⟨d,.call ⟨.value (.func f),args,ts⟩,ty,pos,af,g⟩ fr B L (fun c L'=>∃(σ1 τ:Mem) (v:Value) (c0:AV) (L1:AL),c= .sc v∧Post σ1 c0∧VR τ c0 v∧(∀b off u,τ b off=some u→σ1 b off=some u∨(b,AB.raw (wz τ b))∈L1)∧L'=L1++eF L i (gh σ1 (.box cs0 e0))):=by
 classical
 intro σ ρ w hρ hw
 unfold gT
 rw [nY hf ρ (hρ _ _ rfl).sc_inv]
 have e:args.map ρ=(args.toList.map ρ).toArray:=by apply Array.toList_inj.1;simp
 simp only [e]
 have hc':=h
 rw [←i4 hi] at hc'
 refine (hc' σ w _ ((ey hρ _ _ hv).im) (hw.enter (Lc:=[]) (Lf:=L))).mono fun en w' ⟨v,τ,c,L',h1,h2,h3,h4,h5⟩=>?_
 subst h5
 let T:List Nat:=(List.range w'.heap.size).filter fun b=>decide (w.heap.size≤b∧∃off u,τ b off=some u)
 have hT:∀b,b∈T↔b < w'.heap.size∧w.heap.size≤b∧∃off u,τ b off=some u:=fun b=>by simp [T]
 let L1:AL:=T.map fun b=>(b,.raw (wz τ b))
 have hL1:∀b off u,τ b off=some u→σ b off=some u∨(b,AB.raw (wz τ b))∈L1:=fun b off u hu=>by
  by_cases hlt:b < w.heap.size
  ·left
   have h9:τ b off=σ b off:=h3.same b hlt (by simp) off
   rw [←h9]
   exact hu
  ·exact .inr (List.mem_map.2 ⟨b,(hT b).2 ⟨iW (h3.froz _ _ _ hu),Nat.le_of_not_lt hlt,off,u,hu⟩,rfl⟩)
 suffices hst:cL B σ (L1++L) w' by
  refine ⟨v,h1,σ,.sc v,L1++eF L i (gh σ (.box cs0 e0)),Mem.le_refl _,.sc v,?_,σ,τ,v,c,L1,rfl,h4,h2,hL1,rfl⟩
  have hp:=(List.Perm.append_left L1 (dY hz)).trans List.perm_middle
  refine cL.perm ((hst.perm hp).asB (a':=gh σ (.box cs0 e0)) (fun o ho=>⟨Mem.le_refl _,ho⟩) (fun _ _=>trivial)) ?_
  exact (List.perm_middle.symm).trans (List.Perm.append_left L1 (jJ _ hz))
 have hsz:=h3.size
 have hold:∀k,k < w.heap.size→w'.heap[k]?=w.heap[k]?:=fun k hk=>h3.old k hk (by simp)
 have hnew:∀p∈L1,w.heap.size≤p.1∧∃off u,τ p.1 off=some u:=fun p hp=>by
  obtain ⟨b,hb,rfl⟩:=List.mem_map.1 hp
  exact ((hT b).1 hb).2
 have hraw:∀p∈L1,p.2= .raw (wz τ p.1):=fun p hp=>by
  obtain ⟨b,hb,rfl⟩:=List.mem_map.1 hp
  rfl
 refine ⟨h3.os.trans hw.os,h3.tape.trans hw.tape,h3.output.trans hw.output,Nat.le_trans hw.size hsz,fun k hk hx=>?_,fun p hp=>?_,fun p hp=>?_,?_,fun b off u hu=>?_,fun p hp off hm=>?_,hw.grow,hw.same,fun b off u hb hu=>?_⟩
 ·rw [hold k (Nat.lt_of_lt_of_le hk hw.size)]
  exact hw.old k hk hx
 ·rcases Ll hp with hp | hp
  ·obtain ⟨hge,off,u,hu⟩:=hnew p hp
   obtain ⟨cur,t,ho⟩:=h3.cold p.1 off u (.inl hge) hu
   refine ⟨_,ho,?_⟩
   rw [hraw p hp]
   refine ⟨cur,t,rfl,fun off u hu=>?_⟩
   have:=h3.froz _ off u hu
   simp only [World.cell?,ho] at this
   simpa using this
  ·obtain ⟨o,ho,hh⟩:=hw.here p hp
   exact ⟨o,(hold p.1 (hw.lt hp)).trans ho,hh⟩
 ·rcases Ll hp with hp | hp
  ·exact .inl (Nat.le_trans hw.size (hnew p hp).1)
  ·exact hw.mine p hp
 ·rw [List.map_append,List.nodup_append]
  refine ⟨?_,hw.apart,fun a ha b hb hab=>?_⟩
  ·rw [List.map_map]
   exact (List.map_id T).symm▸(List.nodup_range.filter _)
  ·subst hab
   obtain ⟨p,hp,rfl⟩:=List.mem_map.1 ha
   obtain ⟨p',hp',he⟩:=List.mem_map.1 hb
   have:=hw.lt hp'
   have:=(hnew p hp).1
   omega
 ·have h6:=h3.grow _ _ _ hu
  exact h3.froz b off u h6
 ·rcases Ll hp with hp | hp
  ·exact hw.fresh (hnew p hp).1 off
  ·exact hw.free p hp off hm
 ·obtain ⟨cur,t,ho⟩:=hw.cold b off u hb hu
  exact ⟨cur,t,(hold b (iW (hw.froz b off u hu))).trans ho⟩
end
def ET (P:Program) (f:FuncId) (args:List AV) (c:Mem→AV):Prop:=ES P f args [] fun σ r _=>r=c σ
section
variable {P:Program} {fr:bT} {B:Bs} {L:AL} {d:Option Tmp} {ty:TypeId} {pos:String} {af:Array Edge} {g:Option (Nat×Bool)}
theorem uX {f:FuncId} {args:Array Operand} {ts:Array TypeId} {cs ds:List AV} {c:Mem→AV} {σ0:Mem} [hf:bD P f] (h0:σ0.le B.σ) (hc:ET P f ds c) (ha:d6 c) (hv:dy fr args.toList=some cs) (hi:gN cs=some ds):
  AO P ⟨d,.call ⟨.value (.func f),args,ts⟩,ty,pos,af,g⟩ fr B L (fun r L'=>r=c σ0∧L'=L):=fun σ ρ w hρ hw=>
 (qx [] L hv hi (Lm _) hc σ ρ w hρ hw).mono fun v w' ⟨τ,r,L',h1,h2,h3,σ1,L1,h4,h5,h7⟩=>by
  subst h5;subst h7
  exact ⟨τ,c σ0,L,h1,ha σ0 σ1 (Mem.le_trans h0 h4) τ v h2,h3.sublist (List.sublist_append_right ..),rfl,rfl⟩
end
section
variable {P:Program} {tt:TT} {r:Option Nat} {ops:Array Oper} {Q:Exit→Act→World→Prop} {nt:Nat} {D:List Deferred} {fr:bT} {B:Bs} {L:AL} {rest:List Oper} {d:Nat} {ty:TypeId} {pos:String} {af:Array Edge}
theorem ud {f:FuncId} {args:Array Operand} {ts:Array TypeId} {cs ds:List AV} {c:Mem→AV} [bD P f] (hc:ET P f ds c) (ha:d6 c) (h:br P r ops Q nt D rest ((d,c B.σ)::fr) B L) (hv:dy fr args.toList=some cs:=by rfl) (hi:gN cs=some ds:=by rfl) (hd:Nat.ble nt d=false:=by rfl):
  br P r ops Q nt D (⟨some d,.call ⟨.value (.func f),args,ts⟩,ty,pos,af,none⟩::rest) fr B L:=
 cw hd rfl (uX (Mem.le_refl _) hc ha hv hi) fun _ L' ⟨h1,h2⟩=>by subst h1;subst h2;exact h
end
section
variable {P:Program} {l:List Oper} {fr:bT} {fin:iR} {sk:m6} {acc:bT} {L:AL} {k:Nat} {dd:Option Tmp} {ty:TypeId} {pos:String} {af:Array Edge} {g:Option (Nat×Bool)} {x:Operand} {u:AV}
theorem tJ {f:FuncId} {args:Array Operand} {ts:Array TypeId} {cs ds:List AV} {c:Mem→AV} [bD P f] (hc:ET P f ds c) (ha:d6 c) (h:DA P l fr fin sk ((k,c fin.c0)::acc) L) (hv:dy (cx l.toArray acc fr af.toList) args.toList=some cs:=by rfl) (hi:gN cs=some ds:=by rfl) (hg:it ⟨dd,.call ⟨.value (.func f),args,ts⟩,ty,pos,af,g⟩ acc:=by first | trivial | rfl):
  cA P l fr fin k .e ⟨dd,.call ⟨.value (.func f),args,ts⟩,ty,pos,af,g⟩ sk acc L:=
 yK hg (fun _ hB=>uX hB hc ha hv hi) fun _ L' ⟨h1,h2⟩=>by subst h1;subst h2;exact h
end
end Go.Proofs.YtpmdfoaadejmkaaGreatDoor
namespace Go.Proofs.YtpmdfoaadejmkaaGreatDoor
open Go.RowKit
attribute [local irreducible] AT br AX AO Av Kt b7 dm DA cA
set_option maxHeartbeats 8000000 in
theorem sm (n:Nat) (h0:0 < n) (hn:n≤65536) (sets:List (List Int)) (hs:∀s∈sets,jI s∧∀g∈s,0≤g∧g < (n:Int)) (hsl:sets.length≤1000000):ET Tryz.prog 98 [aI n,.imm 1 (bj sets)] fun σ=> .new (bG σ) 1 (aQ (da n sets)):=by
 refine iU Tryz.func98 rfl Tryz.ntmps98 rfl fun B hBX hBq=>?_
 have hrl:=bZ sets
 refine W01 ?_
 refine ce [0,1] False rfl (fun Q' K=>?_) (fun hC=>hC.elim) (fun _=>?_)
 ·repeat' (first|refine a7 ?_|refine LG a5 KZ ?_|refine LO KZ ?_|refine LP LB ?_|refine LR LA (fun _=>?_) (fun _=>?_))
  all_goals exact K _ _ rfl rfl (by simp_all <;> omega)
 refine W0e ?_
 refine iz a5 n rfl rfl rfl rfl rfl rfl rfl (by omega) (by omega) rfl fun cb=>?_
 rw [show (List.replicate n (List.map AV.sc [Value.int .i64 0])).flatten=cB (List.replicate n 0) from jt n]
 refine W04 ?_
 refine aN [0,5,28,29] (α:=Nat×List Int×Int) (fun s=>[(30,aI s.1),(6,aI s.2.2)]) (fun s=>s.1≤sets.length∧(sets.drop s.1).foldl i6 (s.2.1,s.2.2)=kV n sets∧s.2.1.length=n∧0≤s.2.2∧s.2.2≤1+s.1 * 65536) (fun s=>[(cb,.box (cB s.2.1) 3)]) (fun s=>sets.length - s.1) (0,List.replicate n 0,1) rfl ⟨rfl,rfl,trivial⟩ ⟨Nat.zero_le _,rfl,by simp,by dsimp only;omega,by dsimp only;omega⟩ (fun _ _ h=>h) ?_
 ·rintro ⟨k,cls,k0⟩ ⟨hk,hf,hcl,hk0,hk1⟩
  dsimp only at hk hf hcl hk0 hk1 ⊢
  try dsimp only [Lr,Lq,Lp,Li]
  refine W01 ?_
  refine ar rfl (fun h1=>?_) (fun h1=>?_)
  ·have hk2:k < sets.length:=by have:=Lz h1;omega
   obtain ⟨s,hsk⟩:∃z,sets[k]?=some z:=⟨_,Iy hk2⟩
   have hsg:=gr hsk
   obtain ⟨hri,hdm⟩:=hs s (Lw hsk)
   have hsn:s.length≤n:=fF (gq hri) hdm
   have hil:=aX s
   haveI:=AD.mk (wm s hri)
   rw [List.drop_eq_getElem_cons hk2,(Ln hsk).2,List.foldl_cons] at hf
   clear h1
   refine W08 ?_
   refine eX KJ fun mb=>?_
   rw [←uD k0]
   refine W1t ?_
   refine aN [0,5,9,28,29,30,36,37] (α:=Nat×List Int×List Int) (fun t=>[(38,aI t.1),(6,aI (k0+(t.2.2.length:Nat)))]) (fun t=>t.1≤s.length∧(s.drop t.1).foldl (fU k0) (t.2.1,t.2.2)=s.foldl (fU k0) (cls,[])∧t.2.1.length=n∧t.2.2.length≤t.1) (fun t=>[(mb,cR KJ (tM k0 t.2.2)),(cb,.box (cB t.2.1) 3)]) (fun t=>s.length - t.1) (0,cls,[]) rfl ⟨rfl,by simp;rfl,trivial⟩ ⟨Nat.zero_le _,rfl,hcl,Nat.le_refl _⟩ (fun _ _ h=>h) ?_
   rintro ⟨j,cl1,ap⟩ ⟨hj,hjf,hjl,hja⟩
   dsimp only at hj hjf hjl hja ⊢
   try dsimp only [Lr,Lq,Lp,Li]
   refine W01 ?_
   refine ar rfl (fun h1=>?_) (fun h1=>?_)
   ·have hj2:j < s.length:=by have:=Lz h1;omega
    obtain ⟨g,hg⟩:∃z,s[j]?=some z:=⟨_,Iy hj2⟩
    have hgg:=bW hg
    obtain ⟨hg0,hgn⟩:=hdm g (Lw hg)
    obtain ⟨z,hz⟩:∃z,cl1[g.toNat]?=some z:=⟨_,Iy (by omega)⟩
    have hgt:((g.toNat:Nat):Int)=g:=Int.toNat_of_nonneg hg0
    have hzc:=kF hz
    rw [hgt] at hzc
    have hcc:=eH cl1
    have hput:∀y,fx (cB cl1) (0+g.toNat * 1) [aI y]=cB (cl1.set g.toNat y):=fun y=>by
     have:=eI (l:=cl1) (i:=g.toNat) (z:=y)
     rwa [hgt] at this
    rw [List.drop_eq_getElem_cons hj2,(Ln hg).2,List.foldl_cons] at hjf
    have hmk:fU k0 (cl1,ap) g=(cl1.set g.toNat (k0+((dl ap z).idxOf z:Nat)),dl ap z):=by
     unfold fU
     rw [yT hz]
    rw [hmk] at hjf
    have hal:=o5 ap z
    clear h1
    refine W08 ?_
    refine ce [0,5,6,9,11,28,29,30,36,37,38] False rfl (fun Q' K=>?_) (fun hC=>hC.elim) (fun _=>?_)
    ·repeat' (first|refine a7 ?_|refine LG a5 KZ ?_|refine LO KZ ?_|refine LP LB ?_|refine LR LA (fun _=>?_) (fun _=>?_))
     all_goals exact K _ _ rfl rfl (by simp_all <;> omega)
    refine W0B ?_
    refine gn 0 (.int .i64 0) Tryz.underlying257 Tryz.underlying3 rfl rfl rfl rfl (by kernel_rfl) rfl ?_
    by_cases hm:z∈ap
    ·have hgs:=o8 (k:=k0) hm
     have hta:=fc hm
     rw [hta] at hjf
     rw [hgs]
     refine W0G ?_
     refine io 0 (.int .i64 0) Tryz.underlying257 Tryz.underlying3 rfl rfl rfl rfl (by kernel_rfl) rfl ?_
     rw [hgs]
     refine W0z ?_
     refine LU a5 1 LD (Nat.ble_eq_true_of_le (by rw [hcc];simp;omega)) ?_
     refine aE (aH (L':=[(mb,cR KJ (tM k0 ap)),(cb,.box (cB (cl1.set g.toNat (k0+(ap.idxOf z:Nat)))) 3)]) (List.Perm.of_eq (ie (hput _)))) ?_
     refine W05 ?_
     exact aC (j+1,_,ap) rfl ⟨by rw [Lv];rfl,rfl,trivial⟩ ⟨hj2,hjf,by rw [List.length_set];exact hjl,by dsimp only;omega⟩ (by dsimp only;omega) (fun _ _ h=>h)
    ·have hgn2:=qh (k:=k0) hm
     have hgp:=uE (k:=k0) hm
     have hnew:=kl hm
     have hnl:(dl ap z).length=ap.length+1:=by rw [g7 hm,List.length_append,List.length_singleton]
     rw [hgn2]
     refine W1r ?_
     refine dD 0 (tM k0 (dl ap z)) Tryz.underlying257 Tryz.underlying3 rfl rfl rfl rfl rfl hgp (qg hm) ?_
     refine W1L ?_
     refine io 0 (.int .i64 0) Tryz.underlying257 Tryz.underlying3 rfl rfl rfl rfl (by kernel_rfl) rfl ?_
     rw [hgp]
     refine W0z ?_
     refine LU a5 1 LD (Nat.ble_eq_true_of_le (by rw [hcc];simp;omega)) ?_
     refine aE (aH (L':=[(mb,cR KJ (tM k0 (dl ap z))),(cb,.box (cB (cl1.set g.toNat (k0+(ap.length:Nat)))) 3)]) (List.Perm.of_eq (ie (hput _)))) ?_
     refine W05 ?_
     rw [hnew] at hjf
     refine aC (j+1,_,dl ap z) rfl ⟨by rw [Lv];rfl,?_,trivial⟩ ⟨hj2,hjf,by rw [List.length_set];exact hjl,by dsimp only;omega⟩ (by dsimp only;omega) (fun _ _ h=>h)
     show some (AV.sc (.int .i64 (k0+(ap.length:Nat)+1)))=some (aI (k0+((dl ap z).length:Nat)))
     rw [hnl,Lv,Int.add_assoc]
     rfl
   ·have hj2:j=s.length:=by have:=Ly h1;omega
    subst hj2
    rw [List.drop_length] at hjf
    have hjf2:(cl1,ap)=s.foldl (fU k0) (cls,[]):=hjf
    have hps:i6 (cls,k0) s=(cl1,k0+(ap.length:Nat)):=by
     unfold i6
     dsimp only
     rw [←hjf2]
    rw [hps] at hf
    clear h1
    refine W0y ?_
    exact aC (k+1,cl1,k0+(ap.length:Nat)) rfl ⟨by rw [Lv];rfl,rfl,trivial⟩ ⟨hk2,hf,hjl,by dsimp only;omega,by dsimp only;omega⟩ (by dsimp only;omega) (fun _ _ h=>h.sublist (List.sublist_cons_self ..))
  ·have hk2:k=sets.length:=by have:=Ly h1;omega
   subst hk2
   rw [List.drop_length] at hf
   have hf2:(cls,k0)=kV n sets:=hf
   have hpv:da n sets=eZ cls:=by unfold da;rw [←hf2]
   rw [hpv]
   clear h1
   refine W1p ?_
   refine eX KJ fun tb=>?_
   rw [←uD 0]
   refine W04 ?_
   refine aN [5,15,75,76] (α:=Nat) (fun i=>[(77,aI i)]) (fun i=>i≤cls.length) (fun i=>[(tb,cR KJ (tM 0 (hY (cls.take i)))),(cb,.box (cB (eZ (cls.take i)++cls.drop i)) 3)]) (fun i=>cls.length - i) 0 rfl ⟨rfl,trivial⟩ (Nat.zero_le _) (fun _ _ h=>h) fun i hi=>?_
   try dsimp only [Lr,Lq,Lp,Li]
   refine W01 ?_
   refine ar rfl (fun h1=>?_) (fun h1=>?_)
   ·have hi2:i < cls.length:=by have:=Lz h1;omega
    obtain ⟨z,hz⟩:∃z,cls[i]?=some z:=⟨_,Iy hi2⟩
    have hzc:=kF (zw hz)
    have hcc:=eH (eZ (cls.take i)++cls.drop i)
    have hcl2:(eZ (cls.take i)++cls.drop i).length=cls.length:=by rw [List.length_append,fQ,List.length_take,List.length_drop];omega
    have htc:=tu hz
    have htt:=tp hz
    have hnd:=rY (cls.take i)
    clear h1
    refine W0A ?_
    refine gn 0 (.int .i64 0) Tryz.underlying257 Tryz.underlying3 rfl rfl rfl rfl (by kernel_rfl) rfl ?_
    by_cases hm:z∈hY (cls.take i)
    ·have hgs:=o8 (k:=0) hm
     have hta:=fc hm
     rw [hta] at htc htt
     rw [hgs]
     refine W0G ?_
     refine io 0 (.int .i64 0) Tryz.underlying257 Tryz.underlying3 rfl rfl rfl rfl (by kernel_rfl) rfl ?_
     rw [hgs]
     refine W0z ?_
     refine LU a5 1 LD (Nat.ble_eq_true_of_le (by rw [hcc,hcl2,Int.toNat_natCast];show 0+i * 1+1≤_;omega)) ?_
     refine aE (aH (L':=[(tb,cR KJ (tM 0 (hY (cls.take i)))),(cb,.box (cB (eZ (cls.take (i+1))++cls.drop (i+1))) 3)]) (List.Perm.of_eq (ie (by rw [←htc,←eI,Int.zero_add])))) ?_
     refine W05 ?_
     exact aC (i+1) rfl ⟨by rw [Lv];rfl,trivial⟩ (by omega) (by omega) (fun _ _ h=>by rw [htt];exact h)
    ·have hgn2:=qh (k:=0) hm
     have hgp:=uE (k:=0) hm
     have hnew:=kl hm
     rw [hgn2]
     refine W1r ?_
     refine vZ 0 _ Tryz.underlying257 rfl rfl (r5 hnd) (zt 0 _) rfl ?_
     rw [Lu]
     rw [Int.zero_add] at hgp
     repeat' (first|fail)
     refine dD 0 (tM 0 (dl (hY (cls.take i)) z)) Tryz.underlying257 Tryz.underlying3 rfl rfl rfl rfl rfl hgp (qg hm) ?_
     refine W1a ?_
     refine io 0 (.int .i64 0) Tryz.underlying257 Tryz.underlying3 rfl rfl rfl rfl (by kernel_rfl) rfl ?_
     rw [hgp]
     refine W0z ?_
     refine LU a5 1 LD (Nat.ble_eq_true_of_le (by rw [hcc,hcl2,Int.toNat_natCast];show 0+i * 1+1≤_;omega)) ?_
     refine aE (aH (L':=[(tb,cR KJ (tM 0 (dl (hY (cls.take i)) z))),(cb,.box (cB (eZ (cls.take (i+1))++cls.drop (i+1))) 3)]) (List.Perm.of_eq (ie (by rw [←htc,←eI,hnew])))) ?_
     refine W05 ?_
     exact aC (i+1) rfl ⟨by rw [Lv];rfl,trivial⟩ (by omega) (by omega) (fun _ _ h=>by rw [htt];exact h)
   ·have hi2:i=cls.length:=by have:=Ly h1;omega
    subst hi2
    rw [List.take_length,List.drop_length,List.append_nil]
    clear h1
    refine W02 ?_
    have htl:=fQ cls
    have hcc:=eH (eZ cls)
    refine bc (mt (q:=bG B.σ) (t:=4) (sz:=1) (n:=n) (cap:=n) (l:=aQ (eZ cls)) 1 (fun x hx=>by rw [hBX] at hx;cases hx) hBq rfl rfl ?_ (by omega) (fun e he=>?_) (by rw [aX];omega) (Nat.le_refl _) (by unfold maxLen;omega)) ?_
    ·rw [←js,Nat.mul_one,List.take_of_length_le (by omega)]
    ·unfold aQ at he
     obtain ⟨y,_,rfl⟩:=List.mem_map.1 he
     rfl
    refine dc (List.nil_sublist _) ?_
    exact LN LA
section
variable {nt:Nat} {D:List Deferred} {B:Bs} {fr:bT} {L:AL}
theorem mv {t:Nat} {c c':AV} (hl:ca fr t=some c) (h:∀σ w v,cL B σ L w→VR σ c v→VR σ c' v):jn nt D B fr L ((t,c')::fr) L:=fun σ a w ha hw=>⟨σ,⟨ha.size,ha.defers,fun t' v' hl'=>by
 rw [bY] at hl'
 by_cases e:t=t'
 ·subst e
  simp only [if_true,Option.some.injEq] at hl'
  subst hl'
  exact h σ w _ hw (ha.look t _ hl)
 ·rw [if_neg e] at hl'
  exact ha.look t' v' hl'⟩,hw⟩
end
set_option maxHeartbeats 16000000 in
theorem rT (R:RD) (hv:Nat→Bool) (Lb:Nat) (h:zH R hv Lb) (u:AV) (hu:i9 Tryz.prog u [] [] fun c L=>∃rb,c=eO rb∧L=eN R rb 0 none):ES Tryz.prog 99 [u] [] fun σ c _=>∃tab ends,qo R.cls R.rows hv R.C tab ends∧c= .tup [.new (bG σ) 1 (bF (bG σ) tab),.new (bG σ) 1 (ek ends),eo true]:=by
 refine iU Tryz.func99 rfl Tryz.ntmps99 rfl fun B hBX hBq=>?_
 have hX0:∀(L:AL),∀x∈B.X,x∈L.map (·.1):=fun L x hx=>by rw [hBX] at hx;cases hx
 refine W01 ?_
 refine fN [] [] hu rfl rfl (Lm _) rfl rfl fun c L1 ⟨rb,hc,hL⟩=>?_
 subst hc;subst hL
 refine W01 ?_
 refine eX .string fun kb=>?_
 refine W0C ?_
 intros
 rename_i nb mb
 have hok:=h.ok
 obtain ⟨hCm,hNm⟩:=hok.many
 refine aE (bC 0 (cs':=[.vec none 2 []]) rfl fun σ vs hh=>iS.vrs (a:=[.sc (.slice none 0 0)]) (b:=[.vec none 2 []]) ⟨fun σ v h=>cC 2 h,trivial⟩ hh) ?_
 refine aE (aH (L':=jQ R nb kb mb rb ⟨[],none,0,none⟩ []) (by unfold jQ;rw [zp];exact Jm)) ?_
 refine b9 (eN R rb 0 none) _ (td R rb 0 none (by omega)) rfl rfl iJ rfl fun c L1 ⟨hc,k0,qr0,hk0,hL⟩=>?_
 subst hc;subst hL
 refine aE (aH (L':=jQ R nb kb mb rb ⟨[],none,k0,qr0⟩ []) (iJ (s:=⟨[],none,k0,qr0⟩)).symm) ?_
 have hst0:ia R.rows hv Lb [((0,R.have_):Pl)]:=by
  have:=ia.start (rows:=R.rows) (have_:=hv) (L:=Lb)
  unfold lI at this
  rwa [←h.has] at this
 have hsm0:=(h.small hst0).1 (0,R.have_) (by simp)
 have hme0:=qa nb kb mb [] (fun x hx=>by cases hx) (by simp) none (0,R.have_) hsm0
 repeat' (first|fail)
 refine fN (rl nb kb mb [] none) _ (i9.fn (f:=178) (caps:=[eO nb,eO mb]) hme0) rfl rfl nz rfl rfl fun c L1 ⟨hc,q0,hL⟩=>?_
 subst hc;subst hL
 refine aE (aH (L':=jQ R nb kb mb rb ⟨[(0,R.have_)],q0,k0,qr0⟩ []) (nz (s:=⟨[(0,R.have_)],q0,k0,qr0⟩)).symm) ?_
 refine W04 ?_
 refine bM (bA (t:=2) (c':= .vec none 1 (bF (bG B.σ) [])) rfl fun σ v h=>cC 1 h) ?_
 refine bM (bA (t:=3) (c':= .vec none 1 (ek [])) rfl fun σ v h=>cC 1 h) ?_
 refine aN [5,7,8] (α:=JM) (fun t=>[(9,aI t.tab.length),(2,.vec t.qt 1 (bF (bG B.σ) t.tab)),(3,.vec t.qe 1 (ek t.ends))]) (fun t=>ia R.rows hv Lb t.s.M∧fS R.cls R.rows R.C t.s.M t.tab t.ends∧t.tab.length≤t.s.M.length∧t.s.k≤1000001) (fun t=>jQ R nb kb mb rb t.s (Kx t)) (fun t=>20000 - t.tab.length) ⟨⟨[(0,R.have_)],q0,k0,qr0⟩,[],none,[],none⟩ rfl ⟨rfl,rfl,rfl,trivial⟩ ⟨hst0,fS.nil,Nat.zero_le _,hk0⟩ (fun _ _ hh=>hh) ?_
 rintro ⟨⟨M,q,k,qr⟩,tab,qt,ends,qe⟩ ⟨hst,htb,htl,hk⟩
 dsimp only at hst htb htl hk ⊢
 try dsimp only [Lr,Lq,Lp,Li]
 have hml:(M.map lp).length=M.length:=Lu ..
 obtain ⟨hsm,hM2⟩:=h.small hst
 refine W0d ?_
 refine ar rfl (fun h1=>?_) (fun h1=>?_)
 ·have hn2:tab.length < M.length:=by have h1':(tab.length:Int) < ((M.map lp).length:Int):=Lz h1;omega
  obtain ⟨p,hp⟩:∃p,M[tab.length]?=some p:=⟨_,Iy hn2⟩
  clear h1
  refine W16 ?_
  refine iz a5 R.C rfl rfl rfl rfl rfl rfl rfl (by omega) (by omega) rfl fun rwb=>?_
  rw [show (List.replicate R.C (List.map AV.sc [Value.int .i64 0])).flatten=cB (List.replicate R.C 0) from jt R.C]
  refine W04 ?_
  refine aN [2,3,5,7,8,9,10,33] (α:=Nat×SS×List Int) (fun t=>[(34,aI t.1)]) (fun t=>t.1≤R.C∧ia R.rows hv Lb t.2.1.M∧fS R.cls R.rows R.C t.2.1.M tab ends∧t.2.1.M[tab.length]?=some p∧t.2.2.length=R.C∧t.2.1.k≤1000001∧∀(c:Nat) z,c < t.1→t.2.2[c]?=some z→gS R.cls R.rows t.2.1.M p c z) (fun t=>(rwb,.box (cB t.2.2) 3)::jQ R nb kb mb rb t.2.1 (tok qt 22 1 tab.length++tok qe 246 1 ends.length)) (fun t=>R.C - t.1) (0,⟨M,q,k,qr⟩,List.replicate R.C 0) rfl ⟨rfl,trivial⟩ ⟨Nat.zero_le _,hst,htb,hp,by simp,hk,fun c z hc=>by omega⟩ (fun _ _ hh=>hh) ?_
  ·rintro ⟨c,⟨M1,q1,k1,qr1⟩,ea⟩ ⟨hc,hst1,htb1,hp1,hrl,hk1,hce⟩
   dsimp only at hc hst1 htb1 hp1 hrl hk1 hce ⊢
   try dsimp only [Lr,Lq,Lp,Li]
   have hcl:=eH ea
   obtain ⟨hsm1,hM1⟩:=h.small hst1
   refine W01 ?_
   refine ar rfl (fun h1=>?_) (fun h1=>?_)
   ·have hc2:c < R.C:=by have:=Lz h1;omega
    have hpg:=jx hp1
    have hps:=hst1.small p (Lw hp1)
    have hps2:=hsm1 p (Lw hp1)
    have hbe:=sE R hok rb k1 qr1 hk1 p (by have:=hps2.1;omega) (by have:=hps2.2;omega) c hc2
    have hst':=eI (l:=ea) (i:=c) (z:= -1)
    clear h1
    refine W08 ?_
    refine LU a5 0 LD (Nat.ble_eq_true_of_le (by rw [hcl,hrl,Int.toNat_natCast];show 0+c * 1+1≤_;omega)) ?_
    rw [hst']
    refine a7 ?_
    refine a6 ?_
    refine bM (aH (L':=(rwb,.box (cB (ea.set c (-1))) 3)::jQ R nb kb mb rb ⟨M1,q1,k1,qr1⟩ (tok qt 22 1 tab.length++tok qe 246 1 ends.length)) (Lm _)) ?_
    refine W0D ?_
    refine b9 (eN R rb k1 qr1) _ hbe rfl rfl nB rfl fun c1 L1 ⟨hc1,k2,qr2,hk2,hL⟩=>?_
    subst hc1;subst hL
    refine aE (aH (L':=(rwb,.box (cB (ea.set c (-1))) 3)::jQ R nb kb mb rb ⟨M1,q1,k2,qr2⟩ (tok qt 22 1 tab.length++tok qe 246 1 ends.length)) (nB (s:=⟨M1,q1,k2,qr2⟩)).symm) ?_
    have hrs:(ea.set c (-1)).length=R.C:=by rw [List.length_set];exact hrl
    have hrs2:=eH (ea.set c (-1))
    refine W0C ?_
    intros
    refine ar rfl (fun h1=>?_) (fun h1=>?_)
    ·have hne:(bH R.cls R.rows p c).2≠0:=by
      intro e
      have h1':((bH R.cls R.rows p c).2:Int)≠0:=Lz h1
      rw [e] at h1'
      exact h1' rfl
     have hst2:=hst1.meet h.long hne
     have hsm2:=(h.small hst2).1
     have hme:=qa nb kb mb M1 hsm1 (by omega) q1 (bH R.cls R.rows p c) (hsm2 _ (kj _ _))
     have hput:=eI (l:=ea.set c (-1)) (i:=c) (z:=((dl M1 (bH R.cls R.rows p c)).idxOf (bH R.cls R.rows p c):Nat))
     have hcn:=gS.new (M:=M1) hne
     have htm:=htb1.more (by have:=(Ln hp1).1;omega) (bH R.cls R.rows p c)
     have hpm:=lW (bH R.cls R.rows p c) hp1
     have hcm:∀(c':Nat) z,c' < c→ea[c']?=some z→gS R.cls R.rows (dl M1 (bH R.cls R.rows p c)) p c' z:=fun c' z h1 h2=>(hce c' z h1 h2).more
     clear h1
     refine W1f ?_
     refine fN (rl nb kb mb M1 q1) _ (i9.fn (f:=178) (caps:=[eO nb,eO mb]) hme) rfl rfl nA rfl rfl fun c2 L2 ⟨hc2',q2,hL⟩=>?_
     subst hc2';subst hL
     refine aE (aH (L':=(rwb,.box (cB (ea.set c (-1))) 3)::jQ R nb kb mb rb ⟨dl M1 (bH R.cls R.rows p c),q2,k2,qr2⟩ (tok qt 22 1 tab.length++tok qe 246 1 ends.length)) (nA (s:=⟨dl M1 (bH R.cls R.rows p c),q2,k2,qr2⟩)).symm) ?_
     refine W0z ?_
     refine LU a5 0 LD (Nat.ble_eq_true_of_le (by rw [hrs2,hrs,Int.toNat_natCast];show 0+c * 1+1≤_;omega)) ?_
     rw [hput]
     refine W05 ?_
     refine aC (c+1,⟨dl M1 (bH R.cls R.rows p c),q2,k2,qr2⟩,(ea.set c (-1)).set c ((dl M1 (bH R.cls R.rows p c)).idxOf (bH R.cls R.rows p c):Nat)) rfl ⟨by rw [Lv];rfl,trivial⟩ ⟨hc2,hst2,htm,hpm,by rw [List.length_set];exact hrs,hk2,fun c' z h1 h2=>?_⟩ (by dsimp only;omega) (fun _ _ hh=>hh)
     by_cases he:c'=c
     ·subst he
      rw [List.getElem?_set_self (by omega)] at h2
      cases h2
      exact hcn
     ·rw [List.getElem?_set_ne (fun e=>he e.symm),List.getElem?_set_ne (fun e=>he e.symm)] at h2
      exact hcm c' z (by dsimp only at h1;omega) h2
    ·have he0:(bH R.cls R.rows p c).2=0:=by
      have h1':¬((bH R.cls R.rows p c).2:Int)≠0:=Ly h1
      omega
     clear h1
     refine W06 ?_
     refine aC (c+1,⟨M1,q1,k2,qr2⟩,ea.set c (-1)) rfl ⟨by rw [Lv];rfl,trivial⟩ ⟨hc2,hst1,htb1,hp1,hrs,hk2,fun c' z h1 h2=>?_⟩ (by dsimp only;omega) (fun _ _ hh=>hh)
     by_cases he:c'=c
     ·subst he
      rw [List.getElem?_set_self (by omega)] at h2
      cases h2
      exact .inl ⟨he0,rfl⟩
     ·rw [List.getElem?_set_ne (fun e=>he e.symm)] at h2
      exact hce c' z (by dsimp only at h1;omega) h2
   ·have hc2:c=R.C:=by have:=Ly h1;omega
    subst hc2
    have hn3:tab.length < M1.length:=(Ln hp1).1
    have hpg:=jx hp1
    have hps2:=hsm1 p (Lw hp1)
    have hml1:(M1.map lp).length=M1.length:=Lu ..
    have hen:=yO R hok rb k1 qr1 hk1 p (by have:=hps2.1;omega) (by have:=hps2.2;omega)
    have htl3:=dI (bG B.σ) tab
    have hul3:=kp ends
    have hsn:=htb1.snoc hp1 hrl fun c' z h2=>hce c' z (by have:=(Ln h2).1;omega) h2
    have hel:=htb1.len
    clear h1
    refine W0Y ?_
    refine ar rfl (fun h1=>?_) (fun h1=>?_)
    ·have h1':(20000:Int) < ((M1.map lp).length:Int):=Lz h1
     omega
    clear h1
    refine bM (mt (t:=10) (sz:=1) (n:=R.C) (cap:=R.C) (l:=aQ ea) 0 (hX0 _) hBq rfl rfl (by rw [←js,Nat.mul_one,List.take_of_length_le (by omega)]) (by omega) (fun e he=>by unfold aQ at he;obtain ⟨y,_,rfl⟩:=List.mem_map.1 he;rfl) (by rw [aX];exact hrl) (Nat.le_refl _) (by unfold maxLen;omega)) ?_
    refine W1F ?_
    refine bE a5 (jQ R nb kb mb rb ⟨M1,q1,k1,qr1⟩ (tok qe 246 1 ends.length)) rfl rfl rfl rfl (by rw [htl3];exact nC) (by rw [htl3];simp;omega) (by rw [htl3];simp;omega) rfl fun qt'=>?_
    have hrsn:bF (bG B.σ) tab++[[AV.new (bG B.σ) 1 (aQ ea)]]=bF (bG B.σ) (tab++[ea]):=by simp [bF]
    refine aE (aH (L':=jQ R nb kb mb rb ⟨M1,q1,k1,qr1⟩ (tok qt' 22 1 (bF (bG B.σ) tab++[[AV.new (bG B.σ) 1 (aQ ea)]]).length++tok qe 246 1 ends.length)) nC.symm) ?_
    refine W11 ?_
    refine b9 (eN R rb k1 qr1) _ hen rfl rfl iJ rfl fun c1 L1 ⟨hc1,k2,qr2,hk2,hL⟩=>?_
    subst hc1;subst hL
    refine aE (aH (L':=jQ R nb kb mb rb ⟨M1,q1,k2,qr2⟩ (tok qt' 22 1 (bF (bG B.σ) tab++[[AV.new (bG B.σ) 1 (aQ ea)]]).length++tok qe 246 1 ends.length)) (iJ (s:=⟨M1,q1,k2,qr2⟩)).symm) ?_
    repeat' (first|refine bQ a5 ?_|fail)
    refine bE a5 (jQ R nb kb mb rb ⟨M1,q1,k2,qr2⟩ (tok qt' 22 1 (bF (bG B.σ) tab++[[AV.new (bG B.σ) 1 (aQ ea)]]).length)) rfl rfl rfl rfl (by rw [hul3];exact ny) (by rw [hul3];simp;omega) (by rw [hul3];simp;omega) rfl fun qe'=>?_
    have husn:ek ends++[[jA (ii R.rows p)]]=ek (ends++[ii R.rows p]):=by simp [ek]
    refine aE (aH (L':=jQ R nb kb mb rb ⟨M1,q1,k2,qr2⟩ (tok qt' 22 1 (bF (bG B.σ) tab++[[AV.new (bG B.σ) 1 (aQ ea)]]).length++tok qe' 246 1 (ek ends++[[jA (ii R.rows p)]]).length)) ny.symm) ?_
    refine W05 ?_
    have hll:(tab++[ea]).length=tab.length+1:=by simp
    refine aC ⟨⟨M1,q1,k2,qr2⟩,tab++[ea],qt',ends++[ii R.rows p],qe'⟩ rfl ⟨?_,by dsimp only;rw [←hrsn];rfl,by dsimp only;rw [←husn];rfl,trivial⟩ ⟨hst1,hsn,by dsimp only;omega,hk2⟩ (by dsimp only;omega) (fun _ _ hh=>?_)
    ·dsimp only
     rw [hll,Lv]
     rfl
    ·dsimp only
     rw [hrsn,husn,dI,kp] at hh
     exact hh
 ·have hn2:tab.length=M.length:=by
   have h1':¬(tab.length:Int) < ((M.map lp).length:Int):=Ly h1
   omega
  clear h1
  refine W02 ?_
  refine bc (mv (t:=2) (c':= .new (bG B.σ) 1 (bF (bG B.σ) tab)) rfl fun σ w v hw h=>iM (e:=22) (n:=tab.length) hw (hX0 _) nC hBq h) ?_
  refine bc (mv (t:=3) (c':= .new (bG B.σ) 1 (ek ends)) rfl fun σ w v hw h=>iM (e:=246) (n:=ends.length) hw (hX0 _) ny hBq h) ?_
  exact fY (cs:=[.new (bG B.σ) 1 (bF (bG B.σ) tab),.new (bG B.σ) 1 (ek ends),eo true]) [] ⟨rfl,rfl,rfl,trivial⟩ (List.nil_sublist _) ⟨tab,ends,htb.done hst hn2,rfl⟩
end Go.Proofs.YtpmdfoaadejmkaaGreatDoor
