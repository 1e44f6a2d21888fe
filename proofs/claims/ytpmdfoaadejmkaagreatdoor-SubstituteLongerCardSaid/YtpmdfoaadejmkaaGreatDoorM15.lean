/-
  States of rows of sets, as they are met.
-/
import Derived.Test.YtpmdfoaadejmkaaGreatDoorM13
import Derived.Test.YtpmdfoaadejmkaaGreatDoorM14
import Derived.Test.YtpmdfoaadejmkaaGreatDoorM12
import Derived.Laws.BytesString
import Derived.Test.YtpmdfoaadejmkaaGreatDoorM06
import Derived.WalkSpells
import Derived.Test.YtpmdfoaadejmkaaGreatDoorM11
namespace Go.Proofs.YtpmdfoaadejmkaaGreatDoor
open Go.RowKit
attribute [local irreducible] AT br AX AO Av Kt bb df DA cC
abbrev Pl:=Nat×Nat
section
variable {cls:List Int} {rows:List (List (List Int))} {have_:Nat→Bool} {L:Nat}
theorem rZ (hL:∀r∈rows,r.length≤L) {p:Pl} {c:Nat} (h:(c5 cls rows p c).2≠0):(c5 cls rows p c).1≤L∧(c5 cls rows p c).2 < 2 ^ rows.length∧c5 cls rows p c=(p.1+1,p.2 &&& j9 cls rows p.1 c):=by
 unfold c5 at h ⊢
 split
 ·rename_i h0
  rw [if_pos h0] at h
  exact absurd rfl h
 ·rename_i h0
  refine ⟨?_,Nat.lt_of_le_of_lt Nat.and_le_right (m9 _ _),rfl⟩
  have hn:j9 cls rows p.1 c≠0:=fun e=>h0 (by rw [e,Nat.and_zero])
  have:¬∀i,i < rows.length→ln cls rows p.1 c i=false:=fun hh=>hn (pe.2 hh)
  apply Classical.byContradiction
  intro hlt
  refine this fun i hi=>?_
  unfold ln
  rw [Iz hi]
  dsimp only
  rw [List.getElem?_eq_none (by have:=hL _ (List.getElem_mem hi);dsimp only at hlt;omega)]
structure iV (rows:List (List (List Int))) (have_:Nat→Bool) (L:Nat) (M:List Pl):Prop where
 first:M[0]?=some (lG rows have_)
 nodup:M.Nodup
 small:∀p∈M,p.1≤L∧p.2 < 2 ^ rows.length
theorem iV.start:iV rows have_ L [lG rows have_]:=⟨rfl,by simp,fun p hp=>by
 rw [List.mem_singleton] at hp
 subst hp
 exact ⟨Nat.zero_le _,m9 _ _⟩⟩
theorem iV.meet {M:List Pl} (h:iV rows have_ L M) (hL:∀r∈rows,r.length≤L) {p:Pl} {c:Nat} (hne:(c5 cls rows p c).2≠0):iV rows have_ L (dN M (c5 cls rows p c)):=by
 refine ⟨mN _ h.first,lS _ h.nodup,fun q hq=>?_⟩
 by_cases hm:c5 cls rows p c∈M
 ·rw [fD hm] at hq;exact h.small q hq
 ·rw [gi hm,List.mem_append,List.mem_singleton] at hq
  rcases hq with hq | rfl
  ·exact h.small q hq
  ·have:=rZ hL hne
   exact ⟨this.1,this.2.1⟩
theorem iV.few {M:List Pl} (h:iV rows have_ L M):M.length≤(L+1) * 2 ^ rows.length:=by
 have hk:0 < 2 ^ rows.length:=Nat.pow_pos (by omega)
 have hs:=h.small
 generalize 2 ^ rows.length=K at hk hs
 have h1:(M.map fun p:Pl=>((p.1 * K+p.2:Nat):Int)).Nodup:=by
  refine List.pairwise_map.2 (h.nodup.imp_of_mem fun {a b} ha hb hab=>fun e=>hab ?_)
  have e':a.1 * K+a.2=b.1 * K+b.2:=by omega
  have ha2:=(hs a ha).2
  have hb2:=(hs b hb).2
  have e1:a.1=b.1:=by
   have h3:(a.1 * K+a.2) / K=a.1:=by rw [Nat.mul_comm,Nat.mul_add_div hk,Nat.div_eq_of_lt ha2,Nat.add_zero]
   have h4:(b.1 * K+b.2) / K=b.1:=by rw [Nat.mul_comm,Nat.mul_add_div hk,Nat.div_eq_of_lt hb2,Nat.add_zero]
   rw [←h3,←h4,e']
  exact Prod.ext e1 (by rw [e1] at e';omega)
 have h2:=fA (n:=(L+1) * K) h1 fun z hz=>by
  obtain ⟨p,hp,rfl⟩:=List.mem_map.1 hz
  obtain ⟨a1,a2⟩:=hs p hp
  have:p.1 * K+p.2 < (L+1) * K:=by
   have:p.1 * K≤L * K:=Nat.mul_le_mul_right _ a1
   rw [Nat.add_mul,Nat.one_mul]
   omega
  exact ⟨by omega,by omega⟩
 rwa [Iu] at h2
def iM (cls:List Int) (rows:List (List (List Int))) (M:List Pl) (p:Pl) (c:Nat) (z:Int):Prop:=
 ((c5 cls rows p c).2=0∧z= -1)∨((c5 cls rows p c).2≠0∧0≤z∧M[z.toNat]?=some (c5 cls rows p c))
theorem iM.more {M:List Pl} {p q:Pl} {c:Nat} {z:Int} (h:iM cls rows M p c z):iM cls rows (dN M q) p c z:=by
 rcases h with h | ⟨h1,h2,h3⟩
 ·exact Or.inl h
 ·exact Or.inr ⟨h1,h2,mN _ h3⟩
theorem iM.new {M:List Pl} {p:Pl} {c:Nat} (h:(c5 cls rows p c).2≠0):iM cls rows (dN M (c5 cls rows p c)) p c ((dN M (c5 cls rows p c)).idxOf (c5 cls rows p c):Nat):=
 Or.inr ⟨h,by omega,by rw [Int.toNat_natCast];exact DW⟩
structure gq (cls:List Int) (rows:List (List (List Int))) (C:Nat) (M:List Pl) (tab:List (List Int)) (ends:List Nat):Prop where
 len:ends.length=tab.length
 ends:∀(i:Nat) p,i < tab.length→M[i]?=some p→ends[i]?=some (iZ rows p)
 tab:∀(i:Nat) p q,M[i]?=some p→tab[i]?=some q→q.length=C∧∀(c:Nat) z,q[c]?=some z→iM cls rows M p c z
theorem gq.nil {C:Nat} {M:List Pl}:gq cls rows C M [] []:=⟨rfl,fun i p h=>by simp at h,fun i p q _ h=>by simp at h⟩
theorem gq.more {C:Nat} {M:List Pl} {tab:List (List Int)} {ends:List Nat} (h:gq cls rows C M tab ends) (hl:tab.length≤M.length) (q:Pl):gq cls rows C (dN M q) tab ends:=by
 have hb:∀(i:Nat) p,i < tab.length→(dN M q)[i]?=some p→M[i]?=some p:=fun i p hi hp=>by
  obtain ⟨x,hx⟩:∃x,M[i]?=some x:=⟨_,Iz (by omega)⟩
  have:=mN q hx
  rw [hp] at this
  cases this
  exact hx
 refine ⟨h.len,fun i p hi hp=>h.ends i p hi (hb i p hi hp),fun i p r hp hr=>?_⟩
 obtain ⟨h1,h2⟩:=h.tab i p r (hb i p (Ip hr).1 hp) hr
 exact ⟨h1,fun c z hz=>(h2 c z hz).more⟩
theorem gq.snoc {C:Nat} {M:List Pl} {tab:List (List Int)} {ends:List Nat} (h:gq cls rows C M tab ends) {p:Pl} {eF:List Int} (hp:M[tab.length]?=some p) (hr:eF.length=C) (hc:∀(c:Nat) z,eF[c]?=some z→iM cls rows M p c z):gq cls rows C M (tab++[eF]) (ends++[iZ rows p]):=by
 refine ⟨by simp [h.len],fun i q hi hq=>?_,fun i q r hq hr'=>?_⟩
 ·rw [List.length_append,List.length_singleton] at hi
  by_cases hit:i < tab.length
  ·rw [List.getElem?_append_left (by rw [h.len];exact hit)]
   exact h.ends i q hit hq
  ·have e:i=tab.length:=by omega
   subst e
   rw [hp] at hq
   cases hq
   rw [List.getElem?_append_right (by rw [h.len];exact Nat.le_refl _),h.len,Nat.sub_self]
   rfl
 ·by_cases hit:i < tab.length
  ·rw [List.getElem?_append_left hit] at hr'
   exact h.tab i q r hq hr'
  ·rw [List.getElem?_append_right (by omega)] at hr'
   have hi0:i - tab.length=0:=by
    have:=(Ip hr').1
    simp at this
    omega
   have e:i=tab.length:=by omega
   subst e
   rw [Nat.sub_self] at hr'
   simp at hr'
   subst hr'
   rw [hp] at hq
   cases hq
   exact ⟨hr,hc⟩
theorem gq.done {C:Nat} {M:List Pl} {tab:List (List Int)} {ends:List Nat} (h:gq cls rows C M tab ends) (hs:iV rows have_ L M) (hl:tab.length=M.length):qN cls rows have_ C tab ends:=
 ⟨M,hs.first,hl.symm,by rw [h.len,hl],fun i p hp=>h.ends i p (by rw [hl];exact (Ip hp).1) hp,fun i p q hp hq=>h.tab i p q hp hq⟩
end
end Go.Proofs.YtpmdfoaadejmkaaGreatDoor
namespace Go.Proofs.YtpmdfoaadejmkaaGreatDoor
open Go.RowKit
section
variable {P:Program} {fr:bW} {B:Bs} {L:AL} {d:Option Tmp} {ty t t':TypeId} {pos:String} {af:Array Edge} {g:Option (Nat×Bool)} {x y z:Operand} {u:AV}
theorem EZ {dd:Option Tmp} {k kk:IntKind} {a b:Int} (i:Nat) (hx:bc fr x=some (.sc (.int k a))) (hy:bc fr y=some (.sc (.int kk b))) (hb:b=(i:Int)):Av P ⟨dd,.binOp .shl t x y t',ty,pos,af,g⟩ fr (.sc (.int k (k.wrap (a * 2 ^ min i k.bits)))):=by
 intro σ ρ w hρ _
 subst hb
 refine ⟨_,?_,.sc _⟩
 have h:=shift_shl_any k kk a (i:Int) (Int.natCast_nonneg i)
 simp [execOp,(hρ x _ hx).sc_inv,(hρ y _ hy).sc_inv,eqGuard,binOp,h]
theorem zl {dd:Option Tmp} {n e sz b:Nat} (ha:P.underlying t=some (.array n e)) (hs:(P.info? e).map (·.size)=some sz) (hx:bc fr x=some (.sc (.pointer (some ⟨b,0,none⟩)))):Av P ⟨dd,.slice t x none none none,ty,pos,af,g⟩ fr (.sc (.slice (some ⟨b,0,none⟩) n n)):=by
 intro σ ρ w hρ _
 refine ⟨_,?_,.sc _⟩
 obtain ⟨i,hi,hi2⟩:∃i,P.info? e=some i∧i.size=sz:=by
  cases hi:P.info? e with
  | none=>rw [hi] at hs;cases hs
  | some i=>rw [hi] at hs;exact ⟨i,rfl,by simpa using hs⟩
 simp [execOp,(hρ x _ hx).sc_inv,Instr.sliceAt,Instr.sliceBounds,Instr.sureAddr,run_underlying ha,sizeOf,typeInfo,hi,dk]
theorem xu (i:Nat) {dd:Option Tmp} {e sz by_ b n cap:Nat} {e':TypeId} (ns:List Int) (hs:k8 P t e sz by_) (he:z7 P e .u8) (hd:z8 P t') (hx:bc fr x=some (.sc (.slice (some ⟨b,0,none⟩) n cap))) (hL:L[i]?=some (b,.box (ns.map fun z=> .sc (.int .u8 z)) e')) (hn:ns.length=n):
  AO P ⟨dd,.convert t t' x,ty,pos,af,g⟩ fr B L (fun c L'=>c= .sc (.string (ns.foldl (fun r n=>r.push (UInt8.ofNat n.toNat)) ByteArray.empty))∧L'=L):=by
 intro σ ρ w hρ hw
 obtain ⟨o,ho,vs,rfl,hvs,h1⟩:=hw.here _ (Iw hL)
 have hvs':vs=ns.map (Value.int .u8):=by
  have hl:=hvs.1
  rw [Iu] at hl
  apply List.ext_getElem?
  intro j
  by_cases hj:j < ns.length
  ·obtain ⟨z,hz⟩:∃z,ns[j]?=some z:=⟨_,Iz hj⟩
   obtain ⟨v,hv⟩:∃v,vs[j]?=some v:=⟨_,Iz (by omega)⟩
   have:=hvs.2 j _ v (by rw [List.getElem?_map,hz];rfl) hv
   rw [hv,List.getElem?_map,hz,this.sc_inv]
   rfl
  ·rw [List.getElem?_eq_none (by omega),List.getElem?_eq_none (by rw [Iu];omega)]
 have hload:(loadCells ⟨b,0,none⟩ n).run P w= .ok (ns.map (Value.int .u8)).toArray w:=by
  have:=run_loadCells_list (P:=P) w ⟨b,0,none⟩ vs fun j v hj=>by
   rw [dk,Nat.zero_add,cL ho]
   simpa using hj
  rw [←hvs.1,Iu,hn] at this
  rw [this,hvs']
 have hr:=run_bytesToString (P:=P) w ⟨b,0,none⟩ n cap ns hload
 haveI:=hs
 unfold gV
 rw [show (execOp ρ ⟨dd,.convert t t' x,ty,pos,af,g⟩).run P w= .ok (.value (.string (ns.foldl (fun r n=>r.push (UInt8.ofNat n.toNat)) ByteArray.empty))) w by
  simp [execOp,(hρ x _ hx).sc_inv,run_convert_bytes_string w t t' e _ _ _ hs.under he.under hd.under,hr]]
 exact ⟨σ,.sc _,_,cj.le_refl _,.sc _,hw,rfl,rfl⟩
end
section
variable {P:Program} {tt:TT} {r:Option Nat} {ops:Array Oper} {Q:Exit→Act→World→Prop} {nt:Nat} {D:List Deferred} {fr:bW} {B:Bs} {L:AL} {rest:List Oper} {d:Nat} {ty t t':TypeId} {pos:String} {af:Array Edge} {x y z:Operand} {u:AV}
theorem Bn (ok:dY P tt) {n e sz b:Nat} (ha:xz tt t=some (n,e,sz)) (hx:bc fr x=some (.sc (.pointer (some ⟨b,0,none⟩)))) (hd:Nat.ble nt d=false) (h:br P r ops Q nt D rest ((d,.sc (.slice (some ⟨b,0,none⟩) n n))::fr) B L):br P r ops Q nt D (⟨some d,.slice t x none none none,ty,pos,af,none⟩::rest) fr B L:=
 cf (zl (hH ok ha).1 (hH ok ha).2 hx) hd rfl h
theorem Bl (ok:dY P tt) (i:Nat) (ns:List Int) {e sz by_ b n cap:Nat} {e':TypeId} {ti ti':TI} (ht:jl tt t=some (e,sz,by_)) (he:d5 tt e=some ti) (hk:ti.k= .int .u8) (ht':d5 tt t'=some ti') (hk':ti'.k= .str) (hx:bc fr x=some (.sc (.slice (some ⟨b,0,none⟩) n cap))) (hL:L[i]?=some (b,.box (ns.map fun z=> .sc (.int .u8 z)) e')) (hn:ns.length=n) (hd:Nat.ble nt d=false) (h:br P r ops Q nt D rest ((d,.sc (.string (ns.foldl (fun r n=>r.push (UInt8.ofNat n.toNat)) ByteArray.empty)))::fr) B L):br P r ops Q nt D (⟨some d,.convert t t' x,ty,pos,af,none⟩::rest) fr B L:=
 cI hd rfl (xu i ns (bi ok ht).1 (ok.int he hk) (ok.str ht' hk') hx hL hn) fun c L' ⟨h1,h2⟩=>by subst h1;subst h2;exact h
end
section
variable {P:Program} {tt:TT} {l:List Oper} {fr:bW} {fin:jn} {sk:lW} {acc:bW} {L:AL} {k:Nat} {dd:Option Tmp} {ty t t':TypeId} {pos:String} {af:Array Edge} {g:Option (Nat×Bool)} {x y:Operand} {u:AV}
theorem vh (i:Nat) {q q':IntKind} {a b:Int} (hx:bc (ct l.toArray acc fr af.toList) x=some (.sc (.int q a))) (hy:bc (ct l.toArray acc fr af.toList) y=some (.sc (.int q' b))) (hb:b=(i:Int)) (hg:iA ⟨dd,.binOp .shl t x y t',ty,pos,af,g⟩ acc) (h:DA P l fr fin sk ((k,.sc (.int q (q.wrap (a * 2 ^ min i q.bits))))::acc) L):cC P l fr fin k .v ⟨dd,.binOp .shl t x y t',ty,pos,af,g⟩ sk acc L:=eW hg (yq (EZ i hx hy hb)) h
theorem CM {q:IntKind} {a b:Int} (hx:bc (ct l.toArray acc fr af.toList) x=some (.sc (.int q a))) (hy:bc (ct l.toArray acc fr af.toList) y=some (.sc (.int q b))) (hg:iA ⟨dd,.binOp .or t x y t',ty,pos,af,g⟩ acc) (h:DA P l fr fin sk ((k,.sc (.int q (bits .or q a b)))::acc) L):cC P l fr fin k .v ⟨dd,.binOp .or t x y t',ty,pos,af,g⟩ sk acc L:=eW hg (yq (wq hx hy)) h
end
end Go.Proofs.YtpmdfoaadejmkaaGreatDoor
namespace Go.Proofs.YtpmdfoaadejmkaaGreatDoor
open Go.RowKit
def jo (P:Program) (u:AV) (args:List AV) (L:AL) (Post:AV→AL→Prop):Prop:=(∃f caps,bB P f∧k6 u=some (f,caps)∧AC P f (args++caps) L Post)∨∃f fs caps,bB P f∧u= .fnB f fs caps∧AC P f (fs++(args++caps)) L Post
theorem jo.fn {P:Program} {f:FuncId} {caps args:List AV} {L:AL} {Post:AV→AL→Prop} [h:bB P f] (k:AC P f (args++caps) L Post):jo P (.fn f caps) args L Post:= .inl ⟨f,caps,h,rfl,k⟩
theorem jo.fn0 {P:Program} {f:FuncId} {args:List AV} {L:AL} {Post:AV→AL→Prop} [h:bB P f] (k:AC P f (args++[]) L Post):jo P (.sc (.func (.func f) #[] #[])) args L Post:= .inl ⟨f,[],h,rfl,k⟩
theorem jo.fnB {P:Program} {f:FuncId} {fs caps args:List AV} {L:AL} {Post:AV→AL→Prop} [h:bB P f] (k:AC P f (fs++(args++caps)) L Post):jo P (.fnB f fs caps) args L Post:= .inr ⟨f,fs,caps,h,rfl,k⟩
def HN (u:AV):Bool:=match u with
 | .fn _ _=>true
 | .fnB _ _ _=>true
 | .sc _=>true
 | _=>false
section
variable {P:Program} {r:Option Nat} {ops:Array Oper} {Q:Exit→Act→World→Prop} {nt:Nat} {D:List Deferred} {fr:bW} {B:Bs} {L:AL} {rest:List Oper} {d:Nat} {ty t:TypeId} {pos:String} {af:Array Edge} {x y z:Operand} {u:AV} {g:Option (Nat×Bool)}
theorem zw (Lc Lf:AL) {d:Option Tmp} {f:FuncId} {args:Array Operand} {ts:Array TypeId} {cs fs caps:List AV} {Post:AV→AL→Prop} [hf:bB P f] (hx:bc fr x=some (.fnB f fs caps)) (hv:eg fr args.toList=some cs) (hL:L.Perm (Lc++Lf)) (h:AC P f (fs++(cs++caps)) Lc Post):
  AO P ⟨d,.call ⟨.value x,args,ts⟩,ty,pos,af,g⟩ fr B L (fun c L'=>∃L1,Post c L1∧L'=L1++Lf):=by
 intro σ ρ w hρ hw0
 have hw:=hw0.perm hL
 obtain ⟨qs,ws,hw1,hw0',hw2⟩:=(hρ x _ hx).fnB_inv
 have hvs:=eR hρ _ _ hv
 have e:args.map ρ=(args.toList.map ρ).toArray:=by apply Array.toList_inj.1;simp
 unfold gV
 rw [show (execOp ρ ⟨d,.call ⟨.value x,args,ts⟩,ty,pos,af,g⟩).run P w= .ok (.enter f (qs++(args.toList.map ρ++ws)).toArray) w by
  simp [execOp,resolve,hw1,Deferred.ofValue,invoke,hf.enters]]
 have happ:∀{ps bs:List AV} {us vs:List Value},d6 σ ps us→d6 σ bs vs→d6 σ (ps++bs) (us++vs):=by
  intro ps bs us vs ha hb
  refine ⟨by rw [List.length_append,List.length_append,ha.1,hb.1],fun i c u hc hu=>?_⟩
  have hq:=ha.1
  by_cases hi:i < ps.length
  ·rw [List.getElem?_append_left hi] at hc
   rw [List.getElem?_append_left (by omega)] at hu
   exact ha.2 i c u hc hu
  ·rw [List.getElem?_append_right (by omega)] at hc
   rw [List.getElem?_append_right (by omega),←hq] at hu
   exact hb.2 _ c u hc hu
 have hall:=happ hw0' (happ hvs hw2)
 refine (h σ w _ hall hw.enter).mono fun en w' ⟨v,τ,c,L',h1,h2,h3,h4⟩=>⟨v,h1,τ,c,L'++Lf,h3.grow,h2,hw.leave h3,L',h4,rfl⟩
theorem iK {args:Array Operand} {ts:Array TypeId} {cs:List AV} {Post:AV→AL→Prop} (Lc Lf:AL) (hc:jo P u cs Lc Post) (hx:bc fr x=some u) (hv:eg fr args.toList=some cs) (hL:L.Perm (Lc++Lf)) (hn:Oper.noDefer ⟨some d,.call ⟨.value x,args,ts⟩,ty,pos,af,none⟩=true) (hd:Nat.ble nt d=false) (h:∀c L1,Post c L1→br P r ops Q nt D rest ((d,c)::fr) B (L1++Lf)):
  br P r ops Q nt D (⟨some d,.call ⟨.value x,args,ts⟩,ty,pos,af,none⟩::rest) fr B L:=by
 rcases hc with ⟨f,caps,hf,hu,hc⟩ | ⟨f,fs,caps,hf,rfl,hc⟩
 ·exact cI hd hn (td Lc Lf hx hu hv hL hc) fun c L' ⟨L1,h1,h2⟩=>by subst h2;exact h c L1 h1
 ·exact cI hd hn (zw Lc Lf hx hv hL hc) fun c L' ⟨L1,h1,h2⟩=>by subst h2;exact h c L1 h1
end
end Go.Proofs.YtpmdfoaadejmkaaGreatDoor
namespace Go.Proofs.YtpmdfoaadejmkaaGreatDoor
open Go.RowKit
section
variable {P:Program} {tt:TT} {r:Option Nat} {ops:Array Oper} {Q:Exit→Act→World→Prop} {nt:Nat} {D:List Deferred} {fr:bW} {B:Bs} {L:AL} {rest:List Oper} {d:Nat} {ty t t':TypeId} {pos:String} {af:Array Edge} {x y z:Operand} {u:AV} {g:Option (Nat×Bool)}
theorem zy {dd:Option Tmp} {e sz by_ s:Nat} {l:List (List AV)} (hc:k8 P t e sz by_) (hx:bc fr x=some u) (hu:u.im= .imm s l) (hy:bc fr y=some (.sc (.slice none 0 0))):
  AO P ⟨dd,.binOp .eql t x y t',ty,pos,af,g⟩ fr B L (fun c L'=>∃b,c= .sc (.bool b)∧(b=true→l=[])∧L'=L):=by
 intro σ ρ w hρ hw
 have hxv:=(hρ x u hx).im
 rw [hu] at hxv
 have hyv:=(hρ y _ hy).sc_inv
 have key:∀v,VR σ (.imm s l) v→∃A cap,v= .slice A l.length cap∧(l≠[]→∃b off,A=some ⟨b,off,none⟩):=by
  intro v hv
  cases hv with
  | imm sz l A cap h1 h2 h3 ha hx2 h4=>exact ⟨A,cap,rfl,ha⟩
 obtain ⟨A,cap,hval,ha⟩:=key _ hxv
 ·have hrun:=Lib.run_eql_slice_nil (P:=P) w t e A l.length cap 0 0 hc.under
  unfold gV
  rw [show (execOp ρ ⟨dd,.binOp .eql t x y t',ty,pos,af,g⟩).run P w= .ok (.value (.bool A.isNone)) w by
   simp [execOp,hval,hyv,eqGuard,hrun]]
  refine ⟨σ,.sc _,L,cj.le_refl σ,.sc _,hw,A.isNone,rfl,fun h=>?_,rfl⟩
  cases A with
  | none=>exact Decidable.byContradiction fun hn=>by obtain ⟨b,o,hh⟩:=ha hn;cases hh
  | some a=>cases h
theorem sv (ok:dY P tt) {e sz by_ s:Nat} {l:List (List AV)} (ht:jl tt t=some (e,sz,by_)) (hx:bc fr x=some u) (hu:ij u=some (s,l)) (hy:bc fr y=some (.sc (.slice none 0 0))) (hd:Nat.ble nt d=false) (h:∀b,(b=true→l=[])→br P r ops Q nt D rest ((d,.sc (.bool b))::fr) B L):
  br P r ops Q nt D (⟨some d,.binOp .eql t x y t',ty,pos,af,none⟩::rest) fr B L:=
 cI hd rfl (zy (bi ok ht).1 hx (cM hu) hy) fun c L' ⟨b,h1,h2,h3⟩=>by subst h1;subst h3;exact h b h2
end
section
variable {P:Program} {nt:Nat} {fr:bW} {B:Bs} {L L':AL}
theorem gW (L':AL) {fn:Func} {Post:AV→AL→Prop} {cs:List AV} (hr:qa P fr L fn.results.toList cs) (hs:L'.Sublist L) (h:Post (uc cs) L'):AX P .ret (bodyPost P fn (iU B Post)) nt [] fr B L:=by
 intro σ a w ha hw
 obtain ⟨v,h1,h2⟩:=kP ha hw hr
 exact ⟨ha.defers,v,h1,v,σ,uc cs,L',rfl,h2,hw.sublist hs,h⟩
end
end Go.Proofs.YtpmdfoaadejmkaaGreatDoor
namespace Go.Proofs.YtpmdfoaadejmkaaGreatDoor
open Go.RowKit
attribute [local irreducible] AT br AX AO Av Kt bb df DA cC
def gR (cls:List Int) (n:Nat) (nx:List Nat) (g:Int):List Nat:=nx.set (cls.getD g.toNat 0).toNat (nx.getD (cls.getD g.toNat 0).toNat 0 ||| 2 ^ n)
def eC (cls:List Int) (rows:List (List (List Int))) (m C n:Nat):List Nat:=(List.range C).map fun c=>ca (ln cls rows m c) n
theorem gx {cls:List Int} {rows:List (List (List Int))} {m C n:Nat}:(eC cls rows m C n).length=C:=by simp [eC]
theorem lc {cls:List Int} {rows:List (List (List Int))} {m C n c:Nat} (h:c < C):(eC cls rows m C n)[c]?=some (ca (ln cls rows m c) n):=by simp [eC,h]
theorem sB {cls:List Int} {c:Nat} {s:List Int} {g:Int}:fi cls c (s++[g])=(fi cls c s || fi cls c [g]):=by simp [fi]
theorem l9 {cls:List Int} {n:Nat}:∀{s:List Int} {nx:List Nat},(s.foldl (gR cls n) nx).length=nx.length
 | [],_=>rfl
 | g::s,nx=>by rw [List.foldl_cons,l9];unfold gR;rw [List.length_set]
section
variable {cls:List Int} {C:Nat} (hd:∀z∈cls,0≤z∧z < (C:Int))
include hd
theorem tx {g:Int} (hg:0≤g∧g < cls.length):∃c:Nat,cls[g.toNat]?=some (c:Int)∧c < C∧cls.getD g.toNat 0=(c:Int):=by
 obtain ⟨z,hz⟩:∃z,cls[g.toNat]?=some z:=⟨_,Iz (by omega)⟩
 obtain ⟨h0,h1⟩:=hd z (Iw hz)
 refine ⟨z.toNat,by rw [hz];congr 1;omega,by omega,?_⟩
 rw [List.getD_eq_getElem?_getD,hz]
 show z=_
 omega
theorem rt {n:Nat} {nx:List Nat} (hl:nx.length=C):∀{s:List Int},(∀g∈s,0≤g∧g < (cls.length:Int))→∀c,c < C→(s.foldl (gR cls n) nx)[c]?=some (nx.getD c 0 ||| (if fi cls c s=true then 2 ^ n else 0)):=by
 intro s
 refine mQ (P:=fun s=>(∀g∈s,0≤g∧g < (cls.length:Int))→∀c,c < C→(s.foldl (gR cls n) nx)[c]?=some (nx.getD c 0 ||| (if fi cls c s=true then 2 ^ n else 0))) ?_ ?_ s
 ·intro _ c hc
  rw [List.foldl_nil,List.getD_eq_getElem?_getD,Iz (by omega)]
  simp [fi]
 ·intro s g ih hs c hc
  have ih':=ih (fun x hx=>hs x (by simp [hx]))
  obtain ⟨k,hk,hkC,hkd⟩:=tx hd (hs g (by simp))
  have hml:=l9 (cls:=cls) (n:=n) (s:=s) (nx:=nx)
  rw [List.foldl_append,List.foldl_cons,List.foldl_nil]
  unfold gR at hml ⊢
  rw [hkd,Int.toNat_natCast]
  have hg1:fi cls c [g]=decide (k=c):=by
   unfold fi
   have hg:=hs g (by simp)
   have hkd2:cls.getD g.toNat (-1)=(k:Int):=by rw [List.getD_eq_getElem?_getD,hk];rfl
   simp only [List.any_cons,List.any_nil,Bool.or_false,hkd2,decide_eq_true hg.1,decide_eq_true hg.2,Bool.true_and]
   exact decide_eq_decide.2 (by omega)
  rw [sB,hg1]
  by_cases hkc:k=c
  ·subst hkc
   rw [List.getElem?_set_self (by omega),List.getD_eq_getElem?_getD]
   have:=ih' k hc
   unfold gR at this
   rw [this]
   simp only [Option.getD_some,decide_true,Bool.or_true,if_true]
   congr 1
   split
   ·rw [Nat.or_assoc,Nat.or_self]
   ·rw [Nat.or_zero]
  ·rw [List.getElem?_set_ne hkc]
   have:=ih' c hc
   unfold gR at this
   rw [this]
   simp [hkc]
theorem vU {rows:List (List (List Int))} {m n:Nat} {eF:List (List Int)} (hr:rows[n]?=some eF) {s:List Int} (hs:eF[m]?=some s) (hg:∀g∈s,0≤g∧g < (cls.length:Int)):s.foldl (gR cls n) (eC cls rows m C n)=eC cls rows m C (n+1):=by
 apply List.ext_getElem?
 intro c
 by_cases hc:c < C
 ·rw [rt hd gx hg c hc,lc hc,List.getD_eq_getElem?_getD,lc hc,ca]
  have:ln cls rows m c n=fi cls c s:=by
   unfold ln
   rw [hr]
   dsimp only
   rw [hs]
  rw [this]
  rfl
 ·rw [List.getElem?_eq_none (by rw [l9,gx];omega),List.getElem?_eq_none (by rw [gx];omega)]
end
theorem pV {cls:List Int} {rows:List (List (List Int))} {m C n:Nat} {eF:List (List Int)} (hr:rows[n]?=some eF) (hs:eF.length≤m):eC cls rows m C (n+1)=eC cls rows m C n:=by
 unfold eC
 refine List.map_congr_left fun c _=>?_
 rw [ca]
 have:ln cls rows m c n=false:=by
  unfold ln
  rw [hr]
  dsimp only
  rw [List.getElem?_eq_none hs]
 rw [this]
 simp
theorem xh (n:Nat) (h:n < 64):IntKind.u64.wrap (1 * 2 ^ min n IntKind.u64.bits)=((2 ^ n:Nat):Int):=by
 have e:min n IntKind.u64.bits=n:=by show min n 64=n;omega
 have h1:2 ^ n < 2 ^ 64:=Nat.pow_lt_pow_right (by omega) h
 have e2:(2:Int) ^ n=((2 ^ n:Nat):Int):=(Int.natCast_pow 2 n).symm
 rw [e,Int.one_mul,e2]
 generalize 2 ^ n=k at h1
 have h64:(2:Nat) ^ 64=18446744073709551616:=by decide
 rw [h64] at h1
 rw [IntKind.wrap_u64]
 exact Int.emod_eq_of_lt (by omega) (by omega)
theorem na {p:Nat→Bool} {n:Nat} (h:n≤64):ca p n < 2 ^ 64:=Nat.lt_of_lt_of_le (m9 p n) (Nat.pow_le_pow_right (by omega) h)
theorem Ef {n:Nat} (h:n < 64):2 ^ n < 2 ^ 64:=Nat.pow_lt_pow_right (by omega) h
def fY (l:List Nat):List AV:=l.map fun z=>iW z
theorem pj (l:List Nat):(fY l).length=l.length:=by simp [fY]
theorem v9 {l:List Nat} {i:Nat} {z:Nat} (h:l[i]?=some z):(fY l)[0+((i:Nat):Int).toNat * 1]?=some (iW z):=by simp [fY,h]
theorem va {l:List Nat} {i:Nat} {z:Nat}:f4 (fY l) (0+((i:Nat):Int).toNat * 1) [iW z]=fY (l.set i z):=by
 rw [iw]
 unfold fY
 rw [List.map_set]
 simp
theorem tv (n:Nat):(List.replicate n [iW 0]).flatten=fY (List.replicate n 0):=by
 induction n with
 | zero=>rfl
 | succ n ih=>rw [List.replicate_succ,List.flatten_cons,ih,List.replicate_succ];rfl
theorem z3 (l:List Nat):fY l=(gk l).flatten:=by
 induction l with
 | nil=>rfl
 | cons z l ih=>simp [fY,gk] at ih ⊢;exact ih
def jh (l:List (List (List Int))):List (List AV):=l.map fun r=>[.imm 1 (b7 r)]
theorem rD (l:List (List (List Int))):(jh l).length=l.length:=by simp [jh]
theorem yD {l:List (List (List Int))} {i:Nat} {r:List (List Int)} (h:l[i]?=some r):(jh l)[i]?=some [.imm 1 (b7 r)]:=by simp [jh,h]
structure RD where
 rows:List (List (List Int))
 have_:Nat
 cls:List Int
 C:Nat
structure zb (R:RD):Prop where
 few:R.rows.length≤6
 dom:∀z∈R.cls,0≤z∧z < (R.C:Int)
 sets:∀r∈R.rows,∀s∈r,(∀g∈s,0≤g∧g < (R.cls.length:Int))∧s.length≤1000000
 long:∀r∈R.rows,r.length≤1000000
 many:R.C≤1000000∧R.cls.length≤1000000
def CH (R:RD) (lv:AV):List AV:=[.imm 1 (jh R.rows),iW R.have_,.imm 1 (aT R.cls),aF R.C,lv]
def kp (R:RD) (m:Nat):List AV:=[.imm 1 (gk (eC R.cls R.rows m R.C R.rows.length)),iW (ca (iY R.rows m) R.rows.length)]
set_option maxHeartbeats 8000000 in
theorem sl (R:RD) (h:zb R) (rb:Nat) (lv:AV) (m:Nat) (hm:m≤1000000):AC Tryz.prog 285 [fT rb,aF m] [(rb,.box (CH R lv) 268)] fun c L=>c= .agg (kp R m)∧L=[(rb,.box (CH R lv) 268)]:=by
 refine aN Tryz.func285 rfl Tryz.ntmps285 rfl fun B=>?_
 have hrl:=rD R.rows
 have hil:=aZ R.cls
 obtain ⟨hC,hN⟩:=h.many
 have hfew:=h.few
 repeat' (first|refine If ?_|refine IF a5 FN ?_|(apply bw;first|refine II a5 0 IC ?_|refine II a5 1 IC ?_|refine II a5 2 IC ?_|refine II a5 3 IC ?_|refine IJ a5 0 IC ?_|refine IJ a5 1 IC ?_|refine IJ a5 2 IC ?_|refine IK a5 1 IA (by assumption) rfl ?_|refine IK a5 0 IA (by assumption) rfl ?_|fail)|refine bh a5 fun _=>?_|fail)
 refine kL a5 R.C rfl rfl rfl rfl rfl rfl rfl (by omega) (by omega) rfl fun nb=>?_
 rw [show (List.replicate R.C (List.map AV.sc [Value.int .u64 0])).flatten=fY (List.replicate R.C 0) from tv R.C]
 repeat' (first|refine If ?_|refine ak ?_|refine IF a5 FN ?_|(apply bw;first|refine II a5 0 IC ?_|refine II a5 1 IC ?_|refine II a5 2 IC ?_|refine II a5 3 IC ?_|refine IJ a5 0 IC ?_|refine IJ a5 1 IC ?_|refine IJ a5 2 IC ?_|refine IK a5 1 IA (by assumption) rfl ?_|refine IK a5 0 IA (by assumption) rfl ?_|fail)|(apply aM;first|refine IG a5 0 ID ?_|refine IG a5 1 ID ?_|refine IG a5 2 ID ?_|refine IG a5 3 ID ?_|fail)|refine bh a5 fun _=>?_|fail)
 rename_i r4 l5
 refine aO [0,1,4,5,19,20] (α:=Nat) (fun n=>[(21,aF n)]) (fun n=>n≤R.rows.length) (fun n=>[(l5,.box [.sc (.slice (some ⟨nb,0,none⟩) R.C R.C),iW (ca (iY R.rows m) n)] 330),(nb,.box (fY (eC R.cls R.rows m R.C n)) 246),(r4,.box [.sc (.slice none 0 0),iW 0] 330),(rb,.box (CH R lv) 268)]) (fun n=>R.rows.length - n) 0 rfl ⟨rfl,trivial⟩ (Nat.zero_le _) (fun _ _ hh=>?_) fun n hn=>?_
 ·rw [show eC R.cls R.rows m R.C 0=List.replicate R.C 0 by unfold eC ca;rw [List.map_const',List.length_range]]
  exact hh
 ·try dsimp only [Is,Ir,Iq,Ik]
  repeat' (first|refine If ?_|refine IF a5 FN ?_)
  refine aq rfl (fun h1=>?_) (fun h1=>?_)
  ·have hn2:n < R.rows.length:=by have:=Iy h1;omega
   obtain ⟨eF,hrow⟩:∃z,R.rows[n]?=some z:=⟨_,Iz hn2⟩
   have hrg:=yD hrow
   have hrwl:=cq eF
   have hrm:=Iw hrow
   have hlong:=h.long eF hrm
   have hends:ca (iY R.rows m) (n+1)=ca (iY R.rows m) n ||| (if eF.length=m then 2 ^ n else 0):=by
    rw [ca]
    unfold iY
    rw [hrow]
    simp only [decide_eq_true_eq]
   have hb1:=na (p:=iY R.rows m) (n:=n) (by omega)
   have hb2:=Ef (n:=n) (by omega)
   have hub:=xh n (by omega)
   clear h1
   repeat' (first|refine If ?_|refine ak ?_|refine IF a5 FN ?_|(apply aS;first|refine aR a5 ?_|refine aH a5 ?_)|fail)
   refine aq rfl (fun h1=>?_) (fun h1=>?_)
   ·have hlm:eF.length=m:=by have:=Iy h1;omega
    rw [if_pos hlm] at hends
    have hsk:=pV (cls:=R.cls) (C:=R.C) hrow (Nat.le_of_eq hlm)
    clear h1
    repeat' (first|fail)
    refine bz 4 [(0,.v),(1,.l),(2,.v),(3,.v)] none ?_ trivial rfl (by kernel_rfl) (by kernel_rfl) (by kernel_rfl) bT (by kernel_rfl) rfl
    repeat' (first|refine aC ?_|refine b6 a5 ?_|refine bZ a5 0 rfl rfl rfl rfl (by first|trivial|rfl) ?_)
    refine vh n rfl rfl rfl trivial ?_
    repeat' (first|fail)
    refine IQ [0,1,4,5,6,7,19,20,21,31,33] FN ?_
    refine sr rfl rfl rfl ?_
    rw [hub,u64_or_nat _ _ hb1 hb2,←hends]
    repeat' (first|refine If ?_|refine IF a5 FN ?_|(apply aM;first|refine IG a5 0 ID ?_|refine IG a5 1 ID ?_|refine IG a5 2 ID ?_|refine IG a5 3 ID ?_|fail))
    refine aq rfl (fun h2=>?_) (fun h2=>?_)
    ·repeat' (first|refine If ?_|refine IF a5 FN ?_|(apply aV;refine aU ?_)|fail)
     exact aD (n+1) rfl ⟨by rw [Iv];rfl,trivial⟩ hn2 (by omega) (fun _ _ hh=>by rw [hsk];exact hh)
    ·have:=Ix h2
     omega
   ·have hlm:¬eF.length=m:=by have:=Ix h1;omega
    rw [if_neg hlm,Nat.or_zero] at hends
    clear h1
    repeat' (first|refine If ?_|refine IF a5 FN ?_)
    refine aq rfl (fun h2=>?_) (fun h2=>?_)
    ·have hsk:=pV (cls:=R.cls) (C:=R.C) (m:=m) hrow (by have:=Iy h2;omega)
     repeat' (first|refine If ?_|refine IF a5 FN ?_|(apply aV;refine aU ?_)|fail)
     exact aD (n+1) rfl ⟨by rw [Iv];rfl,trivial⟩ hn2 (by omega) (fun _ _ hh=>by rw [hsk,hends];exact hh)
    ·have hml:m < eF.length:=by have:=Ix h2;omega
     obtain ⟨s,hs⟩:∃z,eF[m]?=some z:=⟨_,Iz hml⟩
     have hsg:=i3 hs
     obtain ⟨hsd,hsl⟩:=h.sets eF hrm s (Iw hs)
     have hsil:=aZ s
     have hst:=vU h.dom hrow hs hsd
     clear h2
     repeat' (first|refine If ?_|refine ak ?_|refine IF a5 FN ?_|(apply aS;first|refine aR a5 ?_|refine aH a5 ?_)|fail)
     refine aO [0,1,4,5,6,19,20,21,43,44] (α:=Nat) (fun j=>[(45,aF j)]) (fun j=>j≤s.length) (fun j=>[(l5,.box [.sc (.slice (some ⟨nb,0,none⟩) R.C R.C),iW (ca (iY R.rows m) n)] 330),(nb,.box (fY ((s.take j).foldl (gR R.cls n) (eC R.cls R.rows m R.C n))) 246),(r4,.box [.sc (.slice none 0 0),iW 0] 330),(rb,.box (CH R lv) 268)]) (fun j=>s.length - j) 0 rfl ⟨rfl,trivial⟩ (Nat.zero_le _) (fun _ _ hh=>hh) fun j hj=>?_
     try dsimp only [Is,Ir,Iq,Ik]
     repeat' (first|refine If ?_|refine IF a5 FN ?_)
     refine aq rfl (fun h2=>?_) (fun h2=>?_)
     ·have hj2:j < s.length:=by have:=Iy h2;omega
      obtain ⟨g,hg⟩:∃z,s[j]?=some z:=⟨_,Iz hj2⟩
      have hgg:=bR hg
      have hgd:=hsd g (Iw hg)
      obtain ⟨c,hc,hcC,hcd⟩:=tx h.dom hgd
      have hcg:(aT R.cls)[g.toNat]?=some [aF c]:=bR hc
      have hnl:((s.take j).foldl (gR R.cls n) (eC R.cls R.rows m R.C n)).length=R.C:=by rw [l9,gx]
      obtain ⟨v,hv⟩:∃z,((s.take j).foldl (gR R.cls n) (eC R.cls R.rows m R.C n))[c]?=some z:=⟨_,Iz (by omega)⟩
      have hv64:v < 2 ^ 64:=by
       have:=rt h.dom (n:=n) (nx:=eC R.cls R.rows m R.C n) gx (s:=s.take j) (fun x hx=>hsd x (List.mem_of_mem_take hx)) c hcC
       rw [hv,List.getD_eq_getElem?_getD,lc hcC] at this
       cases this
       exact Bx (na (by omega)) (by split;exact hb2;omega)
      have htk:s.take (j+1)=s.take j++[g]:=by rw [List.take_add_one,hg];rfl
      have hfs:(s.take (j+1)).foldl (gR R.cls n) (eC R.cls R.rows m R.C n)=((s.take j).foldl (gR R.cls n) (eC R.cls R.rows m R.C n)).set c (v ||| 2 ^ n):=by
       rw [htk,List.foldl_append,List.foldl_cons,List.foldl_nil]
       generalize (s.take j).foldl (gR R.cls n) (eC R.cls R.rows m R.C n)=nx at hv
       unfold gR
       rw [hcd,Int.toNat_natCast,List.getD_eq_getElem?_getD,hv]
       rfl
      generalize (s.take j).foldl (gR R.cls n) (eC R.cls R.rows m R.C n)=nx at *
      have hvc:=v9 hv
      have hul:=pj nx
      clear h2
      repeat' (first|refine If ?_|refine ak ?_|refine IF a5 FN ?_|(apply aS;first|refine aR a5 ?_|refine aH a5 ?_)|fail)
      refine c9 [0,1,4,5,6,9,19,20,21,43,44,45] True rfl (fun Q' K=>?_) (fun _=>?_) (fun hC=>absurd trivial hC)
      ·repeat' (first|refine If ?_|refine IF a5 FN ?_|refine IN FN ?_|refine IP IB ?_|(apply bw;first|refine II a5 0 IC ?_|refine II a5 1 IC ?_|refine II a5 2 IC ?_|refine II a5 3 IC ?_|refine IJ a5 0 IC ?_|refine IJ a5 1 IC ?_|refine IJ a5 2 IC ?_|refine IK a5 1 IA (by assumption) rfl ?_|refine IK a5 0 IA (by assumption) rfl ?_|fail)|refine IR IA (fun _=>?_) (fun _=>?_))
       all_goals exact K _ _ rfl rfl (by simp_all <;> omega)
      repeat' (first|fail)
      refine bz 14 [(0,.v),(1,.l),(2,.v),(3,.v),(4,.v),(5,.l),(6,.v),(7,.v),(8,.v),(9,.v),(10,.l),(11,.v),(12,.v),(13,.v)] none ?_ trivial rfl (by kernel_rfl) (by kernel_rfl) (by kernel_rfl) bT (by kernel_rfl) rfl
      repeat' (first|refine aC ?_|refine b6 a5 ?_|refine bZ a5 0 rfl rfl rfl rfl (by first|trivial|rfl) ?_)
      refine bZ a5 3 rfl rfl rfl rfl trivial ?_
      repeat' (first|refine aC ?_|refine b6 a5 ?_|(apply cB;refine cS a5 ?_)|fail)
      refine d8 a5 rfl rfl rfl ⟨by omega,by omega⟩ trivial ?_
      repeat' (first|refine aC ?_|fail)
      refine bZ a5 1 rfl rfl rfl hvc trivial ?_
      repeat' (first|refine aC ?_|refine b6 a5 ?_|fail)
      refine vh n rfl rfl rfl trivial ?_
      repeat' (first|refine aC ?_|fail)
      refine CM rfl rfl trivial ?_
      repeat' (first|fail)
      refine IQ [0,1,4,5,6,19,20,21,43,44,45,61,68,73] FN ?_
      rw [hub,u64_or_nat _ _ hv64 hb2]
      repeat' (first|(apply aS;first|refine aR a5 ?_|refine aH a5 ?_)|fail)
      refine aa a5 1 rfl rfl rfl rfl rfl rfl (Nat.ble_eq_true_of_le (by rw [hul,hnl,Int.toNat_natCast];show 0+c * 1+1≤_;omega)) ?_
      rw [va]
      repeat' (first|refine If ?_|refine IF a5 FN ?_|(apply aV;refine aU ?_)|fail)
      exact aD (j+1) rfl ⟨by rw [Iv];rfl,trivial⟩ hj2 (by omega) (fun _ _ hh=>by rw [hfs];exact hh)
     ·have hj2:j=s.length:=by have:=Ix h2;omega
      subst hj2
      rw [List.take_length,hst]
      clear h2
      repeat' (first|refine If ?_|refine IF a5 FN ?_|(apply aV;refine aU ?_)|fail)
      exact aD (n+1) rfl ⟨by rw [Iv];rfl,trivial⟩ hn2 (by omega) (fun _ _ hh=>by rw [hends];exact hh)
  ·have hn2:n=R.rows.length:=by have:=Ix h1;omega
   subst hn2
   clear h1
   repeat' (first|refine If ?_|(apply bw;first|refine II a5 0 IC ?_|refine II a5 1 IC ?_|refine II a5 2 IC ?_|refine II a5 3 IC ?_|refine IJ a5 0 IC ?_|refine IJ a5 1 IC ?_|refine IJ a5 2 IC ?_|refine IK a5 1 IA (by assumption) rfl ?_|refine IK a5 0 IA (by assumption) rfl ?_|fail)|(apply aM;first|refine IG a5 0 ID ?_|refine IG a5 1 ID ?_|refine IG a5 2 ID ?_|refine IG a5 3 ID ?_|fail))
   have hcu:=pj (eC R.cls R.rows m R.C R.rows.length)
   rw [gx] at hcu
   refine fb (L':=[(nb,.box (fY (eC R.cls R.rows m R.C R.rows.length)) 246),(r4,.box [.sc (.slice (some ⟨nb,0,none⟩) R.C R.C),iW (ca (iY R.rows m) R.rows.length)] 330),(rb,.box (CH R lv) 268)]) (List.sublist_cons_self ..) ?_
   refine bf (rN (k:=0) (sz:=1) (n:=R.C) (cap:=R.C) (l:=gk (eC R.cls R.rows m R.C R.rows.length)) rfl (by rw [←z3,List.take_of_length_le (by omega)]) (by omega) (fun e he=>by unfold gk at he;obtain ⟨z,_,rfl⟩:=List.mem_map.1 he;rfl) (by rw [mT,gx]) (Nat.le_refl _) (by unfold maxLen;omega)) ?_
   exact gW (cs:=[.agg (kp R m)]) [(rb,.box (CH R lv) 268)] ⟨⟨_,0,_,_,rfl,rfl,.inr ⟨ey a5 rfl,rfl⟩⟩,trivial⟩ (List.sublist_cons_self ..) ⟨rfl,rfl⟩
end Go.Proofs.YtpmdfoaadejmkaaGreatDoor
namespace Go.Proofs.YtpmdfoaadejmkaaGreatDoor
open Go.RowKit
attribute [local irreducible] AT br AX AO Av Kt bb df DA cC
def yh (R:RD) (k:Nat):List (List AV):=(List.range k).map (kp R)
theorem wV (R:RD) (k:Nat):(yh R k).length=k:=by simp [yh]
theorem u2 (R:RD) (k:Nat):yh R k++[kp R k]=yh R (k+1):=by simp [yh,List.range_succ]
theorem Dn (R:RD) {k m:Nat} (h:m < k):(yh R k)[m]?=some (kp R m):=by simp [yh,h]
abbrev qb (R:RD) (rb k:Nat) (q:Option (Nat×Nat)):Nat×AB:=(rb,.box (CH R (.vec q 2 (yh R k))) 268)
abbrev eQ (R:RD) (rb k:Nat) (q:Option (Nat×Nat)):AL:=qb R rb k q::tok q 330 2 k
def oF (R:RD) (rb:Nat) (u:AV):AV→AL→Prop:=fun c L=>c=u∧∃k q,k≤1000001∧L=eQ R rb k q
theorem GH {a b:Nat×AB} {X:AL}:(a::b::X).Perm (b::a::X):=List.Perm.swap ..
set_option maxHeartbeats 4000000 in
theorem tY (R:RD) (h:zb R) (rb k:Nat) (q:Option (Nat×Nat)) (hk:k≤1000001) (m:Nat) (hm:m≤1000000):AC Tryz.prog 255 [fT rb,aF m] (eQ R rb k q) (oF R rb (.agg (kp R m))):=by
 refine aN Tryz.func255 rfl Tryz.ntmps255 rfl fun B=>?_
 repeat' (first|refine If ?_|refine ak ?_|refine bh a5 fun _=>?_|fail)
 rename_i r4
 refine aO [0,1,4] (α:=Nat×Option (Nat×Nat)) (fun _=>[]) (fun s=>s.1≤1000001) (fun s=>(r4,.box [.sc (.slice none 0 0),iW 0] 330)::eQ R rb s.1 s.2) (fun s=>m+1 - s.1) (k,q) rfl trivial hk (fun _ _ hh=>hh) ?_
 rintro ⟨k1,q1⟩ hk1
 dsimp only at hk1 ⊢
 try dsimp only [Is,Ir,Iq,Ik]
 have hlen:=wV R k1
 repeat' (first|refine If ?_|refine IF a5 FN ?_|(apply bw;first|refine II a5 0 IC ?_|refine II a5 1 IC ?_|refine II a5 2 IC ?_|refine II a5 3 IC ?_|refine IJ a5 0 IC ?_|refine IJ a5 1 IC ?_|refine IJ a5 2 IC ?_|refine IK a5 1 IA (by assumption) rfl ?_|refine IK a5 0 IA (by assumption) rfl ?_|fail)|fail)
 refine aq rfl (fun h1=>?_) (fun h1=>?_)
 ·have hkm:k1≤m:=by have:=Iy h1;omega
  have hml:=sl R h rb (.vec q1 2 (yh R k1)) k1 (by omega)
  clear h1
  repeat' (first|refine ak ?_|refine If ?_|fail)
  refine d7 [.cell (rb,4,.vec q1 2 (yh R k1))] 14 [(0,.v),(1,.v),(2,.v),(3,.v),(4,.k),(5,.v),(6,.v),(7,.v),(8,.v),(9,.l),(10,.v),(11,.f),(12,.v),(13,.e)] none ?_ trivial rfl (by kernel_rfl) (by kernel_rfl) (by kernel_rfl) bT (by kernel_rfl) rfl
  repeat' (first|refine aC ?_|refine b6 a5 ?_|fail)
  refine dx a5 0 rfl rfl rfl (mq 1 rfl rfl) trivial ?_
  repeat' (first|refine aC ?_|refine b6 a5 ?_|refine bZ a5 1 rfl rfl rfl rfl (by first|trivial|rfl) ?_)
  refine wD [qb R rb k1 q1] ((r4,.box [.sc (.slice none 0 0),iW 0] 330)::tok q1 330 2 k1) hml rfl (by rw [hlen];rfl) GH trivial (fun c L1 ⟨hc,hL⟩ hK=>by subst hL;exact mq 0 rfl rfl) fun c L1 ⟨hc,hL⟩=>?_
  subst hc;subst hL
  repeat' (first|refine aC ?_|refine dS a5 ?_|fail)
  refine eV a5 [qb R rb k1 q1,(r4,.box [.sc (.slice none 0 0),iW 0] 330)] rfl rfl rfl rfl ?_ (by rw [hlen];simp;omega) (by rw [hlen];simp;omega) trivial fun q'=>?_
  ·rw [hlen]
   exact List.perm_append_comm (l₁:=[_,_])
  repeat' (first|fail)
  refine IQ [0,1,4,12,25] FN ?_
  refine aJ (aI (L':=qb R rb k1 q1::(r4,.box [.sc (.slice none 0 0),iW 0] 330)::tok q' 330 2 (yh R k1++[kp R k1]).length) (List.perm_append_comm (l₂:=[_,_]))) ?_
  repeat' (first|refine If ?_|refine IF a5 FN ?_|(apply aM;first|refine IG a5 0 ID ?_|refine IG a5 1 ID ?_|refine IG a5 2 ID ?_|refine IG a5 3 ID ?_|fail))
  refine aD (k1+1,q') rfl trivial (by dsimp only;omega) (by dsimp only;omega) (fun σ w hh=>?_)
  rw [u2,wV] at hh
  refine cW.perm (L:=qb R rb (k1+1) q'::(r4,.box [.sc (.slice none 0 0),iW 0] 330)::tok q' 330 2 (k1+1)) ?_ GH
  unfold qb
  rw [←u2]
  exact hh
 ·have hkm:m < k1:=by have:=Ix h1;omega
  have hlg:=Dn R hkm
  clear h1
  repeat' (first|refine If ?_|refine IF a5 FN ?_|(apply bw;first|refine II a5 0 IC ?_|refine II a5 1 IC ?_|refine II a5 2 IC ?_|refine II a5 3 IC ?_|refine IJ a5 0 IC ?_|refine IJ a5 1 IC ?_|refine IJ a5 2 IC ?_|refine IK a5 1 IA (by assumption) rfl ?_|refine IK a5 0 IA (by assumption) rfl ?_|fail)|(apply aS;first|refine aR a5 ?_|refine aH a5 ?_)|(apply aM;first|refine IG a5 0 ID ?_|refine IG a5 1 ID ?_|refine IG a5 2 ID ?_|refine IG a5 3 ID ?_|fail))
  exact gW (cs:=[.agg (kp R m)]) (eQ R rb k1 q1) ⟨⟨_,0,_,_,rfl,rfl,.inr ⟨ey a5 rfl,rfl⟩⟩,trivial⟩ (List.sublist_cons_self ..) ⟨rfl,k1,q1,hk1,rfl⟩
def lD (p:Pl):List AV:=[aF p.1,iW p.2]
theorem yC (R:RD) (rb k:Nat) (q:Option (Nat×Nat)) (hk:k≤1000001):AC Tryz.prog 180 [fT rb] (eQ R rb k q) (oF R rb (.agg (lD (0,R.have_)))):=by
 refine aN Tryz.func180 rfl Tryz.ntmps180 rfl fun B=>?_
 repeat' (first|refine If ?_|refine IF a5 FN ?_|(apply bw;first|refine II a5 0 IC ?_|refine II a5 1 IC ?_|refine II a5 2 IC ?_|refine II a5 3 IC ?_|refine IJ a5 0 IC ?_|refine IJ a5 1 IC ?_|refine IJ a5 2 IC ?_|refine IK a5 1 IA (by assumption) rfl ?_|refine IK a5 0 IA (by assumption) rfl ?_|fail)|(apply aM;first|refine IG a5 0 ID ?_|refine IG a5 1 ID ?_|refine IG a5 2 ID ?_|refine IG a5 3 ID ?_|fail)|refine bh a5 fun _=>?_|fail)
 exact gW (cs:=[.agg (lD (0,R.have_))]) (eQ R rb k q) ⟨⟨_,0,_,_,rfl,rfl,.inr ⟨ey a5 rfl,rfl⟩⟩,trivial⟩ (List.sublist_cons_self ..) ⟨rfl,k,q,hk,rfl⟩
theorem Br {R:RD} {m c:Nat} (hc:c < R.C):(gk (eC R.cls R.rows m R.C R.rows.length))[((c:Nat):Int).toNat]?=some [iW (j9 R.cls R.rows m c)]:=by
 rw [Int.toNat_natCast]
 exact uB (lc hc)
set_option maxHeartbeats 4000000 in
theorem xC (R:RD) (h:zb R) (rb k:Nat) (q:Option (Nat×Nat)) (hk:k≤1000001) (p:Pl) (hp:p.1≤1000000) (hp2:p.2 < 2 ^ 64) (c:Nat) (hc:c < R.C):AC Tryz.prog 181 [fT rb,.agg (lD p),aF c] (eQ R rb k q) (oF R rb (.agg (lD (c5 R.cls R.rows p c)))):=by
 refine aN Tryz.func181 rfl Tryz.ntmps181 rfl fun B=>?_
 obtain ⟨pm,pr⟩:=p
 dsimp only at hp hp2
 have hlv:=tY R h rb k q hk pm hp
 have hnl:=Br (R:=R) (m:=pm) hc
 have hn64:j9 R.cls R.rows pm c < 2 ^ 64:=na (by have:=h.few;omega)
 have hbe:c5 R.cls R.rows (pm,pr) c=if pr &&& j9 R.cls R.rows pm c=0 then (0,0) else (pm+1,pr &&& j9 R.cls R.rows pm c):=rfl
 repeat' (first|refine If ?_|refine IF a5 FN ?_|refine bk ?_|refine bh a5 fun _=>?_|fail)
 rename_i r6
 refine aq rfl (fun h1=>?_) (fun h1=>?_)
 ·clear h1
  repeat' (first|refine If ?_|refine IF a5 FN ?_)
  refine b9 (eQ R rb k q) [(r6,.box [aF 0,iW 0] 261)] hlv rfl rfl (List.perm_append_comm (l₁:=[_])) rfl fun c1 L1 ⟨hc1,k1,q1,hk1,hL⟩=>?_
  subst hc1;subst hL
  refine aJ (aI (L':=(r6,.box [aF 0,iW 0] 261)::eQ R rb k1 q1) (List.perm_append_comm (l₂:=[_]))) ?_
  repeat' (first|refine IF a5 FN ?_|(apply aS;first|refine aR a5 ?_|refine aH a5 ?_)|fail)
  refine nz rfl rfl rfl ?_
  rw [u64_and_nat _ _ hp2 hn64]
  repeat' (first|refine If ?_|refine IF a5 FN ?_)
  refine aq rfl (fun h2=>?_) (fun h2=>?_)
  ·have hz:pr &&& j9 R.cls R.rows pm c=0:=by have:=Iy h2;omega
   rw [if_pos hz] at hbe
   rw [hbe]
   repeat' (first|refine If ?_|refine IF a5 FN ?_|(apply aM;first|refine IG a5 0 ID ?_|refine IG a5 1 ID ?_|refine IG a5 2 ID ?_|refine IG a5 3 ID ?_|fail))
   exact gW (cs:=[.agg (lD (0,0))]) (eQ R rb k1 q1) ⟨⟨_,0,_,_,rfl,rfl,.inr ⟨ey a5 rfl,rfl⟩⟩,trivial⟩ (List.sublist_cons_self ..) ⟨rfl,k1,q1,hk1,rfl⟩
  ·have hz:pr &&& j9 R.cls R.rows pm c≠0:=by have:=Ix h2;omega
   rw [if_neg hz] at hbe
   rw [hbe]
   repeat' (first|refine If ?_|refine IF a5 FN ?_|(apply aV;refine aU ?_)|(apply aM;first|refine IG a5 0 ID ?_|refine IG a5 1 ID ?_|refine IG a5 2 ID ?_|refine IG a5 3 ID ?_|fail))
   refine gW (cs:=[.agg (lD (pm+1,pr &&& j9 R.cls R.rows pm c))]) (eQ R rb k1 q1) ⟨⟨_,0,_,_,rfl,rfl,.inr ⟨ey a5 rfl,rfl⟩⟩,trivial⟩ (List.sublist_cons_self ..) ⟨rfl,k1,q1,hk1,rfl⟩
 ·have hz:pr=0:=by have:=Ix h1;simpa using this
  subst hz
  rw [Nat.zero_and,if_pos rfl] at hbe
  rw [hbe]
  repeat' (first|refine If ?_|refine IF a5 FN ?_|(apply aM;first|refine IG a5 0 ID ?_|refine IG a5 1 ID ?_|refine IG a5 2 ID ?_|refine IG a5 3 ID ?_|fail)|refine bQ rfl ?_)
  exact gW (cs:=[.agg (lD (0,0))]) (eQ R rb k q) ⟨⟨_,0,_,_,rfl,rfl,.inr ⟨ey a5 rfl,rfl⟩⟩,trivial⟩ (List.sublist_cons_self ..) ⟨rfl,k,q,hk,rfl⟩
set_option maxHeartbeats 4000000 in
theorem Da (R:RD) (h:zb R) (rb k:Nat) (q:Option (Nat×Nat)) (hk:k≤1000001) (p:Pl) (hp:p.1≤1000000) (hp2:p.2 < 2 ^ 64):AC Tryz.prog 182 [fT rb,.agg (lD p)] (eQ R rb k q) (oF R rb (iW (iZ R.rows p))):=by
 refine aN Tryz.func182 rfl Tryz.ntmps182 rfl fun B=>?_
 obtain ⟨pm,pr⟩:=p
 dsimp only at hp hp2
 have hlv:=tY R h rb k q hk pm hp
 have hn64:ca (iY R.rows pm) R.rows.length < 2 ^ 64:=na (by have:=h.few;omega)
 have hen:iZ R.rows (pm,pr)=if pr=0 then 0 else pr &&& ca (iY R.rows pm) R.rows.length:=rfl
 repeat' (first|refine If ?_|refine IF a5 FN ?_|refine bk ?_|fail)
 refine aq rfl (fun h1=>?_) (fun h1=>?_)
 ·have hz:pr=0:=by have:=Iy h1;omega
  rw [if_pos hz] at hen
  rw [hen]
  repeat' (first|refine If ?_|refine IF a5 FN ?_)
  exact IL FN ⟨rfl,k,q,hk,rfl⟩
 ·have hz:pr≠0:=by have:=Ix h1;omega
  rw [if_neg hz] at hen
  rw [hen]
  clear h1
  repeat' (first|refine If ?_|fail)
  refine bz 7 [(0,.v),(1,.v),(2,.v),(3,.v),(4,.v),(5,.e),(6,.v)] none ?_ trivial rfl (by kernel_rfl) (by kernel_rfl) (by kernel_rfl) bT (by kernel_rfl) rfl
  repeat' (first|refine aC ?_|refine b6 a5 ?_|fail)
  refine jx (eQ R rb k q) [] hlv rfl rfl (by rw [List.append_nil]) trivial fun c1 L1 ⟨hc1,k1,q1,hk1,hL⟩=>?_
  subst hc1;subst hL
  repeat' (first|refine aC ?_|refine b6 a5 ?_|fail)
  refine IQ [9,14] FN ?_
  repeat' (first|fail)
  refine nz rfl rfl rfl ?_
  rw [u64_and_nat _ _ hp2 hn64]
  repeat' (first|refine If ?_|refine IF a5 FN ?_)
  exact IL FN ⟨rfl,k1,q1,hk1,by rw [List.append_nil]⟩
end Go.Proofs.YtpmdfoaadejmkaaGreatDoor
