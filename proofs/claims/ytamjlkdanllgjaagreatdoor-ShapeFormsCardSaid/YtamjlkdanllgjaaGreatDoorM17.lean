/-
  Rows of numbers that are written, told by the numbers.
-/
import Derived.Test.YtamjlkdanllgjaaGreatDoorM07
import Derived.Test.YtamjlkdanllgjaaGreatDoorM05
import Derived.Test.YtamjlkdanllgjaaGreatDoorM16
import Derived.Test.YtamjlkdanllgjaaGreatDoorM11
import Derived.Test.YtamjlkdanllgjaaGreatDoorM08
import Derived.Test.YtamjlkdanllgjaaGreatDoorM06
import Derived.Test.YtamjlkdanllgjaaGreatDoorM13
import Derived.Test.YtamjlkdanllgjaaGreatDoorM14
import Derived.Test.YtamjlkdanllgjaaGreatDoorM12
namespace Go.Proofs.YtamjlkdanllgjaaGreatDoor
open Go.RowKit
theorem AC.sub {P:Program} {f:FuncId} {args:List AV} {L:AL} {Post Post':AV→AL→Prop} (h:AC P f args L Post) (k:∀c L',Post c L'→∃L2:AL,L2.Sublist L'∧Post' c L2):AC P f args L Post':=fun σ w vs hv hs=>(h σ w vs hv hs).mono fun _ _ ⟨v,τ,c,L',h1,h2,h3,h4⟩=>by
 obtain ⟨L2,k1,k2⟩:=k c L' h4
 exact ⟨v,τ,c,L2,h1,h2,h3.sublist k1,k2⟩
theorem bD.nil {P:Program} {f:FuncId} {args:List AV} {u:AV} (h:bD P f args u):AC P f args [] fun c L=>c=u∧L=[]:=AC.sub h fun _ _ hc=>⟨[],List.nil_sublist _,hc,rfl⟩
section
variable {P:Program} {tt:TT} {r:Option Nat} {ops:Array Oper} {Q:Exit→Act→World→Prop} {nt:Nat} {D:List Deferred} {fr:bP} {B:Bs} {L:AL} {rest:List Oper}
variable {d:Nat} {ty t:TypeId} {pos:String} {af:Array Edge} {x y:Operand} {u:AV}
theorem Cv {xs:List Int} {q:Nat} {z:Int}:eK (xs.map aF) q [aF z]=(xs.set q z).map aF:=by
 rw [f8]
 rw [List.map_set]
theorem EU (ok:dG P tt) (i q:Nat) {b p:Nat} {xs:List Int} {e:TypeId} {z:Int} (ht:Dq tt t=true) (hx:bc fr x=some (.sc (.pointer (some ⟨b,p,none⟩)))) (hp:p=q) (hL:L[i]?=some (b,.box (xs.map aF) e)) (hz:xs[q]?=some z) (hd:Nat.ble nt d=false) (h:bz P r ops Q nt D rest ((d,aF z)::fr) B L):
  bz P r ops Q nt D (⟨some d,.load t x,ty,pos,af,none⟩::rest) fr B L:=by
 subst hp
 exact au ok i ht hx hL (by rw [List.getElem?_map,hz];rfl) hd h
theorem mj (ok:dG P tt) (i q:Nat) {b p:Nat} {xs:List Int} {e:TypeId} {z:Int} (ht:Ds tt t=some 1) (hx:bc fr x=some (.sc (.pointer (some ⟨b,p,none⟩)))) (hp:p=q) (hy:bc fr y=some (aF z)) (hL:L[i]?=some (b,.box (xs.map aF) e)) (hq:q < xs.length) (h:bz P r ops Q nt D rest fr B (f3 L i (.box ((xs.set q z).map aF) e))):
  bz P r ops Q nt D (⟨none,.store t x y,ty,pos,af,none⟩::rest) fr B L:=by
 subst hp
 refine aj ok i (ys:=[aF z]) ht hx hy rfl hL rfl (Nat.ble_eq_true_of_le (by simp;omega)) ?_
 rw [Cv]
 exact h
theorem EV (ok:dG P tt) (i q:Nat) {b p:Nat} {cs:List AV} {e:TypeId} (ht:Dq tt t=true) (hx:bc fr x=some (.sc (.pointer (some ⟨b,p,none⟩)))) (hp:p=q) (hL:L[i]?=some (b,.box cs e)) (hz:cs[q]?=some u) (hd:Nat.ble nt d=false) (h:bz P r ops Q nt D rest ((d,u)::fr) B L):
  bz P r ops Q nt D (⟨some d,.load t x,ty,pos,af,none⟩::rest) fr B L:=by
 subst hp
 exact au ok i ht hx hL hz hd h
theorem k7 (ok:dG P tt) (i q:Nat) {b p:Nat} {cs:List AV} {e:TypeId} (ht:Ds tt t=some 1) (hx:bc fr x=some (.sc (.pointer (some ⟨b,p,none⟩)))) (hp:p=q) (hy:bc fr y=some u) (hu:u.cells=some [u]) (hL:L[i]?=some (b,.box cs e)) (hq:q < cs.length) (h:bz P r ops Q nt D rest fr B (f3 L i (.box (cs.set q u) e))):
  bz P r ops Q nt D (⟨none,.store t x y,ty,pos,af,none⟩::rest) fr B L:=by
 subst hp
 refine aj ok i ht hx hy hu hL rfl (Nat.ble_eq_true_of_le hq) ?_
 rw [f8]
 exact h
theorem A9 {dd:Option Tmp} {g:Option (Nat×Bool)} {e sz by_ b off n cap lo:Nat} {k:IntKind} {a:Int} (hc:jE P t e sz by_) (hx:bc fr x=some (.sc (.slice (some ⟨b,off,none⟩) n cap))) (hy:bc fr y=some (.sc (.int k a))) (ha:a=(lo:Int)) (h:lo≤n) (hn:n≤cap):Av P ⟨dd,.slice t x (some y) none none,ty,pos,af,g⟩ fr (.sc (.slice (some ⟨b,if cap=lo then off else off+lo * sz,none⟩) (n - lo) (cap - lo))):=by
 intro σ ρ w hρ _
 subst ha
 haveI:=hc
 refine ⟨_,?_,.sc _⟩
 by_cases h3:cap=lo
 ·have:n=lo:=by omega
  subst h3;subst this
  simp [execOp,(hρ x _ hx).sc_inv,(hρ y _ hy).sc_inv,Instr.sliceAt,Instr.slice,Instr.sliceBounds,Instr.sliceBound,asIntOf,run_underlying hc.under,cH (t:=t)]
 ·simp [execOp,(hρ x _ hx).sc_inv,(hρ y _ hy).sc_inv,Instr.sliceAt,Instr.slice,Instr.sliceBounds,Instr.sliceBound,asIntOf,run_underlying hc.under,cH (t:=t),h,h3,da]
theorem uk (ok:dG P tt) (lo:Nat) {e sz by_ b off n cap:Nat} {k:IntKind} {a:Int} (ht:iS tt t=some (e,sz,by_)) (hx:bc fr x=some (.sc (.slice (some ⟨b,off,none⟩) n cap))) (hy:bc fr y=some (.sc (.int k a))) (ha:a=(lo:Int)) (h1:lo≤n) (hn:n≤cap) (hd:Nat.ble nt d=false) (h:bz P r ops Q nt D rest ((d,.sc (.slice (some ⟨b,if cap=lo then off else off+lo * sz,none⟩) (n - lo) (cap - lo)))::fr) B L):
  bz P r ops Q nt D (⟨some d,.slice t x (some y) none none,ty,pos,af,none⟩::rest) fr B L:=c5 (A9 (bv ok ht).1 hx hy ha h1 hn) hd rfl h
theorem um (ok:dG P tt) (n:Nat) {e sz by_:Nat} {k k':IntKind} {bb:Int} {zs:List Value} (ht:iS tt t=some (e,sz,by_)) (hz:zI tt e=some zs) (h1:zs.all (·.oneCell')=true) (hx:bc fr x=some (.sc (.int k 0))) (hy:bc fr y=some (.sc (.int k' bb))) (hb:bb=(n:Int)) (hby:by_ * n≤281474976710656) (h63:n≤9223372036854775807) (hd:Nat.ble nt d=false)
  (h:∀b,bz P r ops Q nt D rest ((d,.sc (.slice (some ⟨b,0,none⟩) 0 n))::fr) B ((b,.box ((List.replicate n (zs.map .sc)).flatten) e)::L)):bz P r ops Q nt D (⟨some d,.makeSlice t x y,ty,pos,af,none⟩::rest) fr B L:=by
 obtain ⟨hc,hsz⟩:=bv ok ht
 have hzz:=er ok hz
 refine ce (R:=fun c L'=>∃b,c= .sc (.slice (some ⟨b,0,none⟩) 0 n)∧L'=(b,.box ((List.replicate n (zs.map .sc)).flatten) e)::L) hd rfl (fun σ ρ w hρ hw=>?_) fun c L' ⟨b,h1,h2⟩=>by subst h1;subst h2;exact h b
 subst hb
 have hr:=nz (n:=0) (d:=some d) (ty:=ty) (pos:=pos) (af:=af) (g:=none) hc hzz hsz hby h63 (Nat.zero_le n) w ρ (hρ x _ hx).sc_inv (hρ y _ hy).sc_inv
 unfold gn
 rw [hr]
 have hfl:∀m,(List.replicate m (zs.map AV.sc)).flatten=((List.replicate m zs).flatten).map AV.sc:=by
  intro m
  induction m with
  | zero=>rfl
  | succ m ih=>rw [List.replicate_succ,List.replicate_succ,List.flatten_cons,List.flatten_cons,List.map_append,ih]
 refine ⟨σ,_,_,bW.le_refl _,.sc _,hw.alloc _ (.box ((List.replicate n (zs.map .sc)).flatten) e) ⟨_,rfl,?_,fun u hu=>?_⟩,_,rfl,rfl⟩
 ·rw [hfl]
  refine ⟨by simp,fun i c u hc hu=>?_⟩
  rw [List.getElem?_map,hu] at hc
  simp at hc
  subst hc
  exact .sc u
 ·obtain ⟨q,hq,hu⟩:=List.mem_flatten.1 hu
  rw [List.eq_of_mem_replicate hq] at hu
  exact List.all_eq_true.1 h1 u hu
theorem pO (xs:List Int):xs.map aF=(aT xs).flatten:=by
 induction xs with
 | nil=>rfl
 | cons x r ih=>
  show aF x::r.map aF=_
  rw [ih]
  rfl
theorem zQ {t b e n cap:Nat} {xs:List Int} (ys:List Int) (i:Nat) (hl:bX fr t=some (.sc (.slice (some ⟨b,0,none⟩) n cap))) (hL:L[i]?=some (b,.box (xs.map aF) e)) (hy:xs.take n=ys) (hn:n≤xs.length) (hnc:n≤cap) (hm:cap≤maxLen):lb nt D B fr L ((t,.imm 1 (aT ys))::fr) (L.eraseIdx i):=by
 subst hy
 refine cP i hl hL ?_ (by simp;omega) (fun q hq=>?_) (by rw [b7,List.length_take];omega) hnc hm
 ·rw [←pO,Nat.mul_one,List.map_take]
 ·obtain ⟨z,_,rfl⟩:=List.mem_map.1 hq
  rfl
theorem Az {C:Code} (ks:List Nat) (fr1:bP) (L1:AL) (hA:∀Q',(∀fr',fE fr' ks=some fr1→AX P .normal Q' nt D fr' B L1)→bz P r ops Q' nt D rest fr B L) (hB:AT P r C Q nt D fr1 B L1):bz P r ops (Kt P r C Q) nt D rest fr B L:=
 hA _ fun _ h=>a8 (s6 ks h hB)
theorem DT {X C:Code} {fr1:bP} (ks:List Nat) (L1:AL) (hk:fE fr ks=some fr1) (hA:∀Q',(∀fr',fE fr' ks=some fr1→AX P .normal Q' nt D fr' B L1)→bz P r ops (Kt P r X Q') nt D rest fr B L) (hB:AT P r C Q nt D fr1 B L1):bz P r ops (Kt P r X (Kt P r C Q)) nt D rest fr B L:=
 hA _ fun _ h=>a8 (s6 ks h hB)
end
section
variable {P:Program} {tt:TT} {l:List Oper} {fr:bP} {fin:jz} {sk:lE} {acc:bP} {L:AL} {k:Nat} {dd:Option Tmp} {ty t t':TypeId} {pos:String} {af:Array Edge} {g:Option (Nat×Bool)} {x y z:Operand} {u:AV}
theorem lW (ok:dG P tt) (i q:Nat) {b p:Nat} {cs:List AV} {e:TypeId} (ht:Dq tt t=true) (hx:bc (cE l.toArray acc fr af.toList) x=some (.sc (.pointer (some ⟨b,p,none⟩)))) (hp:p=q) (hL:L[i]?=some (b,.box cs e)) (hz:cs[q]?=some u) (hg:jt ⟨dd,.load t x,ty,pos,af,g⟩ acc) (h:DA P l fr fin sk ((k,u)::acc) L):cu P l fr fin k .l ⟨dd,.load t x,ty,pos,af,g⟩ sk acc L:=by
 subst hp
 exact cn ok i ht hx hL hz hg h
theorem B9 (ok:dG P tt) (i q:Nat) {b p:Nat} {cs:List AV} {e:TypeId} (ht:Ds tt t=some 1) (hx:bc (cE l.toArray acc fr af.toList) x=some (.sc (.pointer (some ⟨b,p,none⟩)))) (hp:p=q) (hy:bc (cE l.toArray acc fr af.toList) y=some u) (hu:u.cells=some [u]) (hL:L[i]?=some (b,.box cs e)) (hq:q < cs.length) (hg:jt ⟨dd,.store t x y,ty,pos,af,g⟩ acc) (h:∀c,DA P l fr fin sk ((k,c)::acc) (f3 L i (.box (cs.set q u) e))):cu P l fr fin k .e ⟨dd,.store t x y,ty,pos,af,g⟩ sk acc L:=by
 subst hp
 refine tT ok i ht hx hy hu hL rfl (Nat.ble_eq_true_of_le hq) hg fun c=>?_
 rw [f8]
 exact h c
end
end Go.Proofs.YtamjlkdanllgjaaGreatDoor
namespace Go.Proofs.YtamjlkdanllgjaaGreatDoor
open Go.RowKit
attribute [local irreducible] AT bz AX AO Av Kt aZ cY DA cu
set_option maxRecDepth 8000
theorem BN (r:Int):bD Tryz.prog 40 [aF r] (aF (cO r)):=by
 refine aI Tryz.func40 rfl Tryz.ntmps40 rfl fun B=>?_
 repeat' (first|refine ae ?_|refine a6 ?_|refine ar ?_|refine a8 ?_|refine aa ?_|refine LR a7 LL ?_)
 refine bN [0] (57344≤r∧r≤57599) rfl (fun Q' K=>?_) (fun hC0=>?_) (fun hC0=>?_)
 ·repeat' (first|refine aa ?_|refine LR a7 LL ?_|refine MB LL ?_|refine MC LN ?_|refine MD LM (fun _=>?_) (fun _=>?_))
  all_goals exact K _ _ rfl rfl (by simp_all <;> omega)
 ·repeat' (first|refine ae ?_|refine a6 ?_|refine am ?_|refine a8 ?_|refine az ?_|refine aR ?_|refine aa ?_|refine LR a7 LL ?_)
  exact MA LL (by rw [cO,if_pos hC0])
 repeat' (first|refine ae ?_|refine a6 ?_|refine LR a7 LL ?_)
 refine bN [0] (57600≤r∧r≤57855) rfl (fun Q' K=>?_) (fun hC1=>?_) (fun hC1=>?_)
 ·repeat' (first|refine aa ?_|refine LR a7 LL ?_|refine MB LL ?_|refine MC LN ?_|refine MD LM (fun _=>?_) (fun _=>?_))
  all_goals exact K _ _ rfl rfl (by simp_all <;> omega)
 ·repeat' (first|refine ae ?_|refine a6 ?_|refine am ?_|refine a8 ?_|refine az ?_|refine aR ?_|refine aa ?_|refine LR a7 LL ?_)
  exact MA LL (by rw [cO,if_neg hC0,if_pos hC1])
 repeat' (first|refine ae ?_|refine a6 ?_|refine LR a7 LL ?_)
 refine bN [0] (57856≤r∧r≤58111) rfl (fun Q' K=>?_) (fun hC2=>?_) (fun hC2=>?_)
 ·repeat' (first|refine aa ?_|refine LR a7 LL ?_|refine MB LL ?_|refine MC LN ?_|refine MD LM (fun _=>?_) (fun _=>?_))
  all_goals exact K _ _ rfl rfl (by simp_all <;> omega)
 ·repeat' (first|refine ae ?_|refine a6 ?_|refine am ?_|refine a8 ?_|refine az ?_|refine aR ?_|refine aa ?_|refine LR a7 LL ?_)
  exact MA LL (by rw [cO,if_neg hC0,if_neg hC1,if_pos hC2])
 repeat' (first|refine ae ?_|refine a6 ?_|refine LR a7 LL ?_)
 refine bN [0] (58112≤r∧r≤58367) rfl (fun Q' K=>?_) (fun hC3=>?_) (fun hC3=>?_)
 ·repeat' (first|refine aa ?_|refine LR a7 LL ?_|refine MB LL ?_|refine MC LN ?_|refine MD LM (fun _=>?_) (fun _=>?_))
  all_goals exact K _ _ rfl rfl (by simp_all <;> omega)
 ·repeat' (first|refine ae ?_|refine a6 ?_|refine am ?_|refine a8 ?_|refine az ?_|refine aR ?_|refine aa ?_|refine LR a7 LL ?_)
  exact MA LL (by rw [cO,if_neg hC0,if_neg hC1,if_neg hC2,if_pos hC3])
 repeat' (first|refine ae ?_|refine a6 ?_|refine LR a7 LL ?_)
 refine bN [] (58368≤r∧r≤58623) rfl (fun Q' K=>?_) (fun hC4=>?_) (fun hC4=>?_)
 ·repeat' (first|refine aa ?_|refine LR a7 LL ?_|refine MB LL ?_|refine MC LN ?_|refine MD LM (fun _=>?_) (fun _=>?_))
  all_goals exact K _ _ rfl rfl (by simp_all <;> omega)
 ·repeat' (first|refine ae ?_|refine a6 ?_|refine am ?_|refine a8 ?_|refine az ?_|refine aR ?_|refine aa ?_|refine LR a7 LL ?_)
  exact MA LL (by rw [cO,if_neg hC0,if_neg hC1,if_neg hC2,if_neg hC3,if_pos hC4])
 repeat' (first|refine ae ?_|refine a6 ?_|refine aq ?_|refine am ?_|refine a8 ?_|refine aP ?_|refine aa ?_|refine LR a7 LL ?_)
 exact MA LL (by rw [cO,if_neg hC0,if_neg hC1,if_neg hC2,if_neg hC3,if_neg hC4])
instance (r:Int):AD Tryz.prog 40 [aF r] (aF (cO r)):=⟨BN r⟩
theorem yn (r:Int):bD Tryz.prog 68 [aF r] (aF (pi r)):=by
 refine aI Tryz.func68 rfl Tryz.ntmps68 rfl fun B=>?_
 repeat' (first|refine ae ?_|refine a6 ?_|refine a8 ?_|refine aa ?_|refine LR a7 LL ?_|(apply bk;refine b9 ?_)|fail)
 refine aB rfl (fun h=>?_) (fun h=>?_)
 ·repeat' (first|refine ae ?_|refine a6 ?_|refine am ?_|refine a8 ?_|refine az ?_|refine aa ?_|refine LR a7 LL ?_)
  exact MA LL (by rw [pi,if_neg (by simpa using h)])
 ·repeat' (first|refine ae ?_|refine a6 ?_|refine aq ?_|refine a8 ?_|refine LR a7 LL ?_)
  refine lq rfl rfl rfl ?_
  repeat' (first|refine am ?_|refine a8 ?_|refine aa ?_|refine LR a7 LL ?_)
  exact MA LL (by rw [pi,if_pos (by simpa using h)])
instance (r:Int):AD Tryz.prog 68 [aF r] (aF (pi r)):=⟨yn r⟩
theorem Cc (a:Int):bD Tryz.prog 148 [aF a] (cw false):=by
 refine aI Tryz.func148 rfl Tryz.ntmps148 rfl fun B=>?_
 repeat' (first|refine ae ?_|refine a6 ?_|refine am ?_|refine a8 ?_|refine aa ?_|refine LR a7 LL ?_)
 exact MA LL (by simp)
instance (a:Int):AD Tryz.prog 148 [aF a] (cw false):=⟨Cc a⟩
def s9 (a b:Int):Int:=if a < b then -1 else if b < a then 1 else 0
theorem E2 (a b:Int):bD Tryz.prog 67 [aF a,aF b] (aF (s9 a b)):=by
 refine aI Tryz.func67 rfl Tryz.ntmps67 rfl fun B=>?_
 repeat' (first|refine ae ?_|refine a6 ?_|refine aq ?_|refine a8 ?_|refine aa ?_|refine LR a7 LL ?_|(apply bk;refine b9 ?_)|refine bo rfl ?_)
 refine aB rfl (fun h=>?_) (fun h=>?_)
 ·repeat' (first|refine ae ?_|refine a6 ?_|refine am ?_|refine a8 ?_|refine az ?_|refine aa ?_|refine LR a7 LL ?_)
  exact MA LL (by rw [s9,if_pos (Mz h)])
 ·repeat' (first|refine ae ?_|refine a6 ?_|refine aq ?_|refine a8 ?_|refine aa ?_|refine LR a7 LL ?_)
  refine aB rfl (fun h2=>?_) (fun h2=>?_)
  ·repeat' (first|refine ae ?_|refine a6 ?_|refine am ?_|refine a8 ?_|refine az ?_|refine aa ?_|refine LR a7 LL ?_)
   exact MA LL (by rw [s9,if_neg (My h),if_pos (Mz h2)])
  ·repeat' (first|refine ae ?_|refine a6 ?_|refine aq ?_|refine am ?_|refine a8 ?_|refine aa ?_|refine LR a7 LL ?_)
   exact MA LL (by rw [s9,if_neg (My h),if_neg (My h2)])
instance (a b:Int):AD Tryz.prog 67 [aF a,aF b] (aF (s9 a b)):=⟨E2 a b⟩
theorem ea {l:List Int} {i:Nat} (h:i < l.length):l[i]?=some (l.getD i 0):=by
 rw [List.getD_eq_getElem?_getD,Ia h];rfl
theorem x9 (rs:List Int) (a b:Nat) (ha:a < rs.length) (hb:b < rs.length):bD Tryz.prog 66 [aF a,aF b,.iptr [.imm 1 (aT rs)]] (aF (s9 (kS rs a) (kS rs b))):=by
 refine aI Tryz.func66 rfl Tryz.ntmps66 rfl fun B=>?_
 have h1:=bH (ea ha)
 have h2:=bH (ea hb)
 repeat' (first|refine ae ?_|refine a6 ?_|refine a8 ?_|refine aa ?_|refine LR a7 LL ?_)
 refine bB 9 [(0,.v),(1,.v),(2,.v),(3,.v),(4,.v),(5,.v),(6,.v),(7,.v),(8,.v)] none ?_ trivial rfl (by kernel_rfl) (by kernel_rfl) (by kernel_rfl) mixed (by kernel_rfl) rfl
 repeat' (first|refine aJ ?_|refine bw a7 ?_|(apply cq;refine cQ a7 ?_)|(apply cM;refine dc ?_)|fail)
 refine MG [10,14] LL ?_
 repeat' (first|refine am ?_|refine a8 ?_|refine aa ?_|refine LR a7 LL ?_|(apply bk;refine b9 ?_)|fail)
 exact LY LM
theorem D4 (b:Nat) (rs fs:List Int) (i j:Nat) (hi:i < rs.length) (hj:j < rs.length) (hl:fs.length=rs.length):AC Tryz.prog 42 [.imm 1 (aT rs),.sc (.slice (some ⟨b,0,none⟩) rs.length rs.length),aF i,aF j] [(b,.box (fs.map aF) 3)] fun _ L=>L=[(b,.box ((nX rs fs i j).map aF) 3)]:=by
 refine aI Tryz.func42 rfl Tryz.ntmps42 rfl fun B=>?_
 have h1:=bH (ea hi)
 have h2:=bH (ea hj)
 repeat' (first|refine ae ?_)
 refine bB 9 [(0,.v),(1,.v),(2,.v),(3,.v),(4,.v),(5,.v),(6,.v),(7,.v),(8,.v)] none ?_ trivial rfl (by kernel_rfl) (by kernel_rfl) (by kernel_rfl) mixed (by kernel_rfl) rfl
 repeat' (first|refine aJ ?_|refine bw a7 ?_|(apply cq;refine cQ a7 ?_)|(apply cM;refine dc ?_)|fail)
 refine MG [1,2,3,14,18] LL ?_
 repeat' (first|refine ae ?_|refine a6 ?_|refine a8 ?_|refine aa ?_|refine LR a7 LL ?_|(apply bk;refine b9 ?_)|fail)
 refine bN [1,2,3] (¬(cO (rs.getD i 0)=2∧(cO (rs.getD j 0)=1∨cO (rs.getD j 0)=2))) rfl (fun Q' K=>?_) (fun hC=>?_) (fun hC=>?_)
 ·repeat' (first|refine aa ?_|refine LR a7 LL ?_|refine MB LL ?_|refine MC LN ?_|refine dq rfl rfl rfl ?_|refine MD LM (fun _=>?_) (fun _=>?_))
  all_goals exact K _ _ rfl rfl (by simp_all <;> omega)
 ·repeat' (first|refine am ?_|refine az ?_)
  exact kr rfl (by rw [nX,if_neg hC])
 ·have hC:=Classical.not_not.1 hC
  rw [nX,if_pos hC]
  repeat' (first|refine ae ?_|refine a6 ?_|refine aq ?_|refine a8 ?_|refine LR a7 LL ?_|(apply aL;first|refine aK a7 ?_|refine aH a7 ?_)|fail)
  refine mj a7 0 j rfl rfl (by omega) rfl rfl (by omega) ?_
  have h3:(fs.set j 4)[i]?=some ((fs.set j 4).getD i 0):=ea (by rw [List.length_set];omega)
  repeat' (first|refine ae ?_|refine a6 ?_|refine a8 ?_|refine aa ?_|refine LR a7 LL ?_|(apply aL;first|refine aK a7 ?_|refine aH a7 ?_)|fail)
  refine EU a7 0 i rfl rfl (by omega) rfl h3 rfl ?_
  repeat' (first|refine a8 ?_|refine aa ?_|refine LR a7 LL ?_)
  refine aB rfl (fun h=>?_) (fun h=>?_)
  ·rw [if_pos (Mz h)]
   repeat' (first|refine a6 ?_|refine LR a7 LL ?_|(apply aL;first|refine aK a7 ?_|refine aH a7 ?_)|fail)
   refine mj a7 0 i rfl rfl (by omega) rfl rfl (by rw [List.length_set];omega) ?_
   repeat' (first|refine aa ?_)
   exact bT rfl rfl
  ·rw [if_neg (My h)]
   repeat' (first|refine a6 ?_|refine LR a7 LL ?_|(apply aL;first|refine aK a7 ?_|refine aH a7 ?_)|fail)
   refine mj a7 0 i rfl rfl (by omega) rfl rfl (by rw [List.length_set];omega) ?_
   repeat' (first|refine aa ?_)
   exact bT rfl rfl
def Iz:Option Nat→Int
 | none=> -1
 | some a=>a
theorem rk (rs:List Int) (hr:rs.length≤1000000):bD Tryz.prog 21 [.imm 1 (aT rs)] (.imm 1 (aT (ei rs))):=by
 refine aI Tryz.func21 rfl Tryz.ntmps21 rfl fun B=>?_
 have hil:=b7 rs
 repeat' (first|refine ae ?_|refine a6 ?_|refine a8 ?_|refine aa ?_|refine LR a7 LL ?_)
 refine dS a7 rs.length rfl rfl rfl rfl rfl (by rw [hil]) (by rw [hil]) (by omega) (by omega) rfl fun b=>?_
 repeat' (first|refine ae ?_|refine a6 ?_|refine ar ?_|refine a8 ?_|refine aa ?_|refine LR a7 LL ?_)
 have hz:(List.replicate rs.length ([Value.int .i64 0].map AV.sc)).flatten=(List.replicate rs.length (0:Int)).map aF:=by
  simp [List.map_replicate,List.flatten_replicate_singleton]
 rw [hz]
 refine aN [0,3,11,12] (α:=Nat) (fun i=>[(4,aF (Iz (g9 rs i).2)),(13,aF i)]) (fun i=>i≤rs.length) (fun i=>[(b,.box ((g9 rs i).1.map aF) 3)]) (fun i=>rs.length - i) 0 rfl ⟨rfl,rfl,trivial⟩ (Nat.zero_le _) (fun _ _ h=>h) fun i hi=>?_
 try dsimp only [Mt,Ms,Mr,Mn]
 have hok:=kB rs i
 rw [show (aF (Iz (g9 rs i).2))=aF (Iz (g9 rs i).2) from rfl]
 generalize hs:g9 rs i=s at hok
 obtain ⟨fs,q⟩:=s
 have hfl:fs.length=rs.length:=hok.len
 dsimp only
 repeat' (first|refine ae ?_|refine a6 ?_|refine a8 ?_|refine aa ?_|refine LR a7 LL ?_)
 refine aB rfl (fun h=>?_) (fun h=>?_)
 ·have hil2:i < rs.length:=by have:=Mz h;omega
  have h1:=bH (ea hil2)
  have hsu:=nV rs i
  rw [hs] at hsu
  unfold uN at hsu
  dsimp only at hsu
  repeat' (first|refine ae ?_|refine a6 ?_|refine ar ?_|refine aq ?_|refine a8 ?_|refine aa ?_|refine LR a7 LL ?_|(apply aL;first|refine aK a7 ?_|refine aH a7 ?_)|(apply bk;refine b9 ?_)|fail)
  refine aB rfl (fun h3=>?_) (fun h3=>?_)
  ·rw [if_pos (Mz h3)] at hsu
   repeat' (first|refine a6 ?_|refine aO ?_|refine a8 ?_|refine av ?_|refine aC ?_|refine aa ?_|refine LR a7 LL ?_|(apply aY;refine aX ?_)|fail)
   exact aE (i+1) rfl ⟨by rw [hsu];rfl,by rw [Mw];rfl,trivial⟩ (by omega) (by omega) (fun _ _ h=>by rw [hsu];exact h)
  ·rw [if_neg (My h3)] at hsu
   repeat' (first|refine ae ?_|refine a6 ?_|refine aq ?_|refine a8 ?_|refine LR a7 LL ?_)
   refine DT [0,3,4,5,11,12,13] [(b,.box ((if cO (rs.getD i 0)=1∨cO (rs.getD i 0)=2 then fs.set i 1 else fs).map aF) 3)] rfl (fun Q1 K1=>?_) ?_
   ·refine bN [0,3,4,5,11,12,13] (cO (rs.getD i 0)=1∨cO (rs.getD i 0)=2) rfl (fun Q' K=>?_) (fun hC=>?_) (fun hC=>?_)
    ·repeat' (first|refine aa ?_|refine LR a7 LL ?_|refine MB LL ?_|refine MC LN ?_|refine MD LM (fun _=>?_) (fun _=>?_))
     all_goals exact K _ _ rfl rfl (by simp_all <;> omega)
    ·rw [if_pos hC] at K1
     repeat' (first|refine a6 ?_|refine LR a7 LL ?_|(apply aL;first|refine aK a7 ?_|refine aH a7 ?_)|fail)
     refine mj a7 0 i rfl rfl (by omega) rfl rfl (by omega) ?_
     repeat' (first|refine aa ?_)
     exact K1 _ rfl
    ·rw [if_neg hC] at K1
     repeat' (first|refine aq ?_)
     exact K1 _ rfl
   have hgl:(if cO (rs.getD i 0)=1∨cO (rs.getD i 0)=2 then fs.set i 1 else fs).length=rs.length:=by
    split
    ·rw [List.length_set];exact hfl
    ·exact hfl
   generalize (if cO (rs.getD i 0)=1∨cO (rs.getD i 0)=2 then fs.set i 1 else fs)=gs at hsu hgl
   cases q with
   | none=>
    dsimp only at hsu
    unfold Iz
    repeat' (first|refine ae ?_|refine a6 ?_|refine aq ?_|refine a8 ?_|refine aP ?_|refine aa ?_|refine LR a7 LL ?_|(apply aY;refine aX ?_)|refine bo rfl ?_)
    exact aE (i+1) rfl ⟨by rw [hsu];rfl,by rw [Mw];rfl,trivial⟩ (by omega) (by omega) (fun _ _ h=>by rw [hsu];exact h)
   | some a=>
    dsimp only at hsu
    have ha:=hok.at_ a rfl
    unfold Iz
    repeat' (first|refine ae ?_|refine a6 ?_|refine a8 ?_|refine aa ?_|refine LR a7 LL ?_|refine bI rfl ?_)
    refine aW [(b,.box (gs.map aF) 3)] [] (D4 b rs gs a i (by omega) hil2 hgl) rfl rfl (Mp _) rfl fun c L1 hL=>?_
    subst hL
    repeat' (first|refine a6 ?_|refine a8 ?_|refine aP ?_|refine aa ?_|refine LR a7 LL ?_|(apply aY;refine aX ?_)|fail)
    exact aE (i+1) rfl ⟨by rw [hsu];rfl,by rw [Mw];rfl,trivial⟩ (by omega) (by omega) (fun _ _ h=>by rw [hsu];exact h)
 ·have hil2:i=rs.length:=by have:=My h;omega
  subst hil2
  repeat' (first|refine ae ?_|refine a6 ?_|refine am ?_|refine aO ?_|refine a8 ?_|refine av ?_|refine aC ?_|refine aA ?_|refine aa ?_|refine LR a7 LL ?_)
  refine br (zQ (t:=2) fs 0 rfl rfl (List.take_of_length_le (by omega)) (by omega) (Nat.le_refl _) (by unfold maxLen;omega)) ?_
  exact MA LL (by unfold ei;rw [hs])
set_option maxRecDepth 8000
def zW (u:AV) (key:Nat→Int) (D:Nat→Prop):Prop:=∀a b,D a→D b→gF Tryz.prog u [aF a,aF b] [] fun c L=>c=aF (s9 (key a) (key b))∧L=[]
def gH (p rest:List Nat) (x j:Nat):List Nat:=p.take j++x::(p.drop j++rest)
theorem my (p rest:List Nat) (x j:Nat):(gH p rest x j).length=p.length+1+rest.length:=by
 unfold gH
 rw [List.length_append,List.length_cons,List.length_append]
 have:=congrArg List.length (List.take_append_drop j p)
 rw [List.length_append] at this
 omega
theorem xL {p rest:List Nat} {x j:Nat} (h:j≤p.length):(gH p rest x j)[j]?=some x:=by
 unfold gH
 rw [List.getElem?_append_right (by rw [List.length_take];omega),List.length_take,Nat.min_eq_left h,Nat.sub_self]
 rfl
theorem wr {p rest:List Nat} {x j:Nat} (h:j+1≤p.length):(gH p rest x (j+1))[j]?=p[j]?:=by
 unfold gH
 rw [List.getElem?_append_left (by rw [List.length_take];omega),List.getElem?_take_of_lt (by omega)]
theorem zn {p rest:List Nat} {x y j:Nat} (h:p[j]?=some y):((gH p rest x (j+1)).set (j+1) y).set j x=gH p rest x j:=by
 have hj:=(Mq h).1
 have hy:p[j]=y:=by rw [Ia hj] at h;exact Option.some.inj h
 apply List.ext_getElem?
 intro i
 have hl:(gH p rest x (j+1)).length=(gH p rest x j).length:=by rw [my,my]
 have hjl:j+1 < (gH p rest x (j+1)).length:=by rw [my];omega
 by_cases h1:i=j
 ·subst h1
  rw [List.getElem?_set_self (by rw [List.length_set];omega),xL (by omega)]
 ·rw [List.getElem?_set_ne (by omega)]
  by_cases h2:i=j+1
  ·subst h2
   rw [List.getElem?_set_self hjl]
   unfold gH
   rw [List.getElem?_append_right (by rw [List.length_take];omega),List.length_take,Nat.min_eq_left (by omega),show j+1 - j=0+1 by omega,List.getElem?_cons_succ,List.drop_eq_getElem_cons hj]
   simp [hy]
  ·rw [List.getElem?_set_ne (by omega)]
   unfold gH
   by_cases h3:i < j
   ·rw [List.getElem?_append_left (by rw [List.length_take];omega),List.getElem?_append_left (by rw [List.length_take];omega),List.getElem?_take_of_lt (by omega),List.getElem?_take_of_lt (by omega)]
   ·rw [List.getElem?_append_right (by rw [List.length_take];omega),List.getElem?_append_right (by rw [List.length_take];omega),List.length_take,List.length_take,Nat.min_eq_left (by omega),Nat.min_eq_left (by omega)]
    rw [show i - (j+1)=(i - j - 2)+1 by omega,show i - j=(i - j - 2)+1+1 by omega,List.getElem?_cons_succ,List.getElem?_cons_succ,List.drop_eq_getElem_cons hj,Mt,List.getElem?_cons_succ]
    rfl
theorem CG (p rest:List Nat) (x:Nat):gH p rest x p.length=p++x::rest:=by unfold gH;simp
theorem uF (key:Nat→Int) (p rest:List Nat) (x:Nat):gH p rest x (pA key x p p.length)=vU key p x++rest:=by unfold gH vU;simp
def cW (l:List Nat):List AV:=l.map fun (n:Nat)=>aF n
theorem eu (l:List Nat):(cW l).length=l.length:=Mv ..
theorem un {l:List Nat} {i v:Nat} (h:l[i]?=some v):(cW l)[i]?=some (aF v):=by simp [cW,h]
theorem uo (l:List Nat) (i v:Nat):(cW l).set i (aF v)=cW (l.set i v):=by simp [cW,List.map_set]
theorem xv {a c m:List AV} {i:Nat} (h:i < m.length):(a++(m++c))[a.length+i]?=m[i]?:=by
 rw [List.getElem?_append_right (by omega),Nat.add_sub_cancel_left,List.getElem?_append_left h]
theorem xw {a c m:List AV} {i:Nat} {v:AV} (h:i < m.length):(a++(m++c)).set (a.length+i) v=a++(m.set i v++c):=by
 rw [List.set_append_right _ _ (by omega),Nat.add_sub_cancel_left,List.set_append_left _ _ h]
set_option maxHeartbeats 4000000 in
theorem yQ (g:FuncId) (caps:List AV) (key:Nat→Int) (D:Nat→Prop) (hu:zW (.fn g caps) key D) (b cap:Nat) (pre post:List AV) (l:List Nat) (hD:∀x∈l,D x) (hl:l.length≤1000000):
  AC Tryz.prog 228 [.sc (.slice (some ⟨b,pre.length,none⟩) l.length cap),aF 0,aF l.length,.fn g caps] [(b,.box (pre++(cW l++post)) 3)] fun _ L=>L=[(b,.box (pre++(cW (eI key l)++post)) 3)]:=by
 refine aI Tryz.func228 rfl Tryz.ntmps228 rfl fun B=>?_
 have h0:eI key (l.take 1)++l.drop 1=l:=by
  cases l with
  | nil=>rfl
  | cons x r=>rfl
 repeat' (first|refine ae ?_|refine a6 ?_|refine ar ?_|refine a8 ?_|refine aa ?_|refine LR a7 LL ?_|(apply aY;refine aX ?_)|fail)
 refine aN [0,1,2,3] (α:=Nat) (fun i=>[(8,aF i)]) (fun i=>1≤i∧i≤max l.length 1) (fun i=>[(b,.box (pre++(cW (eI key (l.take i)++l.drop i)++post)) 3)]) (fun i=>l.length+1 - i) 1 rfl ⟨rfl,trivial⟩ ⟨Nat.le_refl _,by omega⟩ (fun _ _ h=>by rw [h0];exact h) fun i hi=>?_
 try dsimp only [Mt,Ms,Mr,Mn]
 repeat' (first|refine ae ?_|refine a6 ?_|refine a8 ?_|refine aa ?_|refine LR a7 LL ?_)
 refine aB rfl (fun h=>?_) (fun h=>?_)
 ·have hil:i < l.length:=by have:=Mz h;omega
  obtain ⟨x,hx⟩:∃x,l[i]?=some x:=⟨_,Ia hil⟩
  have hdx:D x:=hD x (Mx hx)
  have hsucc:eI key (l.take (i+1))=vU key (eI key (l.take i)) x:=by
   unfold eI
   rw [List.take_add_one,hx,List.foldl_append]
   rfl
  have hpl:(eI key (l.take i)).length=i:=by rw [(kM _ _).length_eq,List.length_take];omega
  have hpD:∀y∈eI key (l.take i),D y:=fun y hy=>hD y (List.mem_of_mem_take ((kM _ _).mem_iff.1 hy))
  have hdr:l.drop i=x::l.drop (i+1):=by
   rw [List.drop_eq_getElem_cons hil]
   congr 1
   rw [Ia hil] at hx
   exact Option.some.inj hx
  have hrl:(l.drop (i+1)).length=l.length - (i+1):=List.length_drop ..
  rw [hdr]
  generalize eI key (l.take i)=p at *
  generalize hrest:l.drop (i+1)=rest at *
  clear h
  repeat' (first|refine ae ?_|refine a6 ?_|refine ar ?_|refine aq ?_|refine a8 ?_|refine aa ?_|refine LR a7 LL ?_)
  refine aN [0,1,2,3,8] (α:=Nat) (fun j=>[(9,aF j)]) (fun j=>j≤i∧pA key x p j=pA key x p p.length) (fun j=>[(b,.box (pre++(cW (gH p rest x j)++post)) 3)]) (fun j=>j) i rfl ⟨rfl,trivial⟩ ⟨Nat.le_refl _,by rw [hpl]⟩ (fun _ _ h=>by rw [←hpl,CG];exact h) fun j hj=>?_
  try dsimp only [Mt,Ms,Mr,Mn]
  have hrow:(cW (gH p rest x j)).length=l.length:=by rw [eu,my,hpl,hrl];omega
  obtain ⟨hji,hins⟩:=hj
  cases j with
  | zero=>
   repeat' (first|refine ae ?_)
   refine bB 17 [(0,.v),(1,.v),(2,.v),(3,.v),(4,.v),(5,.v),(6,.v),(7,.v),(8,.v),(9,.v),(10,.v),(11,.v),(12,.v),(13,.v),(14,.v),(15,.v),(16,.v)] none ?_ trivial rfl (by kernel_rfl) (by kernel_rfl) (by kernel_rfl) mixed (by kernel_rfl) rfl
   repeat' (first|refine aJ ?_|refine bw a7 ?_|refine tU rfl rfl ?_)
   refine MG [0,1,2,3,8,34] LL ?_
   repeat' (first|refine a6 ?_|refine aO ?_|refine a8 ?_|refine av ?_|refine aP ?_|refine aC ?_|refine aA ?_|refine aa ?_|refine LR a7 LL ?_|(apply aY;refine aX ?_)|refine bo rfl ?_)
   have hj1:pA key x p p.length=0:=by rw [←hins];rfl
   refine aE (i+1) rfl ⟨by rw [Mw];rfl,trivial⟩ ⟨by omega,by omega⟩ (by omega) (fun _ _ h=>?_)
   rw [hsucc,hrest,←uF,hj1]
   exact h
  | succ j=>
   obtain ⟨y,hy⟩:∃y,p[j]?=some y:=⟨_,Ia (by omega)⟩
   have hdy:D y:=hpD y (Mx hy)
   have g1:(pre++(cW (gH p rest x (j+1))++post))[pre.length+(j+1)]?=some (aF x):=by
    rw [xv (by omega)]
    exact un (xL (by omega))
   have g2:(pre++(cW (gH p rest x (j+1))++post))[pre.length+j]?=some (aF y):=by
    rw [xv (by omega)]
    exact un (by rw [wr (by omega)];exact hy)
   repeat' (first|refine ae ?_)
   refine bB 14 [(0,.v),(1,.v),(2,.v),(3,.v),(4,.v),(5,.v),(6,.v),(7,.v),(8,.l),(9,.v),(10,.v),(11,.v),(12,.v),(13,.l)] none ?_ trivial rfl (by kernel_rfl) (by kernel_rfl) (by kernel_rfl) mixed (by kernel_rfl) rfl
   repeat' (first|refine aJ ?_|refine bw a7 ?_|fail)
   rw [decide_eq_true (show (0:Int) < ((j+1:Nat):Int) by omega)]
   repeat' (first|refine aJ ?_|refine bw a7 ?_|fail)
   refine cx a7 rfl rfl rfl ⟨by omega,by omega⟩ (by first | trivial | rfl) ?_
   repeat' (first|refine aJ ?_|fail)
   refine lW a7 0 (pre.length+(j+1)) rfl rfl (by omega) rfl g1 (by first | trivial | rfl) ?_
   repeat' (first|refine aJ ?_|refine bw a7 ?_|(apply iq;refine kT ?_)|fail)
   refine cx a7 rfl rfl rfl ⟨by omega,by omega⟩ (by first | trivial | rfl) ?_
   repeat' (first|refine aJ ?_|fail)
   refine lW a7 0 (pre.length+j) rfl rfl (by omega) rfl g2 (by first | trivial | rfl) ?_
   repeat' (first|fail)
   refine MG [0,1,2,3,8,9,21,22,26,31] LL ?_
   repeat' (first|refine MB LL ?_)
   refine gp [] [(b,.box (pre++(cW (gH p rest x (j+1))++post)) 3)] (hu x y hdx hdy) rfl rfl (Mp _) rfl rfl fun c L1 ⟨hc,hL⟩=>?_
   subst hc;subst hL
   repeat' (first|refine a8 ?_|refine aa ?_|refine LR a7 LL ?_|refine MB LL ?_)
   refine aB rfl (fun h=>?_) (fun h=>?_)
   ·have hlt:key x < key y:=by
     have:=Mz h
     unfold s9 at this
     split at this
     ·assumption
     ·split at this <;> omega
    clear h
    repeat' (first|refine ae ?_|refine ar ?_|refine aq ?_|refine a8 ?_)
    refine bB 16 [(0,.v),(1,.v),(2,.v),(3,.v),(4,.v),(5,.v),(6,.v),(7,.v),(8,.v),(9,.l),(10,.v),(11,.v),(12,.v),(13,.l),(14,.v),(15,.e)] none ?_ trivial rfl (by kernel_rfl) (by kernel_rfl) (by kernel_rfl) mixed (by kernel_rfl) rfl
    repeat' (first|refine aJ ?_|refine bw a7 ?_|(apply iq;refine kT ?_)|fail)
    refine cx a7 rfl rfl rfl ⟨by omega,by omega⟩ (by first | trivial | rfl) ?_
    repeat' (first|refine aJ ?_|fail)
    refine lW a7 0 (pre.length+j) rfl rfl (by omega) rfl g2 (by first | trivial | rfl) ?_
    repeat' (first|refine aJ ?_|refine bw a7 ?_|fail)
    refine cx a7 rfl rfl rfl ⟨by omega,by omega⟩ (by first | trivial | rfl) ?_
    repeat' (first|refine aJ ?_|fail)
    refine lW a7 0 (pre.length+(j+1)) rfl rfl (by omega) rfl g1 (by first | trivial | rfl) ?_
    repeat' (first|refine aJ ?_|fail)
    refine cx a7 rfl rfl rfl ⟨by omega,by omega⟩ (by first | trivial | rfl) ?_
    repeat' (first|refine aJ ?_|fail)
    refine B9 a7 0 (pre.length+(j+1)) rfl rfl (by omega) rfl rfl rfl (by simp only [List.length_append];omega) (by first | trivial | rfl) fun _=>?_
    repeat' (first|fail)
    refine MG [0,1,2,3,8,9,39,41,50] LL ?_
    repeat' (first|(apply aL;first|refine aK a7 ?_|refine aH a7 ?_)|fail)
    refine k7 a7 0 (pre.length+j) rfl rfl (by omega) rfl rfl rfl (by simp only [List.length_set,List.length_append];omega) ?_
    repeat' (first|refine a6 ?_|refine a8 ?_|refine aP ?_|refine aa ?_|refine LR a7 LL ?_|(apply aY;refine aX ?_)|fail)
    have hsw:((pre++(cW (gH p rest x (j+1))++post)).set (pre.length+(j+1)) (aF y)).set (pre.length+j) (aF x)=pre++(cW (gH p rest x j)++post):=by
     rw [xw (by omega),uo,xw (by rw [eu,List.length_set,←eu];omega),uo,zn hy]
    rw [hsw]
    refine aE j rfl ⟨?_,trivial⟩ ⟨by omega,?_⟩ (by omega) (fun _ _ h=>h)
    ·rw [show ((j+1:Nat):Int) - 1=(j:Int) by omega];rfl
    ·rw [←hins,pA,if_pos (by rw [List.getD_eq_getElem?_getD,hy];exact hlt)]
   ·have hlt:¬key x < key y:=by
     have:=My h
     unfold s9 at this
     intro hc
     rw [if_pos hc] at this
     omega
    clear h
    have hj1:pA key x p p.length=j+1:=by rw [←hins,pA,if_neg (by rw [List.getD_eq_getElem?_getD,hy];exact hlt)]
    repeat' (first|refine a6 ?_|refine aO ?_|refine a8 ?_|refine av ?_|refine aP ?_|refine aC ?_|refine aA ?_|refine aa ?_|refine LR a7 LL ?_|(apply aY;refine aX ?_)|fail)
    refine aE (i+1) rfl ⟨by rw [Mw];rfl,trivial⟩ ⟨by omega,by omega⟩ (by omega) (fun _ _ h=>?_)
    rw [hsucc,hrest,←uF,hj1]
    exact h
 ·have hil:l.length≤i:=by have:=My h;omega
  rw [List.take_of_length_le hil,List.drop_of_length_le hil,List.append_nil]
  repeat' (first|refine aO ?_|refine av ?_|refine aC ?_|refine aA ?_)
  exact bT rfl rfl
set_option maxRecDepth 8000
theorem pB (v u:AV) (a c:Int) (h:c≤a+1) (ha:0≤a∧a≤1000000) (L:AL):AC Tryz.prog 228 [v,aF a,aF c,u] L fun _ L'=>L'=L:=by
 refine aI Tryz.func228 rfl Tryz.ntmps228 rfl fun B=>?_
 repeat' (first|refine ae ?_|refine a6 ?_|refine ar ?_|refine a8 ?_|refine aa ?_|refine LR a7 LL ?_|(apply aY;refine aX ?_)|fail)
 refine aN [0,1,2,3] (α:=Unit) (fun _=>[(8,aF (a+1))]) (fun _=>True) (fun _=>L) (fun _=>0) () rfl ⟨rfl,trivial⟩ trivial (fun _ _ h=>h) fun _ _=>?_
 try dsimp only [Mt,Ms,Mr,Mn]
 repeat' (first|refine ae ?_|refine a6 ?_|refine a8 ?_|refine aa ?_|refine LR a7 LL ?_)
 refine aB rfl (fun h=>by have:=Mz h;omega) (fun _=>?_)
 repeat' (first|refine aO ?_|refine av ?_|refine aC ?_|refine aA ?_)
 exact bT rfl rfl
set_option maxHeartbeats 4000000 in
theorem zJ (g:FuncId) (caps:List AV) (key:Nat→Int) (D:Nat→Prop) (hu:zW (.fn g caps) key D) (b cap:Nat) (pre post:List AV) (l:List Nat) (hD:∀x∈l,D x) (hl:l.length≤20):
  AC Tryz.prog 147 [.sc (.slice (some ⟨b,pre.length,none⟩) l.length cap),aF l.length,.fn g caps] [(b,.box (pre++(cW l++post)) 3)] fun _ L=>L=[(b,.box (pre++(cW (eI key l)++post)) 3)]:=by
 refine aI Tryz.func147 rfl Tryz.ntmps147 rfl fun B=>?_
 have hins:=yQ g caps key D hu b cap pre post l hD (by omega)
 repeat' (first|refine ae ?_|refine a6 ?_|refine ar ?_|refine a8 ?_|refine aa ?_|refine LR a7 LL ?_)
 refine aN [0,1,2,6] (α:=Bool) (fun k=>[(7,aF (if k then 20 else 0)),(8,aF (if k then 40 else 20))]) (fun k=>k=true→l.length=20) (fun k=>[(b,.box (pre++(cW (if k then eI key l else l)++post)) 3)]) (fun k=>if k then 0 else 1) false rfl ⟨rfl,rfl,trivial⟩ (fun h=>by cases h) (fun _ _ h=>h) fun k hk=>?_
 try dsimp only [Mt,Ms,Mr,Mn]
 repeat' (first|refine ae ?_|refine a6 ?_|refine a8 ?_|refine aa ?_|refine LR a7 LL ?_)
 cases k with
 | false=>
  simp only [Bool.false_eq_true,if_false]
  repeat' (first|fail)
  refine aB rfl (fun h=>?_) (fun h=>?_)
  ·have hn:l.length=20:=by have:=Mz h;omega
   clear h
   rw [show ((l.length:Nat):Int)=20 by omega] at hins
   repeat' (first|refine ae ?_|refine a6 ?_|refine ar ?_|refine aq ?_|refine a8 ?_|refine LR a7 LL ?_)
   refine aW [(b,.box (pre++(cW l++post)) 3)] [] hins rfl rfl (Mp _) rfl fun c L1 hL=>?_
   subst hL
   repeat' (first|refine ae ?_|refine a6 ?_|refine a8 ?_|refine aP ?_|refine aa ?_|refine LR a7 LL ?_|(apply aY;refine aX ?_)|fail)
   exact aE true rfl ⟨rfl,rfl,trivial⟩ (fun _=>hn) (by decide) (fun _ _ h=>h)
  ·have hn:¬(20:Int)≤l.length:=My h
   repeat' (first|refine ae ?_|refine a6 ?_|refine aO ?_|refine a8 ?_|refine av ?_|refine aC ?_|refine aA ?_|refine LR a7 LL ?_)
   refine aW [(b,.box (pre++(cW l++post)) 3)] [] hins rfl rfl (Mp _) rfl fun c L1 hL=>?_
   subst hL
   repeat' (first|refine ar ?_|refine a8 ?_|refine aa ?_)
   refine aN [0,1,2] (α:=Unit) (fun _=>[(6,aF 20)]) (fun _=>True) (fun _=>[(b,.box (pre++(cW (eI key l)++post)) 3)]) (fun _=>0) () rfl ⟨rfl,trivial⟩ trivial (fun _ _ h=>h) fun _ _=>?_
   try dsimp only [Mt,Ms,Mr,Mn]
   repeat' (first|refine ae ?_|refine a6 ?_|refine a8 ?_|refine aa ?_|refine LR a7 LL ?_)
   refine aB rfl (fun h=>by have:=Mz h;omega) (fun _=>?_)
   repeat' (first|refine aO ?_|refine av ?_|refine aC ?_|refine aA ?_)
   exact bT rfl rfl
 | true=>
  have hn:=hk rfl
  simp only [if_true]
  repeat' (first|fail)
  refine aB rfl (fun h=>by have:=Mz h;omega) (fun _=>?_)
  repeat' (first|refine ae ?_|refine a6 ?_|refine aO ?_|refine a8 ?_|refine av ?_|refine aC ?_|refine aA ?_|refine LR a7 LL ?_)
  refine aW [(b,.box (pre++(cW (eI key l)++post)) 3)] [] (pB _ _ 20 l.length (by omega) (by omega) _) rfl rfl (Mp _) rfl fun c L1 hL=>?_
  subst hL
  repeat' (first|refine ar ?_|refine a8 ?_|refine aa ?_)
  refine aN [0,1,2] (α:=Unit) (fun _=>[(6,aF 20)]) (fun _=>True) (fun _=>[(b,.box (pre++(cW (eI key l)++post)) 3)]) (fun _=>0) () rfl ⟨rfl,trivial⟩ trivial (fun _ _ h=>h) fun _ _=>?_
  try dsimp only [Mt,Ms,Mr,Mn]
  repeat' (first|refine ae ?_|refine a6 ?_|refine a8 ?_|refine aa ?_|refine LR a7 LL ?_)
  refine aB rfl (fun h=>by have:=Mz h;omega) (fun _=>?_)
  repeat' (first|refine aO ?_|refine av ?_|refine aC ?_|refine aA ?_)
  exact bT rfl rfl
theorem l7 (g:FuncId) (caps:List AV) (key:Nat→Int) (D:Nat→Prop) (hu:zW (.fn g caps) key D) (b cap:Nat) (pre post:List AV) (l:List Nat) (hD:∀x∈l,D x) (hl:l.length≤20):
  AC Tryz.prog 65 [.sc (.slice (some ⟨b,pre.length,none⟩) l.length cap),.fn g caps] [(b,.box (pre++(cW l++post)) 3)] fun _ L=>L=[(b,.box (pre++(cW (eI key l)++post)) 3)]:=by
 refine aI Tryz.func65 rfl Tryz.ntmps65 rfl fun B=>?_
 repeat' (first|refine a6 ?_|refine LR a7 LL ?_)
 refine aW [(b,.box (pre++(cW l++post)) 3)] [] (zJ g caps key D hu b cap pre post l hD hl) rfl rfl (Mp _) rfl fun c L1 hL=>?_
 subst hL
 repeat' (first|refine aa ?_)
 exact bT rfl rfl
end Go.Proofs.YtamjlkdanllgjaaGreatDoor
