/-
  The program: a heap of numbers.
-/
import Derived.Test.YtamjlkdanllgjaaGreatDoorM19
import Derived.Test.YtamjlkdanllgjaaGreatDoorM11
import Derived.Test.YtamjlkdanllgjaaGreatDoorM10
import Derived.Test.YtamjlkdanllgjaaGreatDoorM05
import Derived.Test.YtamjlkdanllgjaaGreatDoorM06
namespace Go.Proofs.YtamjlkdanllgjaaGreatDoor
open Go.RowKit
attribute [local irreducible] AT bz AX AO Av Kt aZ cY DA cu
set_option maxRecDepth 8000
theorem Ml {P:Program} {f:FuncId} {fn:Func} {c:Code} (hf:P.funcs[f]?=some fn) (hn:(fn.name== "runtime.NumGoroutine")=false:=by kernel_rfl) (hb:fn.body=some c:=by rfl):bC P f:=⟨ak hf hn hb⟩
instance:bC Tryz.prog 387:=Ml Tryz.func387
instance:bC Tryz.prog 388:=Ml Tryz.func388
instance:bC Tryz.prog 389:=Ml Tryz.func389
instance:bC Tryz.prog 390:=Ml Tryz.func390
instance:bC Tryz.prog 391:=Ml Tryz.func391
theorem BW:lG Tryz.prog 428 "Len" 387 false 423:=gV (by kernel_rfl)
theorem pJ:lG Tryz.prog 428 "Less" 388 false 423:=gV (by kernel_rfl)
theorem pK:lG Tryz.prog 428 "Swap" 389 false 423:=gV (by kernel_rfl)
theorem J0:lG Tryz.prog 428 "Pop" 390 true 423:=gV (by kernel_rfl)
theorem Hn:lG Tryz.prog 428 "Push" 391 true 423:=gV (by kernel_rfl)
section
variable {P:Program} {fr:bP} {d:Option Tmp} {ty t t':TypeId} {pos:String} {af:Array Edge} {g:Option (Nat×Bool)} {x y:Operand}
theorem Gz {z:Int} {n:Nat} (hz:z=(n:Int) - 1) (hx:bc fr x=some (aF z)) (hy:bc fr y=some (aF 2)) (hn:n≤9223372036854775807):Av P ⟨d,.binOp .quo t x y t',ty,pos,af,g⟩ fr (aF (((n - 1) / 2:Nat):Int)):=by
 have h:=FP (P:=P) (d:=d) (ty:=ty) (pos:=pos) (af:=af) (g:=g) (t:=t) (t':=t') hx hy (by omega)
 have e:IntKind.i64.wrap (z.tdiv 2)=(((n - 1) / 2:Nat):Int):=by
  subst hz
  have:((n:Int) - 1).tdiv 2=(((n - 1) / 2:Nat):Int):=by
   cases n with
   | zero=>rfl
   | succ m=>
    rw [show (((m+1:Nat):Int) - 1)=(m:Int) by omega,Int.tdiv_eq_ediv_of_nonneg (by omega)]
    simp
  rw [this,pv (by omega)]
 rwa [e] at h
end
abbrev HI (p:Nat):AV:= .sc (.iface 428 (.pointer (some ⟨p,0,none⟩)))
def zV (k:Option (Nat×List AV)) (n:Nat):Value:=match k with
 | none=> .slice none 0 0
 | some (b,cs)=> .slice (some ⟨b,0,none⟩) n cs.length
def pz (k:Option (Nat×List AV)):AL:=match k with
 | none=>[]
 | some (b,cs)=>[(b,.box cs 3)]
def hst (p:Nat) (k:Option (Nat×List AV)) (l:List Int):AL:=(p,.box [.sc (zV k l.length)] 423)::pz k
def nG (k:Option (Nat×List AV)) (l:List Int):Prop:=match k with
 | none=>l=[]
 | some (_,cs)=>cs.take l.length=l.map aF∧l.length≤cs.length∧0 < cs.length
theorem nG.get {b:Nat} {cs:List AV} {l:List Int} (h:nG (some (b,cs)) l) {a:Int} (h0:0≤a) (h1:a < l.length):∃x,l[a.toNat]?=some x∧cs[0+a.toNat * 1]?=some (aF x):=by
 obtain ⟨x,hx⟩:∃x,l[a.toNat]?=some x:=⟨_,Ia (by omega)⟩
 refine ⟨x,hx,?_⟩
 have h2:=congrArg (fun q=>q[a.toNat]?) h.1
 simp only [List.getElem?_take,List.getElem?_map,hx] at h2
 rw [if_pos (by omega)] at h2
 rw [Nat.zero_add,Nat.mul_one]
 exact h2
theorem vZ (v:Value) (n c:Nat) (A:Option Addr) (hv:v= .slice A n c):bD Tryz.prog 387 [.sc v] (aF n):=by
 subst hv
 refine aI Tryz.func387 rfl Tryz.ntmps387 rfl fun B=>?_
 repeat' (first|refine ae ?_|refine a6 ?_|refine am ?_|refine a8 ?_|refine aa ?_|refine LR a7 LL ?_)
 exact LY LM
theorem mf {b n c:Nat} {cs:List AV} {x y a e:Int} (ha:0≤a∧a < n) (he:0≤e∧e < n) (hx:cs[0+a.toNat * 1]?=some (aF x)) (hy:cs[0+e.toNat * 1]?=some (aF y)):AC Tryz.prog 388 [.sc (.slice (some ⟨b,0,none⟩) n c),aF a,aF e] [(b,.box cs 3)] fun r L=>r=cw (decide (x < y))∧L=[(b,.box cs 3)]:=by
 refine aI Tryz.func388 rfl Tryz.ntmps388 rfl fun B=>?_
 repeat' (first|refine ae ?_|refine a6 ?_|refine a8 ?_|refine aa ?_|refine LR a7 LL ?_)
 refine bB 8 [(0,.v),(1,.v),(2,.v),(3,.l),(4,.v),(5,.v),(6,.v),(7,.l)] none ?_ trivial rfl (by kernel_rfl) (by kernel_rfl) (by kernel_rfl) mixed (by kernel_rfl) rfl
 repeat' (first|refine aJ ?_|refine bw a7 ?_|fail)
 refine cx a7 rfl rfl rfl ha trivial ?_
 repeat' (first|refine aJ ?_|fail)
 refine cn a7 0 rfl rfl rfl hx trivial ?_
 repeat' (first|refine aJ ?_|refine bw a7 ?_|fail)
 refine cx a7 rfl rfl rfl he trivial ?_
 repeat' (first|refine aJ ?_|fail)
 refine cn a7 0 rfl rfl rfl hy trivial ?_
 repeat' (first|fail)
 refine MG [10,14] LL ?_
 repeat' (first|refine am ?_|refine a8 ?_|refine aa ?_|refine LR a7 LL ?_)
 exact MA LL ⟨rfl,rfl⟩
theorem mB {b n c:Nat} {cs:List AV} {x y a e:Int} (ha:0≤a∧a < n) (he:0≤e∧e < n) (hx:cs[0+a.toNat * 1]?=some (aF x)) (hy:cs[0+e.toNat * 1]?=some (aF y)) (hn:n≤cs.length):AC Tryz.prog 389 [.sc (.slice (some ⟨b,0,none⟩) n c),aF a,aF e] [(b,.box cs 3)] fun _ L=>L=[(b,.box ((cs.set a.toNat (aF y)).set e.toNat (aF x)) 3)]:=by
 refine aI Tryz.func389 rfl Tryz.ntmps389 rfl fun B=>?_
 repeat' (first|fail)
 refine bB 14 [(0,.v),(1,.v),(2,.v),(3,.v),(4,.v),(5,.v),(6,.v),(7,.l),(8,.v),(9,.v),(10,.v),(11,.l),(12,.v),(13,.e)] none ?_ trivial rfl (by kernel_rfl) (by kernel_rfl) (by kernel_rfl) mixed (by kernel_rfl) rfl
 repeat' (first|refine aJ ?_|refine bw a7 ?_|fail)
 refine cx a7 rfl rfl rfl he trivial ?_
 repeat' (first|refine aJ ?_|fail)
 refine cn a7 0 rfl rfl rfl hy trivial ?_
 repeat' (first|refine aJ ?_|refine bw a7 ?_|fail)
 refine cx a7 rfl rfl rfl ha trivial ?_
 repeat' (first|refine aJ ?_|fail)
 refine cn a7 0 rfl rfl rfl hx trivial ?_
 repeat' (first|refine aJ ?_|fail)
 refine cx a7 rfl rfl rfl ha trivial ?_
 repeat' (first|refine aJ ?_|fail)
 refine tT a7 0 rfl rfl rfl rfl rfl rfl (by rw [Nat.ble_eq];show _+1≤_;omega) trivial fun _=>?_
 repeat' (first|fail)
 refine MG [8,9,17] LL ?_
 repeat' (first|(apply aL;first|refine aK a7 ?_|refine aH a7 ?_)|fail)
 refine aj a7 0 rfl rfl rfl rfl rfl rfl (by rw [Nat.ble_eq];show _+1≤(eK _ _ _).length;rw [gx];omega) ?_
 repeat' (first|refine aa ?_)
 refine bT rfl ?_
 simp only [f3,eK,Nat.zero_add,Nat.mul_one]
theorem nG.swap {b:Nat} {cs:List AV} {l:List Int} (h:nG (some (b,cs)) l) {a e x y:Int} (ha:0≤a∧a < l.length) (he:0≤e∧e < l.length) (hx:l[a.toNat]?=some x) (hy:l[e.toNat]?=some y):nG (some (b,(cs.set a.toNat (aF y)).set e.toNat (aF x))) ((l.set a.toNat y).set e.toNat x)∧((l.set a.toNat y).set e.toNat x).Perm l:=by
 obtain ⟨h1,h2,h3⟩:=h
 refine ⟨⟨?_,by simpa using h2,by simpa using h3⟩,?_⟩
 ·simp only [List.length_set]
  rw [List.take_set,List.take_set,h1,List.map_set,List.map_set]
 ·obtain ⟨hx1,hx2⟩:=Mq hx
  obtain ⟨hy1,hy2⟩:=Mq hy
  subst hx2;subst hy2
  exact List.set_set_perm hx1 hy1
set_option maxHeartbeats 4000000 in
theorem xe (p b:Nat) (cs0:List AV) (l0:List Int) (h:nG (some (b,cs0)) l0) (i0 n:Nat) (hn:n≤l0.length) (hl:l0.length≤1000000) (hi0:i0≤1000000):AC Tryz.prog 347 [HI p,aF i0,aF n] (hst p (some (b,cs0)) l0) fun _ L=>∃cs' l',L=hst p (some (b,cs')) l'∧nG (some (b,cs')) l'∧l'.Perm l0:=by
 refine aI Tryz.func347 rfl Tryz.ntmps347 rfl fun B=>?_
 repeat' (first|refine ae ?_|refine a6 ?_|refine ar ?_|refine a8 ?_|refine aa ?_|refine LR a7 LL ?_)
 refine aN [0,1,2] (α:=Nat×List AV×List Int) (fun x=>[(7,aF x.1)]) (fun x=>x.1≤1000000∧nG (some (b,x.2.1)) x.2.2∧x.2.2.Perm l0) (fun x=>hst p (some (b,x.2.1)) x.2.2) (fun x=>1000001 - x.1) (i0,cs0,l0) rfl ⟨rfl,trivial⟩ ⟨hi0,h,Mp _⟩ (fun _ _ h=>h) ?_
 rintro ⟨i,cs,l⟩ ⟨hi,hok,hpm⟩
 dsimp only at hi hok hpm ⊢
 have hll:=hpm.length_eq
 unfold hst pz zV
 dsimp only
 try dsimp only [Mt,Ms,Mr,Mn]
 repeat' (first|refine ae ?_|refine a6 ?_|refine ar ?_|refine a8 ?_|refine aa ?_|refine LR a7 LL ?_|(apply aY;refine aX ?_)|fail)
 refine bN [0,1,2,7,8] (¬(2 * (i:Int)+1 < n)) rfl (fun Q' K=>?_) (fun hC=>?_) (fun hC=>?_)
 ·repeat' (first|refine aa ?_|refine LR a7 LL ?_|refine MB LL ?_|refine MC LN ?_|refine MD LM (fun _=>?_) (fun _=>?_))
  all_goals exact K _ _ rfl rfl (by clear K;simp_all <;> omega)
 ·repeat' (first|refine ae ?_|refine a6 ?_|refine am ?_|refine aO ?_|refine a8 ?_|refine av ?_|refine aC ?_|refine dN rfl ?_|refine aA ?_|refine aa ?_|refine LR a7 LL ?_)
  exact MA LL ⟨cs,l,rfl,hok,hpm⟩
 have hC:=Decidable.not_not.1 hC
 obtain ⟨x,hx,hxc⟩:=hok.get (a:=i) (by omega) (by omega)
 repeat' (first|refine ae ?_|refine a6 ?_|refine aq ?_|refine a8 ?_|refine aa ?_|refine LR a7 LL ?_|(apply aY;refine aX ?_)|fail)
 refine MD LM (fun h2=>?_) (fun h2=>?_)
 ·have h2':=Mz h2
  obtain ⟨u,hu,huc⟩:=hok.get (a:=2 * (i:Int)+1+1) (by omega) (by omega)
  obtain ⟨v,hv,hvc⟩:=hok.get (a:=2 * (i:Int)+1) (by omega) (by omega)
  repeat' (first|refine LR a7 LL ?_|refine MB LL ?_)
  refine dz 0 [(b,.box cs 3)] [(p,.box [.sc (.slice (some ⟨b,0,none⟩) l.length cs.length)] 423)] pJ (ck a7 rfl) rfl rfl rfl rfl (List.Perm.swap ..) (mf (x:=u) (y:=v) ⟨by omega,by omega⟩ ⟨by omega,by omega⟩ huc hvc) rfl rfl fun c L1 ⟨hc,hL⟩=>?_
  subst hc;subst hL
  refine bq (b8 (List.Perm.swap ..)) ?_
  repeat' (first|refine a8 ?_|refine aa ?_|refine LR a7 LL ?_)
  refine aB rfl (fun h3=>?_) (fun h3=>?_)
  ·clear h3
   repeat' (first|refine ae ?_|refine a6 ?_|refine a8 ?_|refine aa ?_|refine LR a7 LL ?_)
   obtain ⟨y,hy,hyc⟩:=hok.get (a:=(2 * (i:Int)+1+1)) (by omega) (by omega)
   refine dz 0 [(b,.box cs 3)] [(p,.box [.sc (.slice (some ⟨b,0,none⟩) l.length cs.length)] 423)] pJ (ck a7 rfl) rfl rfl rfl rfl (List.Perm.swap ..) (mf (x:=y) (y:=x) ⟨by omega,by omega⟩ ⟨by omega,by omega⟩ hyc hxc) rfl rfl fun c L1 ⟨hc,hL⟩=>?_
   subst hc;subst hL
   repeat' (first|refine a8 ?_|refine aa ?_|refine LR a7 LL ?_)
   refine aB rfl (fun h5=>?_) (fun h5=>?_)
   ·repeat' (first|refine ae ?_|refine a6 ?_|refine am ?_|refine aO ?_|refine a8 ?_|refine av ?_|refine aC ?_|refine dN rfl ?_|refine aA ?_|refine aa ?_|refine LR a7 LL ?_)
    refine br (b8 (List.Perm.swap ..)) ?_
    exact MA LL ⟨cs,l,rfl,hok,hpm⟩
   repeat' (first|refine ae ?_|refine a6 ?_|refine aq ?_|refine a8 ?_|refine LR a7 LL ?_)
   refine bq (b8 (List.Perm.swap ..)) ?_
   refine dz 0 [(b,.box cs 3)] [(p,.box [.sc (.slice (some ⟨b,0,none⟩) l.length cs.length)] 423)] pK (ck a7 rfl) rfl rfl rfl rfl (List.Perm.swap ..) (mB (x:=x) (y:=y) ⟨by omega,by omega⟩ ⟨by omega,by omega⟩ hxc hyc hok.2.1) rfl rfl fun c L1 hL=>?_
   subst hL
   repeat' (first|refine a6 ?_|refine a8 ?_|refine aP ?_|refine aa ?_|refine LR a7 LL ?_)
   have hs:=hok.swap (a:=i) (e:=(2 * (i:Int)+1+1)) ⟨by omega,by omega⟩ ⟨by omega,by omega⟩ hx hy
   refine aE (((2 * (i:Int)+1+1)).toNat,(cs.set ((i:Int)).toNat (aF y)).set ((2 * (i:Int)+1+1)).toNat (aF x),(l.set ((i:Int)).toNat y).set ((2 * (i:Int)+1+1)).toNat x) rfl ⟨by rw [show ((((2 * (i:Int)+1+1)).toNat:Nat):Int)=(2 * (i:Int)+1+1) by omega];rfl,trivial⟩ ⟨by dsimp only;omega,hs.1,hs.2.trans hpm⟩ (by dsimp only;omega) (fun σ w h=>?_)
   have h:=h.perm (List.Perm.swap ..)
   simpa [hst,zV,pz,List.length_set] using h
  ·clear h3
   repeat' (first|refine ae ?_|refine a6 ?_|refine aq ?_|refine a8 ?_|refine LR a7 LL ?_)
   obtain ⟨y,hy,hyc⟩:=hok.get (a:=(2 * (i:Int)+1)) (by omega) (by omega)
   refine dz 0 [(b,.box cs 3)] [(p,.box [.sc (.slice (some ⟨b,0,none⟩) l.length cs.length)] 423)] pJ (ck a7 rfl) rfl rfl rfl rfl (List.Perm.swap ..) (mf (x:=y) (y:=x) ⟨by omega,by omega⟩ ⟨by omega,by omega⟩ hyc hxc) rfl rfl fun c L1 ⟨hc,hL⟩=>?_
   subst hc;subst hL
   repeat' (first|refine a8 ?_|refine aa ?_|refine LR a7 LL ?_)
   refine aB rfl (fun h5=>?_) (fun h5=>?_)
   ·repeat' (first|refine ae ?_|refine a6 ?_|refine am ?_|refine aO ?_|refine a8 ?_|refine av ?_|refine aC ?_|refine dN rfl ?_|refine aA ?_|refine aa ?_|refine LR a7 LL ?_)
    refine br (b8 (List.Perm.swap ..)) ?_
    exact MA LL ⟨cs,l,rfl,hok,hpm⟩
   repeat' (first|refine ae ?_|refine a6 ?_|refine aq ?_|refine a8 ?_|refine LR a7 LL ?_)
   refine bq (b8 (List.Perm.swap ..)) ?_
   refine dz 0 [(b,.box cs 3)] [(p,.box [.sc (.slice (some ⟨b,0,none⟩) l.length cs.length)] 423)] pK (ck a7 rfl) rfl rfl rfl rfl (List.Perm.swap ..) (mB (x:=x) (y:=y) ⟨by omega,by omega⟩ ⟨by omega,by omega⟩ hxc hyc hok.2.1) rfl rfl fun c L1 hL=>?_
   subst hL
   repeat' (first|refine a6 ?_|refine a8 ?_|refine aP ?_|refine aa ?_|refine LR a7 LL ?_)
   have hs:=hok.swap (a:=i) (e:=(2 * (i:Int)+1)) ⟨by omega,by omega⟩ ⟨by omega,by omega⟩ hx hy
   refine aE (((2 * (i:Int)+1)).toNat,(cs.set ((i:Int)).toNat (aF y)).set ((2 * (i:Int)+1)).toNat (aF x),(l.set ((i:Int)).toNat y).set ((2 * (i:Int)+1)).toNat x) rfl ⟨by rw [show ((((2 * (i:Int)+1)).toNat:Nat):Int)=(2 * (i:Int)+1) by omega];rfl,trivial⟩ ⟨by dsimp only;omega,hs.1,hs.2.trans hpm⟩ (by dsimp only;omega) (fun σ w h=>?_)
   have h:=h.perm (List.Perm.swap ..)
   simpa [hst,zV,pz,List.length_set] using h
 ·have h2':¬(2 * (i:Int)+1+1 < n):=My (by simpa using h2)
  repeat' (first|refine ae ?_|refine a6 ?_|refine aq ?_|refine a8 ?_|refine aa ?_|refine LR a7 LL ?_|refine MC LN ?_|refine bo rfl ?_)
  obtain ⟨y,hy,hyc⟩:=hok.get (a:=(2 * (i:Int)+1)) (by omega) (by omega)
  refine dz 0 [(b,.box cs 3)] [(p,.box [.sc (.slice (some ⟨b,0,none⟩) l.length cs.length)] 423)] pJ (ck a7 rfl) rfl rfl rfl rfl (List.Perm.swap ..) (mf (x:=y) (y:=x) ⟨by omega,by omega⟩ ⟨by omega,by omega⟩ hyc hxc) rfl rfl fun c L1 ⟨hc,hL⟩=>?_
  subst hc;subst hL
  repeat' (first|refine a8 ?_|refine aa ?_|refine LR a7 LL ?_)
  refine aB rfl (fun h5=>?_) (fun h5=>?_)
  ·repeat' (first|refine ae ?_|refine a6 ?_|refine am ?_|refine aO ?_|refine a8 ?_|refine av ?_|refine aC ?_|refine dN rfl ?_|refine aA ?_|refine aa ?_|refine LR a7 LL ?_)
   refine br (b8 (List.Perm.swap ..)) ?_
   exact MA LL ⟨cs,l,rfl,hok,hpm⟩
  repeat' (first|refine ae ?_|refine a6 ?_|refine aq ?_|refine a8 ?_|refine LR a7 LL ?_)
  refine bq (b8 (List.Perm.swap ..)) ?_
  refine dz 0 [(b,.box cs 3)] [(p,.box [.sc (.slice (some ⟨b,0,none⟩) l.length cs.length)] 423)] pK (ck a7 rfl) rfl rfl rfl rfl (List.Perm.swap ..) (mB (x:=x) (y:=y) ⟨by omega,by omega⟩ ⟨by omega,by omega⟩ hxc hyc hok.2.1) rfl rfl fun c L1 hL=>?_
  subst hL
  repeat' (first|refine a6 ?_|refine a8 ?_|refine aP ?_|refine aa ?_|refine LR a7 LL ?_)
  have hs:=hok.swap (a:=i) (e:=(2 * (i:Int)+1)) ⟨by omega,by omega⟩ ⟨by omega,by omega⟩ hx hy
  refine aE (((2 * (i:Int)+1)).toNat,(cs.set ((i:Int)).toNat (aF y)).set ((2 * (i:Int)+1)).toNat (aF x),(l.set ((i:Int)).toNat y).set ((2 * (i:Int)+1)).toNat x) rfl ⟨by rw [show ((((2 * (i:Int)+1)).toNat:Nat):Int)=(2 * (i:Int)+1) by omega];rfl,trivial⟩ ⟨by dsimp only;omega,hs.1,hs.2.trans hpm⟩ (by dsimp only;omega) (fun σ w h=>?_)
  have h:=h.perm (List.Perm.swap ..)
  simpa [hst,zV,pz,List.length_set] using h
theorem Jz (p b:Nat) (cs0:List AV) (l0:List Int) (h:nG (some (b,cs0)) l0) (j0:Nat) (hj0:j0 < l0.length) (hl:l0.length≤1000000):AC Tryz.prog 348 [HI p,aF j0] (hst p (some (b,cs0)) l0) fun _ L=>∃cs' l',L=hst p (some (b,cs')) l'∧nG (some (b,cs')) l'∧l'.Perm l0:=by
 refine aI Tryz.func348 rfl Tryz.ntmps348 rfl fun B=>?_
 repeat' (first|refine ar ?_)
 refine aN [0] (α:=Nat×List AV×List Int) (fun x=>[(1,aF x.1)]) (fun x=>x.1 < l0.length∧nG (some (b,x.2.1)) x.2.2∧x.2.2.Perm l0) (fun x=>hst p (some (b,x.2.1)) x.2.2) (fun x=>x.1) (j0,cs0,l0) rfl ⟨rfl,trivial⟩ ⟨hj0,h,Mp _⟩ (fun _ _ h=>h) ?_
 rintro ⟨j,cs,l⟩ ⟨hi,hok,hpm⟩
 dsimp only at hi hok hpm ⊢
 have hll:=hpm.length_eq
 unfold hst pz zV
 dsimp only
 try dsimp only [Mt,Ms,Mr,Mn]
 repeat' (first|refine ae ?_|refine a6 ?_|refine ar ?_|refine LR a7 LL ?_|(apply aY;refine aX ?_)|fail)
 refine aX ?_ (Gz (n:=j) rfl rfl rfl (by omega))
 obtain ⟨x,hx,hxc⟩:=hok.get (a:=j) (by omega) (by omega)
 obtain ⟨y,hy,hyc⟩:=hok.get (a:=(((j - 1) / 2:Nat):Int)) (by omega) (by omega)
 repeat' (first|refine ae ?_|refine a6 ?_|refine a8 ?_|refine aa ?_|refine LR a7 LL ?_)
 refine MD LM (fun h2=>?_) (fun h2=>?_)
 ·have h2':=My h2
  repeat' (first|refine LR a7 LL ?_|refine MB LL ?_)
  refine dz 0 [(b,.box cs 3)] [(p,.box [.sc (.slice (some ⟨b,0,none⟩) l.length cs.length)] 423)] pJ (ck a7 rfl) rfl rfl rfl rfl (List.Perm.swap ..) (mf (x:=x) (y:=y) ⟨by omega,by omega⟩ ⟨by omega,by omega⟩ hxc hyc) rfl rfl fun c L1 ⟨hc,hL⟩=>?_
  subst hc;subst hL
  refine bq (b8 (List.Perm.swap ..)) ?_
  repeat' (first|refine a8 ?_|refine aa ?_|refine LR a7 LL ?_|refine MB LL ?_)
  refine aB rfl (fun h3=>?_) (fun h3=>?_)
  ·repeat' (first|refine aO ?_|refine av ?_|refine aC ?_|refine dN rfl ?_|refine aA ?_)
   exact bT rfl ⟨cs,l,rfl,hok,hpm⟩
  repeat' (first|refine ae ?_|refine a6 ?_|refine aq ?_|refine a8 ?_|refine LR a7 LL ?_)
  refine dz 0 [(b,.box cs 3)] [(p,.box [.sc (.slice (some ⟨b,0,none⟩) l.length cs.length)] 423)] pK (ck a7 rfl) rfl rfl rfl rfl (List.Perm.swap ..) (mB (x:=y) (y:=x) ⟨by omega,by omega⟩ ⟨by omega,by omega⟩ hyc hxc hok.2.1) rfl rfl fun c L1 hL=>?_
  subst hL
  repeat' (first|refine a6 ?_|refine a8 ?_|refine aP ?_|refine aa ?_|refine LR a7 LL ?_)
  have hs:=hok.swap (a:=(((j - 1) / 2:Nat):Int)) (e:=j) ⟨by omega,by omega⟩ ⟨by omega,by omega⟩ hy hx
  refine aE ((j - 1) / 2,(cs.set (((j - 1) / 2:Nat):Int).toNat (aF x)).set (j:Int).toNat (aF y),(l.set (((j - 1) / 2:Nat):Int).toNat x).set (j:Int).toNat y) rfl ⟨rfl,trivial⟩ ⟨by dsimp only;omega,hs.1,hs.2.trans hpm⟩ (by dsimp only;omega) (fun σ w h=>?_)
  have h:=h.perm (List.Perm.swap ..)
  simpa [hst,zV,pz,List.length_set] using h
 ·repeat' (first|refine aO ?_|refine a8 ?_|refine av ?_|refine aC ?_|refine dN rfl ?_|refine aA ?_|refine aa ?_|refine LR a7 LL ?_|refine MC LN ?_|refine bI rfl ?_)
  exact bT rfl ⟨cs,l,rfl,hok,hpm⟩
theorem HK (p b:Nat) (cs:List AV) (l:List Int) (h:nG (some (b,cs)) l) (h0:0 < l.length) (hl:l.length≤1000000):AC Tryz.prog 390 [.sc (.pointer (some ⟨p,0,none⟩))] (hst p (some (b,cs)) l) fun c L=>∃z l',c= .sc (.iface 3 (.int .i64 z))∧L=hst p (some (b,cs)) l'∧nG (some (b,cs)) l'∧l=l'++[z]:=by
 refine aI Tryz.func390 rfl Tryz.ntmps390 rfl fun B=>?_
 unfold hst pz zV
 dsimp only
 obtain ⟨z,hz,hzc⟩:=h.get (a:=(l.length:Int) - 1) (by omega) (by omega)
 have hcl:=h.2.1
 have hc1:=h.2.2
 repeat' (first|refine ae ?_|refine a6 ?_|refine a8 ?_|refine aa ?_|refine LR a7 LL ?_|(apply bL;first|refine LV a7 0 LO ?_|refine LV a7 1 LO ?_|refine LV a7 2 LO ?_|refine LV a7 3 LO ?_|refine LW a7 0 LO ?_|refine LW a7 1 LO ?_|refine LW a7 2 LO ?_|refine LZ a7 1 LM (by assumption) rfl ?_|refine LZ a7 0 LM (by assumption) rfl ?_|fail)|(apply aY;refine aX ?_)|(apply aL;first|refine aK a7 ?_|refine aH a7 ?_)|fail)
 refine C8 a7 (l.length - 1) rfl rfl rfl (by omega) (by omega) (by omega) rfl ?_
 repeat' (first|refine ae ?_|refine a6 ?_|refine a8 ?_|refine aa ?_|refine LR a7 LL ?_|(apply aU;first|refine LU a7 0 LP ?_|refine LU a7 1 LP ?_|refine LU a7 2 LP ?_|refine LU a7 3 LP ?_|fail))
 refine kG (by kernel_rfl) rfl rfl ?_
 repeat' (first|refine am ?_|refine a8 ?_|refine aa ?_|refine LR a7 LL ?_)
 have hlast:l.take (l.length - 1)++[z]=l:=by
  have h1:l.take (l.length - 1+1)=l:=List.take_of_length_le (by omega)
  rw [List.take_add_one,show l[l.length - 1]?=some z by rw [←hz];congr 1;omega] at h1
  exact h1
 have hlen:(l.take (l.length - 1)).length=l.length - 1:=by rw [List.length_take];omega
 refine MA LL ⟨z,l.take (l.length - 1),rfl,?_,⟨?_,by rw [hlen];omega,hc1⟩,hlast.symm⟩
 ·rw [hlen]
  rfl
 ·rw [hlen,List.map_take,←h.1,List.take_take]
  congr 1
  omega
theorem F4 (p:Nat) (k:Option (Nat×List AV)) (l:List Int) (z:Int) (h:nG k l) (hl:l.length≤1000000):AC Tryz.prog 391 [.sc (.pointer (some ⟨p,0,none⟩)),.sc (.iface 3 (.int .i64 z))] (hst p k l) fun _ L=>∃b cs,L=hst p (some (b,cs)) (l++[z])∧nG (some (b,cs)) (l++[z]):=by
 refine aI Tryz.func391 rfl Tryz.ntmps391 rfl fun B=>?_
 unfold hst pz zV
 cases k with
 | none=>
  have hl0:l=[]:=h
  subst hl0
  dsimp only
  repeat' (first|fail)
  refine bB 8 [(0,.v),(1,.v),(2,.v),(3,.l),(4,.v),(5,.v),(6,.v),(7,.e)] none ?_ trivial rfl (by kernel_rfl) (by kernel_rfl) (by kernel_rfl) mixed (by kernel_rfl) rfl
  repeat' (first|refine aJ ?_|refine bw a7 ?_|refine cn a7 0 rfl rfl rfl rfl (by first|trivial|rfl) ?_)
  refine tS (by kernel_rfl) rfl trivial ?_
  repeat' (first|refine aJ ?_|refine kU a7 ?_|fail)
  refine yt a7 rfl rfl rfl rfl rfl rfl trivial fun b' cs' h1 h2=>?_
  repeat' (first|fail)
  refine MG [4,11] LL ?_
  repeat' (first|refine aa ?_|refine LR a7 LL ?_|(apply aU;first|refine LU a7 0 LP ?_|refine LU a7 1 LP ?_|refine LU a7 2 LP ?_|refine LU a7 3 LP ?_|fail))
  exact br (b8 (List.Perm.swap ..)) (bT rfl ⟨b',cs',rfl,h1,h2,h2⟩)
 | some q=>
  obtain ⟨b,cs⟩:=q
  dsimp only
  repeat' (first|fail)
  refine bB 8 [(0,.v),(1,.v),(2,.v),(3,.l),(4,.v),(5,.v),(6,.v),(7,.e)] none ?_ trivial rfl (by kernel_rfl) (by kernel_rfl) (by kernel_rfl) mixed (by kernel_rfl) rfl
  repeat' (first|refine aJ ?_|refine bw a7 ?_|refine cn a7 0 rfl rfl rfl rfl (by first|trivial|rfl) ?_)
  refine tS (by kernel_rfl) rfl trivial ?_
  repeat' (first|refine aJ ?_|refine kU a7 ?_|fail)
  refine yr a7 1 rfl rfl rfl rfl rfl rfl rfl h.2.1 (by omega) (by omega) trivial fun b' cs' h1 h2=>?_
  repeat' (first|fail)
  refine MG [4,11] LL ?_
  repeat' (first|refine aa ?_|refine LR a7 LL ?_|(apply aU;first|refine LU a7 0 LP ?_|refine LU a7 1 LP ?_|refine LU a7 2 LP ?_|refine LU a7 3 LP ?_|fail))
  refine br (b8 (List.Perm.swap ..)) (bT rfl ⟨b',cs',?_,?_,by simpa using h2,by omega⟩)
  ·rw [List.length_append]
   rfl
  ·rw [List.length_append,List.map_append,←h.1]
   exact h1
theorem gT (p b:Nat) (cs:List AV) (l:List Int):hst p (some (b,cs)) l=[(p,.box [.sc (.slice (some ⟨b,0,none⟩) l.length cs.length)] 423),(b,.box cs 3)]:=rfl
set_option maxHeartbeats 1000000 in
theorem BG (p:Nat) (k:Option (Nat×List AV)) (l:List Int) (z:Int) (h:nG k l) (hl:l.length < 1000000):AC Tryz.prog 312 [HI p,.sc (.iface 3 (.int .i64 z))] (hst p k l) fun _ L=>∃b cs l',L=hst p (some (b,cs)) l'∧nG (some (b,cs)) l'∧l'.Perm (l++[z]):=by
 refine aI Tryz.func312 rfl Tryz.ntmps312 rfl fun B=>?_
 repeat' (first|refine ae ?_|refine a6 ?_|refine LR a7 LL ?_)
 refine ul (hst p k l) [] Hn rfl rfl (by rw [List.append_nil]) (F4 p k l z h (by omega)) rfl rfl fun c L1 ⟨b,cs,hL,hok⟩=>?_
 subst hL
 rw [List.append_nil,gT]
 have hll:(l++[z]).length=l.length+1:=by simp
 repeat' (first|refine a6 ?_|refine a8 ?_|refine aa ?_|refine LR a7 LL ?_)
 refine dz 0 [] [(p,.box [.sc (.slice (some ⟨b,0,none⟩) (l++[z]).length cs.length)] 423),(b,.box cs 3)] BW (ck a7 rfl) rfl rfl rfl rfl (Mp _) (vZ _ (l++[z]).length _ _ rfl) rfl rfl fun c L1 hc=>?_
 have hc:c=aF (l++[z]).length:=hc
 subst hc
 refine bq (dE (List.sublist_append_right ..)) ?_
 rw [hll]
 repeat' (first|(apply aY;refine aX ?_)|fail)
 have hup:=Jz p b cs (l++[z]) hok l.length (by rw [hll];omega) (by rw [hll];omega)
 rw [gT,hll] at hup
 rw [show (((l.length+1:Nat):Int) - 1)=(l.length:Int) by omega]
 refine aW _ [] hup rfl rfl (by rw [List.append_nil]) rfl fun c L1 ⟨cs',l',hL,hok',hpm⟩=>?_
 subst hL
 rw [List.append_nil]
 repeat' (first|refine aa ?_)
 exact bT rfl ⟨b,cs',l',rfl,hok',hpm⟩
set_option maxHeartbeats 1000000 in
theorem EJ (p b:Nat) (cs:List AV) (l:List Int) (h:nG (some (b,cs)) l) (h0:0 < l.length) (hl:l.length≤1000000):AC Tryz.prog 311 [HI p] (hst p (some (b,cs)) l) fun c L=>∃z cs' l',c= .sc (.iface 3 (.int .i64 z))∧L=hst p (some (b,cs')) l'∧nG (some (b,cs')) l'∧(l'++[z]).Perm l:=by
 refine aI Tryz.func311 rfl Tryz.ntmps311 rfl fun B=>?_
 rw [gT]
 repeat' (first|refine ae ?_|refine a6 ?_|refine a8 ?_|refine aa ?_|refine LR a7 LL ?_)
 refine dz 0 [] [(p,.box [.sc (.slice (some ⟨b,0,none⟩) l.length cs.length)] 423),(b,.box cs 3)] BW (ck a7 rfl) rfl rfl rfl rfl (Mp _) (vZ _ l.length _ _ rfl) rfl rfl fun c L1 hc=>?_
 have hc:c=aF l.length:=hc
 subst hc
 refine bq (dE (List.sublist_append_right ..)) ?_
 repeat' (first|refine ae ?_|refine a6 ?_|refine a8 ?_|refine aa ?_|refine LR a7 LL ?_|(apply aY;refine aX ?_)|fail)
 obtain ⟨x,hx,hxc⟩:=h.get (a:=0) (by omega) (by omega)
 obtain ⟨y,hy,hyc⟩:=h.get (a:=(l.length:Int) - 1) (by omega) (by omega)
 refine dz 0 [(b,.box cs 3)] [(p,.box [.sc (.slice (some ⟨b,0,none⟩) l.length cs.length)] 423)] pK (ck a7 rfl) rfl rfl rfl rfl (List.Perm.swap ..) (mB (x:=x) (y:=y) ⟨by omega,by omega⟩ ⟨by omega,by omega⟩ hxc hyc h.2.1) rfl rfl fun c L1 hL=>?_
 subst hL
 have hs:=h.swap (a:=0) (e:=(l.length:Int) - 1) ⟨by omega,by omega⟩ ⟨by omega,by omega⟩ hx hy
 have hsl:=hs.2.length_eq
 refine bq (b8 (List.Perm.swap ..)) ?_
 repeat' (first|refine ae ?_|refine a6 ?_|refine a8 ?_|refine aa ?_|refine LR a7 LL ?_)
 have hdn:=xe p b _ _ hs.1 0 (l.length - 1) (by rw [hsl];omega) (by rw [hsl];omega) (by omega)
 rw [gT,hsl,show (((l.length - 1:Nat)):Int)=(l.length:Int) - 1 by omega] at hdn
 rw [show cs.length=((cs.set (0:Int).toNat (aF y)).set ((l.length:Int) - 1).toNat (aF x)).length by simp]
 refine aW _ [] hdn rfl rfl (by rw [List.append_nil]) rfl fun c L1 ⟨cs',l',hL,hok',hpm⟩=>?_
 subst hL
 rw [List.append_nil]
 repeat' (first|refine ae ?_|refine a6 ?_|refine a8 ?_|refine aa ?_|refine LR a7 LL ?_)
 have hl':=hpm.length_eq
 refine ul (hst p (some (b,cs')) l') [] J0 rfl rfl (by rw [List.append_nil]) (HK p b cs' l' hok' (by omega) (by omega)) rfl rfl fun c L1 ⟨z,l2,hc,hL,hok2,he⟩=>?_
 subst hc;subst hL
 rw [List.append_nil]
 repeat' (first|refine am ?_|refine a8 ?_|refine aa ?_|refine LR a7 LL ?_)
 refine MA LL ⟨z,cs',l2,rfl,rfl,hok2,?_⟩
 rw [←he]
 exact hpm.trans hs.2
theorem Hf {k:Option (Nat×List AV)} {l:List Int} (h:nG k l):∃A c,zV k l.length= .slice A l.length c:=by
 cases k with
 | none=>rw [show l=[] from h];exact ⟨_,_,rfl⟩
 | some q=>exact ⟨_,_,rfl⟩
section
variable {P:Program} {fr:bP} {d:Option Tmp} {ty t t':TypeId} {pos:String} {af:Array Edge} {g:Option (Nat×Bool)} {x y:Operand}
theorem DH {n:Nat} (hx:bc fr x=some (aF n)) (hy:bc fr y=some (aF 2)) (hn:n≤9223372036854775807):Av P ⟨d,.binOp .quo t x y t',ty,pos,af,g⟩ fr (aF ((n / 2:Nat):Int)):=by
 have h:=FP (P:=P) (d:=d) (ty:=ty) (pos:=pos) (af:=af) (g:=g) (t:=t) (t':=t') hx hy (by omega)
 have e:IntKind.i64.wrap ((n:Int).tdiv 2)=((n / 2:Nat):Int):=by
  have:(n:Int).tdiv 2=((n / 2:Nat):Int):=by
   rw [Int.tdiv_eq_ediv_of_nonneg (by omega)]
   simp
  rw [this,pv (by omega)]
 rwa [e] at h
end
set_option maxHeartbeats 1000000 in
theorem BF (p:Nat) (k:Option (Nat×List AV)) (l:List Int) (h:nG k l) (hl:l.length≤1000000):AC Tryz.prog 310 [HI p] (hst p k l) fun _ L=>∃k' l',L=hst p k' l'∧nG k' l'∧l'.Perm l:=by
 refine aI Tryz.func310 rfl Tryz.ntmps310 rfl fun B=>?_
 obtain ⟨A,cc,hA⟩:=Hf h
 repeat' (first|refine ae ?_|refine a6 ?_|refine LR a7 LL ?_)
 refine dz 0 [] (hst p k l) BW (ck a7 rfl) rfl rfl rfl rfl (Mp _) (vZ _ l.length cc A hA) rfl rfl fun c L1 hc=>?_
 have hc:c=aF l.length:=hc
 subst hc
 refine bq (dE (List.sublist_append_right ..)) ?_
 repeat' (first|refine ae ?_|refine a6 ?_|refine a8 ?_|refine aa ?_|refine LR a7 LL ?_)
 refine aX ?_ (DH (n:=l.length) rfl rfl (by omega))
 repeat' (first|refine ar ?_|refine a8 ?_|refine aa ?_|refine LR a7 LL ?_|(apply aY;refine aX ?_)|fail)
 refine aN [0,2] (α:=Nat×Option (Nat×List AV)×List Int) (fun x=>[(3,aF ((x.1:Int) - 1))]) (fun x=>x.1≤l.length / 2∧nG x.2.1 x.2.2∧x.2.2.Perm l) (fun x=>hst p x.2.1 x.2.2) (fun x=>x.1) (l.length / 2,k,l) rfl ⟨rfl,trivial⟩ ⟨Nat.le_refl _,h,Mp _⟩ (fun _ _ h=>h) ?_
 rintro ⟨m,k,l'⟩ ⟨hm,hok,hpm⟩
 dsimp only at hm hok hpm ⊢
 have hll:=hpm.length_eq
 try dsimp only [Mt,Ms,Mr,Mn]
 repeat' (first|refine ae ?_|refine a6 ?_|refine a8 ?_|refine aa ?_|refine LR a7 LL ?_)
 refine aB rfl (fun h2=>?_) (fun h2=>?_)
 ·have h2':=Mz h2
  cases k with
  | none=>rw [show l'=[] from hok] at hll;simp at hll;omega
  | some q=>
   obtain ⟨b,cs⟩:=q
   repeat' (first|refine ae ?_|refine a6 ?_|refine ar ?_|refine aq ?_|refine a8 ?_|refine LR a7 LL ?_)
   have hdn:=xe p b cs l' hok (m - 1) l.length (by omega) (by omega) (by omega)
   rw [show (((m - 1:Nat)):Int)=(m:Int) - 1 by omega] at hdn
   refine aW _ [] hdn rfl rfl (by rw [List.append_nil]) rfl fun c L1 ⟨cs',l2,hL,hok',hpm'⟩=>?_
   subst hL
   rw [List.append_nil]
   repeat' (first|refine a6 ?_|refine a8 ?_|refine aP ?_|refine aa ?_|refine LR a7 LL ?_|(apply aY;refine aX ?_)|fail)
   exact aE (m - 1,some (b,cs'),l2) rfl ⟨by rw [show (((m - 1:Nat)):Int)=(m:Int) - 1 by omega];rfl,trivial⟩ ⟨by dsimp only;omega,hok',hpm'.trans hpm⟩ (by dsimp only;omega) (fun _ _ h=>h)
 ·repeat' (first|refine aO ?_|refine av ?_|refine aC ?_|refine aA ?_)
  exact bT rfl ⟨k,l',rfl,hok,hpm⟩
end Go.Proofs.YtamjlkdanllgjaaGreatDoor
namespace Go.Proofs.YtamjlkdanllgjaaGreatDoor
open Go.RowKit
attribute [local irreducible] AT bz AX AO Av Kt aZ cY DA cu
set_option maxRecDepth 8000
def nj (l:List ByteArray) (s:ByteArray):Bool:=l.any fun t=>decide (t=s)
def FS (f:aS) (n:Int):Bool:=match f.Lookups[n.toNat]? with
 | some l=>decide (0≤n∧(l.Kind=1∨l.Kind=2∨l.Kind=3∨l.Kind=4))
 | none=>false
set_option maxRecDepth 8000
def CU (l:List (List Int)):Nat:=(l.map fun q=>1+q.length).sum
def Js (r:bh):Nat:=r.Out.length+r.Calls.length+(CU r.Back+CU r.In+CU r.Ahead)
def HV (l:List bh):Nat:=l.length+(l.map Js).sum
def He (g:bn):Nat:=g.Points.length+g.Parts.length+g.Anchors.length+g.Deltas.length+g.Hint.length+g.Name.size / 100
def featN (t:bQ):Nat:=t.Lookups.length+t.Name.size / 100
def IM (f:aS):Nat:=f.Glyphs.length+f.Chars.length+f.Lookups.length+f.Features.length+f.Axes.length+f.Regions.length+f.Funcs.length+f.Cvt.length+(f.Glyphs.map He).sum+(f.Lookups.map fun l=>HV l.Rules).sum+(f.Funcs.map (·.length)).sum+(f.Features.map featN).sum+(f.Regions.map (·.length)).sum
def Ij (f:aS):Prop:=IM f≤2000
section
variable {f:aS} (hs:Ij f)
include hs
end
inductive tl (f:aS) (fs:List ByteArray):Int→Prop
 | base {t:bQ} {n:Int} (h:t∈f.Features) (hn:nj fs t.Name=true) (hm:n∈t.Lookups) (h0:0≤n) (h1:n < f.Lookups.length):tl f fs n
 | call {m:Int} {l:b6} {r:bh} {c:jr} (h:tl f fs m) (hl:f.Lookups[m.toNat]?=some l) (hk:l.Kind=4) (hr:r∈l.Rules) (hc:c∈r.Calls) (hn:FS f c.Lookup=true):tl f fs c.Lookup
open Classical in
noncomputable def Kp (f:aS) (fs:List ByteArray):List Int:=((List.range f.Lookups.length).map Int.ofNat).filter fun z=>decide (tl f fs z)
theorem f7 {l:List Int} {n:Nat} (h:l.Nodup) (hi:∀z∈l,0≤z∧z < n):l.length≤n:=by
 induction n generalizing l with
 | zero=>
  cases l with
  | nil=>exact Nat.zero_le _
  | cons a l=>have:=hi a (List.mem_cons_self ..);omega
 | succ n ih=>
  by_cases hm:(n:Int)∈l
  ·have h1:=ih (l:=l.erase n) (h.erase _) fun z hz=>by
    have:=(h.mem_erase_iff).1 hz
    have:=hi z this.2
    omega
   rw [List.length_erase_of_mem hm] at h1
   omega
  ·have:=ih h fun z hz=>by
    have:=hi z hz
    have:z≠n:=fun e=>hm (e▸hz)
    omega
   omega
end Go.Proofs.YtamjlkdanllgjaaGreatDoor
namespace Go.Proofs.YtamjlkdanllgjaaGreatDoor
open Go.RowKit
attribute [local irreducible] AT bz AX AO Av Kt aZ cY DA cu
set_option maxRecDepth 8000
def JZ (fs:List ByteArray) (l:List bQ):List Int:=(l.map fun t=>if nj fs t.Name then t.Lookups else []).flatten
def CallsIn (f:aS) (l:List Int) (cs:List jr):Prop:=∀c∈cs,FS f c.Lookup=true→c.Lookup∈l
def DB (f:aS) (l:List Int) (rs:List bh):Prop:=∀r∈rs,CallsIn f l r.Calls
structure Ky (f:aS) (fs:List ByteArray) (l:List Int) (i:Nat):Prop where
 reach:∀z∈l,tl f fs z
 nodup:l.Nodup
 base:∀z∈JZ fs f.Features,0≤z→z < f.Lookups.length→z∈l
 done:∀j < i,∀z,l[j]?=some z→∀x,f.Lookups[z.toNat]?=some x→x.Kind=4→DB f l x.Rules
set_option maxRecDepth 8000
def KG (l:List Int) (n:Nat):List AV:=(List.range n).map fun (i:Nat)=>cw (l.contains (i:Int))
def GL (n:Nat) (l:List Int) (z:Int):List Int:=if 0≤z∧z < n∧z∉l then l++[z] else l
def Lh (n:Nat) (l ns:List Int):List Int:=ns.foldl (GL n) l
structure KC (n:Nat) (l:List Int):Prop where
 nodup:l.Nodup
 dom:∀z∈l,0≤z∧z < n
abbrev Ld (p:Nat):AV:= .sc (.pointer (some ⟨p,0,none⟩))
end Go.Proofs.YtamjlkdanllgjaaGreatDoor
namespace Go.Proofs.YtamjlkdanllgjaaGreatDoor
def co (n:Nat):List Int:=(List.range n).map fun (i:Nat)=>(i:Int)
theorem eP {n:Nat} {z:Int}:z∈co n↔0≤z∧z < n:=by
 simp only [co,List.mem_map,List.mem_range]
 constructor
 ·rintro ⟨i,hi,rfl⟩;omega
 ·rintro ⟨h0,h1⟩;exact ⟨z.toNat,by omega,by omega⟩
theorem jp (n:Nat):(co n).Nodup:=by
 unfold co List.Nodup
 rw [List.pairwise_map]
 exact List.nodup_range.imp fun h e=>h (by omega)
theorem ew (n:Nat):(co n).length=n:=by simp [co]
theorem iU {n i:Nat} (h:i < n):(co n)[i]?=some (i:Int):=by simp [co,h]
theorem rT (n:Nat):co (n+1)=co n++[(n:Int)]:=by
 unfold co
 rw [List.range_succ,List.map_append]
 rfl
def ci (pr:Int→List Int) (gs:List Int) (z:Int):List Int:=gs.flatMap fun g=>((pr g).filter fun p=>decide (p=z)).map fun _=>g
theorem l8 (pr:Int→List Int) (z g:Int):∀gs:List Int,gs.Nodup→(ci pr gs z).count g=if g∈gs then (pr g).count z else 0
 | [],_=>by simp [ci]
 | y::gs,h=>by
  have h':=List.nodup_cons.1 h
  have ih:=l8 pr z g gs h'.2
  unfold ci at ih ⊢
  rw [List.flatMap_cons,List.count_append,ih]
  by_cases e:y=g
  ·subst e
   rw [if_pos (List.mem_cons_self ..),if_neg h'.1,List.map_const',List.count_replicate_self,Nat.add_zero,List.count_eq_countP,List.countP_eq_length_filter]
   rfl
  ·rw [List.map_const',List.count_replicate,if_neg (by simpa using e),Nat.zero_add]
   by_cases hm:g∈gs
   ·rw [if_pos hm,if_pos (Mu _ hm)]
   ·rw [if_neg hm,if_neg (by simp [hm];exact fun h=>e h.symm)]
def kX (pr:Int→List Int) (T:List Int) (g:Int):Nat:=((pr g).filter fun p=>decide (p∉T)).length
theorem pQ (pr:Int→List Int) {T:List Int} {x:Int} (hx:x∉T) (g:Int):kX pr (T++[x]) g+(pr g).count x=kX pr T g:=by
 unfold kX
 induction pr g with
 | nil=>rfl
 | cons p l ih=>
  rw [List.filter_cons,List.filter_cons,List.count_cons]
  by_cases e:p=x
  ·subst e
   rw [if_neg (by simp),if_pos (decide_eq_true hx)]
   rw [if_pos (by simp),List.length_cons]
   omega
  ·have e1:decide (p∉T++[x])=decide (p∉T):=by simp [e]
   rw [e1]
   have e2:(p==x)=false:=by simpa using e
   rw [e2]
   simp only [Bool.false_eq_true,if_false]
   split
   ·simp only [List.length_cons];omega
   ·omega
theorem pR {pr:Int→List Int} {T:List Int} {g:Int}:kX pr T g=0↔∀p∈pr g,p∈T:=by
 unfold kX
 rw [List.length_eq_zero_iff,List.filter_eq_nil_iff]
 simp
def y1 (pr:Int→List Int) (T:List Int):Prop:=∀(i:Nat) (x:Int),T[i]?=some x→∀p∈pr x,p∈T.take i
theorem y1.snoc {pr:Int→List Int} {T:List Int} {x:Int} (h:y1 pr T) (hx:∀p∈pr x,p∈T):y1 pr (T++[x]):=by
 intro i y hy p hp
 by_cases hi:i < T.length
 ·rw [List.getElem?_append_left hi] at hy
  rw [List.take_append_of_le_length (by omega)]
  exact h i y hy p hp
 ·rw [List.getElem?_append_right (by omega)] at hy
  have hil:i - T.length=0:=by
   rcases Nat.eq_zero_or_pos (i - T.length) with h0 | h0
   ·exact h0
   ·rw [List.getElem?_eq_none (by simp;omega)] at hy;cases hy
  rw [hil] at hy
  simp at hy
  subst hy
  rw [show i=T.length by omega,List.take_left]
  exact hx p hp
structure mN (n:Nat) (pr:Int→List Int) (T R:List Int) (M:Int→Int):Prop where
 nodup:(T++R).Nodup
 dom:∀z∈T++R,0≤z∧z < n
 miss:∀g:Int,0≤g→g < n→M g=kX pr T g
 ready:∀g:Int,0≤g→g < n→(g∈T++R↔M g=0)
 topo:y1 pr T
structure qx (n:Nat) (pr:Int→List Int) (T:List Int) (x:Int) (us:List Int) (R:List Int) (M:Int→Int):Prop where
 nodup:(T++[x]++R).Nodup
 dom:∀z∈T++[x]++R,0≤z∧z < n
 miss:∀g:Int,0≤g→g < n→M g+us.count g=kX pr T g
 ready:∀g:Int,0≤g→g < n→(g∈T++[x]++R↔M g=0)
 topo:y1 pr (T++[x])
theorem mN.perm {n:Nat} {pr:Int→List Int} {T R R':List Int} {M:Int→Int} (h:mN n pr T R M) (hp:R'.Perm R):mN n pr T R' M:=by
 have hp':(T++R').Perm (T++R):=List.Perm.append_left T hp
 exact ⟨hp'.nodup_iff.2 h.nodup,fun z hz=>h.dom z (hp'.mem_iff.1 hz),h.miss,fun g h0 h1=>by rw [hp'.mem_iff];exact h.ready g h0 h1,h.topo⟩
theorem qx.perm {n:Nat} {pr:Int→List Int} {T R R' us:List Int} {x:Int} {M:Int→Int} (h:qx n pr T x us R M) (hp:R'.Perm R):qx n pr T x us R' M:=by
 have hp':(T++[x]++R').Perm (T++[x]++R):=List.Perm.append_left _ hp
 exact ⟨hp'.nodup_iff.2 h.nodup,fun z hz=>h.dom z (hp'.mem_iff.1 hz),h.miss,fun g h0 h1=>by rw [hp'.mem_iff];exact h.ready g h0 h1,h.topo⟩
theorem mN.pop {n:Nat} {pr:Int→List Int} {T R:List Int} {x:Int} {M:Int→Int} (h:mN n pr T (R++[x]) M):qx n pr T x [] R M:=by
 have hp:(T++[x]++R).Perm (T++(R++[x])):=by
  rw [List.append_assoc]
  exact List.Perm.append_left T List.perm_append_comm
 have hx:=h.dom x (by simp)
 refine ⟨hp.nodup_iff.2 h.nodup,fun z hz=>h.dom z (hp.mem_iff.1 hz),fun g h0 h1=>by simpa using h.miss g h0 h1,fun g h0 h1=>by rw [hp.mem_iff];exact h.ready g h0 h1,h.topo.snoc ?_⟩
 have h1:=(h.ready x hx.1 hx.2).1 (by simp)
 rw [h.miss x hx.1 hx.2] at h1
 exact pR.1 (by omega)
theorem ju {all:List Int} {j:Nat} {u:Int} (h:all[j]?=some u) (g:Int):(all.take (j+1)).count g=(all.take j).count g+if u=g then 1 else 0:=by
 rw [List.take_add_one,h,Option.toList_some,List.count_append]
 by_cases e:u=g
 ·subst e;simp
 ·rw [if_neg e,List.count_singleton,if_neg (by simpa using e)]
theorem qx.step {n:Nat} {pr:Int→List Int} {T R all:List Int} {x u:Int} {j:Nat} {M:Int→Int} (hall:∀g:Int,0≤g→g < n→all.count g=(pr g).count x) (hx:x∉T) (h:qx n pr T x (all.take j) R M) (hu:all[j]?=some u) (h0:0≤u) (h1:u < n):
  0 < M u∧qx n pr T x (all.take (j+1)) (if M u - 1=0 then R++[u] else R) (fun g=>if g=u then M u - 1 else M g):=by
 have hm:=h.miss u h0 h1
 have hlt:(all.take (j+1)).count u≤all.count u:=(List.take_sublist _ _).count_le u
 have hsn:=pQ pr hx u
 rw [ju hu,if_pos rfl,hall u h0 h1] at hlt
 have hpos:0 < M u:=by omega
 have hnot:u∉T++[x]++R:=fun hm'=>by have:=(h.ready u h0 h1).1 hm';omega
 refine ⟨hpos,?_⟩
 have hmiss:∀g:Int,0≤g→g < n→(if g=u then M u - 1 else M g)+((all.take (j+1)).count g:Int)=kX pr T g:=by
  intro g g0 g1
  rw [ju hu]
  by_cases e:g=u
  ·subst e
   rw [if_pos rfl,if_pos rfl]
   have:=h.miss g g0 g1
   omega
  ·rw [if_neg e,if_neg (fun q=>e q.symm)]
   have:=h.miss g g0 g1
   omega
 by_cases hz:M u - 1=0
 ·rw [if_pos hz]
  refine ⟨?_,fun z hz'=>?_,hmiss,fun g g0 g1=>?_,h.topo⟩
  ·rw [←List.append_assoc,List.nodup_append]
   refine ⟨h.nodup,by simp,fun a ha b hb=>?_⟩
   rw [List.mem_singleton.1 hb]
   exact fun e=>hnot (e▸ha)
  ·rw [←List.append_assoc] at hz'
   rcases Mo hz' with hz' | hz'
   ·exact h.dom z hz'
   ·rw [List.mem_singleton.1 hz'];exact ⟨h0,h1⟩
  ·rw [←List.append_assoc,List.mem_append,List.mem_singleton]
   by_cases e:g=u
   ·subst e;simp [hz]
   ·rw [if_neg e,h.ready g g0 g1]
    simp [e]
 ·rw [if_neg hz]
  refine ⟨h.nodup,h.dom,hmiss,fun g g0 g1=>?_,h.topo⟩
  by_cases e:g=u
  ·subst e
   rw [if_pos rfl]
   exact ⟨fun q=>absurd q hnot,fun q=>absurd q hz⟩
  ·rw [if_neg e]
   exact h.ready g g0 g1
theorem qx.done {n:Nat} {pr:Int→List Int} {T R all:List Int} {x:Int} {M:Int→Int} (hall:∀g:Int,0≤g→g < n→all.count g=(pr g).count x) (hx:x∉T) (h:qx n pr T x all R M):mN n pr (T++[x]) R M:=by
 refine ⟨h.nodup,h.dom,fun g h0 h1=>?_,h.ready,h.topo⟩
 have h2:=h.miss g h0 h1
 have h3:=pQ pr hx g
 rw [hall g h0 h1] at h2
 omega
structure i8 (n:Nat) (pr:Int→List Int) (T:List Int):Prop where
 nodup:T.Nodup
 dom:∀z∈T,0≤z∧z < n
 topo:y1 pr T
 full:∀g:Int,0≤g→g < n→(∀p∈pr g,p∈T)→g∈T
theorem mN.fin {n:Nat} {pr:Int→List Int} {T:List Int} {M:Int→Int} (h:mN n pr T [] M):i8 n pr T:=by
 have h1:=h.nodup
 have h2:=h.dom
 have h3:=h.ready
 rw [List.append_nil] at h1 h2 h3
 exact ⟨h1,h2,h.topo,fun g h0 h4 hp=>(h3 g h0 h4).2 (by rw [h.miss g h0 h4,pR.2 hp];rfl)⟩
theorem mN.start {n:Nat} {pr:Int→List Int} {M:Int→Int} (hM:∀g:Int,0≤g→g < n→M g=(pr g).length):mN n pr [] ((co n).filter fun g=>decide (M g=0)) M:=by
 refine ⟨by rw [Ms];exact (jp n).filter _,fun z hz=>?_,fun g h0 h1=>?_,fun g h0 h1=>?_,fun i x h=>by simp at h⟩
 ·rw [Ms,List.mem_filter,eP] at hz
  exact hz.1
 ·rw [hM g h0 h1]
  unfold kX
  rw [List.filter_eq_self.2 (by simp)]
 ·rw [Ms,List.mem_filter,eP,decide_eq_true_eq]
  exact ⟨fun h=>h.2,fun h=>⟨⟨h0,h1⟩,h⟩⟩
def jG (n:Nat) (pr:Int→List Int):Prop:=∃r:Int→Nat,∀g:Int,0≤g→g < n→∀p∈pr g,r p < r g
theorem i8.all {n:Nat} {pr:Int→List Int} {T:List Int} (h:i8 n pr T) (ha:jG n pr) (hp:∀g,∀p∈pr g,0≤p∧p < n):∀g:Int,0≤g→g < n→g∈T:=by
 obtain ⟨r,hr⟩:=ha
 have:∀(k:Nat) (g:Int),r g < k→0≤g→g < n→g∈T:=by
  intro k
  induction k with
  | zero=>intro g hk;exact absurd hk (Nat.not_lt_zero _)
  | succ k ih=>
   intro g hk h0 h1
   refine h.full g h0 h1 fun p hpp=>ih p ?_ (hp g p hpp).1 (hp g p hpp).2
   have:=hr g h0 h1 p hpp
   omega
 intro g h0 h1
 exact this (r g+1) g (by omega) h0 h1
theorem i8.len {n:Nat} {pr:Int→List Int} {T:List Int} (h:i8 n pr T):T.length≤n:=f7 h.nodup h.dom
theorem mn:∀(l T:List Int),l.Nodup→(∀x∈l,x∈T)→l.length≤T.length
 | [],_,_,_=>Nat.zero_le _
 | x::l,T,h,hs=>by
  have h':=List.nodup_cons.1 h
  have hx:=hs x (List.mem_cons_self ..)
  have:=mn l (T.erase x) h'.2 fun y hy=>(List.mem_erase_of_ne (fun e=>h'.1 (by rw [←e];exact hy))).2 (hs y (Mu _ hy))
  rw [List.length_erase_of_mem hx] at this
  have hpos:=List.length_pos_of_mem hx
  rw [List.length_cons]
  omega
theorem i8.len_all {n:Nat} {pr:Int→List Int} {T:List Int} (h:i8 n pr T) (ha:∀g:Int,0≤g→g < n→g∈T):T.length=n:=by
 refine Nat.le_antisymm h.len ?_
 have:=mn (co n) T (jp n) fun z hz=>by
  rw [eP] at hz
  exact ha z hz.1 hz.2
 rwa [ew] at this
theorem i8.all_of_len {n:Nat} {pr:Int→List Int} {T:List Int} (h:i8 n pr T) (hl:T.length=n):∀g:Int,0≤g→g < n→g∈T:=by
 intro g h0 h1
 apply Classical.byContradiction
 intro hn
 have:=f7 (l:=g::T) (n:=n) (List.nodup_cons.2 ⟨hn,h.nodup⟩) fun z hz=>by
  rcases List.mem_cons.1 hz with rfl | hz
  ·exact ⟨h0,h1⟩
  ·exact h.dom z hz
 rw [List.length_cons] at this
 omega
theorem i8.acyc {n:Nat} {pr:Int→List Int} {T:List Int} (h:i8 n pr T) (ha:∀g:Int,0≤g→g < n→g∈T):jG n pr:=by
 refine ⟨fun g=>T.idxOf g,fun g h0 h1 p hp=>?_⟩
 have hg:=ha g h0 h1
 have hi:=List.idxOf_lt_length_iff.2 hg
 have h2:=h.topo (T.idxOf g) g (by rw [Ia hi,List.getElem_idxOf]) p hp
 obtain ⟨j,hj⟩:=List.mem_iff_getElem?.1 h2
 rw [List.getElem?_take] at hj
 split at hj
 ·rename_i hlt
  dsimp only
  obtain ⟨hjl,hje⟩:=Mq hj
  have:T.idxOf p≤j:=by
   rw [←hje]
   have:=h.nodup.idxOf_getElem j hjl
   omega
  omega
 ·cases hj
end Go.Proofs.YtamjlkdanllgjaaGreatDoor
namespace Go.Proofs.YtamjlkdanllgjaaGreatDoor
open Go.RowKit
attribute [local irreducible] AT bz AX AO Av Kt aZ cY DA cu
set_option maxRecDepth 8000
theorem zM (f:aS) (n:Int):bD Tryz.prog 346 [cD f,aF n] (cw (kQ f n)):=by
 refine aI Tryz.func346 rfl Tryz.ntmps346 rfl fun B=>?_
 repeat' (first|refine ae ?_|refine a6 ?_|refine a8 ?_|refine aa ?_|refine LR a7 LL ?_|refine bi ?_|fail)
 refine di (t:=4) [] (kQ f n=true) rfl (fun Q' K=>?_) ?_
 ·repeat' (first|refine aa ?_|refine LR a7 LL ?_|refine MB LL ?_|refine MC LN ?_|refine MD LM (fun _=>?_) (fun _=>?_))
  all_goals exact K _ _ rfl rfl (by unfold kQ;simp_all <;> omega)
 repeat' (first|refine am ?_|refine a8 ?_)
 refine MA LL ?_
 simp
instance (f:aS) (n:Int):AD Tryz.prog 346 [cD f,aF n] (cw (kQ f n)):=⟨zM f n⟩
theorem zj (f:aS) (g:Int):bD Tryz.prog 309 [cD f,aF g] (.fn 345 [.iptr (bY f),.iptr [aF g]]):=by
 refine aI Tryz.func309 rfl Tryz.ntmps309 rfl fun B=>?_
 repeat' (first|refine ae ?_|refine a6 ?_|refine am ?_|refine a8 ?_|refine aa ?_|refine LR a7 LL ?_|refine bi ?_|fail)
 exact LY LM
instance (f:aS) (g:Int):AD Tryz.prog 309 [cD f,aF g] (.fn 345 [.iptr (bY f),.iptr [aF g]]):=⟨zj f g⟩
set_option maxHeartbeats 1000000 in
theorem F2 {α:Type} {σ0:bW} {l:Nat} (f:aS) (g:Nat) (gl:bn) (hg:f.Glyphs[g]?=some gl) (E:α→AL) (J:Nat→α→Prop)
  (hy:∀i x p,J i x→gl.Parts[i]?=some p→kQ f p.Glyph=true→AY Tryz.prog σ0 l [.agg (fG p)] (E x) fun c L=>c=cw true∧∃x',J (i+1) x'∧L=E x')
  (hs:∀i x p,J i x→gl.Parts[i]?=some p→kQ f p.Glyph=false→J (i+1) x) (x0:α) (h0:J 0 x0) (hlen:gl.Parts.length≤1000000):
  FF Tryz.prog σ0 345 [.sc (.func (.yield l) #[] #[]),.iptr (bY f),.iptr [aF g]] (E x0) fun _ L=>∃x,J gl.Parts.length x∧L=E x:=by
 refine vd Tryz.func345 rfl Tryz.ntmps345 rfl fun B hB=>?_
 have hgg:=c6 (c:=bK) hg
 repeat' (first|refine ae ?_|refine a6 ?_|refine ar ?_|refine a8 ?_|refine aa ?_|refine LR a7 LL ?_|(apply aL;first|refine aK a7 ?_|refine aH a7 ?_)|fail)
 refine aN [0,1,11,12] (α:=Nat×α) (fun y=>[(13,aF y.1)]) (fun y=>y.1≤gl.Parts.length∧J y.1 y.2) (fun y=>E y.2) (fun y=>gl.Parts.length - y.1) (0,x0) rfl ⟨rfl,trivial⟩ ⟨Nat.zero_le _,h0⟩ (fun _ _ h=>h) ?_
 rintro ⟨i,x⟩ ⟨hi,hj⟩
 dsimp only at hi hj ⊢
 try dsimp only [Mt,Ms,Mr,Mn]
 repeat' (first|refine ae ?_|refine a6 ?_|refine a8 ?_|refine aa ?_|refine LR a7 LL ?_)
 refine aB rfl (fun h=>?_) (fun h=>?_)
 ·have hil:i < gl.Parts.length:=by have:=Mz h;simp at this;omega
  obtain ⟨p,hp⟩:∃z,gl.Parts[i]?=some z:=⟨_,Ia hil⟩
  have hpg:=c6 (c:=fG) hp
  repeat' (first|refine ae ?_|refine a6 ?_|refine ar ?_|refine aq ?_|refine a8 ?_|refine aa ?_|refine LR a7 LL ?_|(apply aL;first|refine aK a7 ?_|refine aH a7 ?_)|(apply aU;first|refine LT 5 a7 0 LQ ?_|refine LT 5 a7 1 LQ ?_|refine LT 5 a7 2 LQ ?_|refine LU a7 0 LP ?_|refine LU a7 1 LP ?_|refine LU a7 2 LP ?_|refine LU a7 3 LP ?_|fail)|refine bf a7 fun _=>?_|(apply bk;refine b9 ?_)|fail)
  by_cases hG:kQ f p.Glyph=true
  ·rw [hG]
   repeat' (first|refine LR a7 LL ?_|refine MB LL ?_)
   refine oK (E x) [] hB (hy i x p hj hp hG) rfl rfl rfl (by rw [List.append_nil];exact Mp _) rfl rfl fun c L1 ⟨hc,x',hj',hL⟩=>?_
   subst hc;subst hL
   rw [List.append_nil]
   repeat' (first|refine a6 ?_|refine aq ?_|refine a8 ?_|refine aP ?_|refine aa ?_|refine LR a7 LL ?_|refine MB LL ?_|(apply aY;refine aX ?_)|refine bo rfl ?_)
   exact aE (i+1,x') rfl ⟨by rw [Mw];rfl,trivial⟩ ⟨by dsimp only;omega,hj'⟩ (by dsimp only;omega) (fun _ _ h=>h)
  ·have hG':kQ f p.Glyph=false:=by simpa using hG
   rw [hG']
   repeat' (first|refine a6 ?_|refine aq ?_|refine a8 ?_|refine aP ?_|refine aa ?_|refine LR a7 LL ?_|refine MC LN ?_|(apply aY;refine aX ?_)|refine bo rfl ?_)
   exact aE (i+1,x) rfl ⟨by rw [Mw];rfl,trivial⟩ ⟨by dsimp only;omega,hs i x p hj hp hG'⟩ (by dsimp only;omega) (fun _ _ h=>h)
 ·have hil:i=gl.Parts.length:=by have:=My h;simp at this;omega
  subst hil
  repeat' (first|refine aO ?_|refine av ?_|refine aC ?_|refine aA ?_)
  exact bT rfl ⟨x,hj,rfl⟩
end Go.Proofs.YtamjlkdanllgjaaGreatDoor
